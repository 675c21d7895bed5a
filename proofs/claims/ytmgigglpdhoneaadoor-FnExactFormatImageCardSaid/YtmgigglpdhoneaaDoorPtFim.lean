/-
  Plain: the law of FormatImage.
-/
import Derived.Test.YtmgigglpdhoneaaDoorPsI
import Derived.Test.YtmgigglpdhoneaaDoorGpI
set_option linter.unusedVariables false
set_option linter.unusedSimpArgs false
namespace Go.Abs
theorem FormatImage_eq (m : PImage) (hw : wM m ≤ 1048576) : ∃ ls, i_FormatImage m = some ls ∧ s_FormatImage m = some ls ∧ ls.length ≤ 1048576 := by
  have hs := small_wM hw
  have hl := linesT_len m.codes
  have e : wM m = wts wC m.codes := rfl
  have hc := hs.1
  unfold i_FormatImage s_FormatImage s_l10Own
  by_cases h0 : (m.codes.length : Int) = 0
  · rw [if_pos h0, if_neg (by omega), bnd_eq, if_neg (by simp)]
    exact ⟨_, rfl, rfl, by simp⟩
  rw [if_neg h0, if_pos (by omega), chk_t (show -9223372036854775808 ≤ (m.codes.length : Int) - 1 ∧ (m.codes.length : Int) - 1 ≤ 9223372036854775807 by omega), chk_t (show -9223372036854775808 ≤ (m.codes.length : Int) - 1 ∧ (m.codes.length : Int) - 1 ≤ 9223372036854775807 by omega)]
  have hlt : m.codes.length - 1 < m.codes.length := by omega
  have hx : nth m.codes ((m.codes.length : Int) - 1) = some m.codes[m.codes.length - 1] := by
    have : (m.codes.length : Int) - 1 = ((m.codes.length - 1 : Nat) : Int) := by omega
    rw [this]; exact nth_lt hlt
  rw [hx, bnd_eq, bnd_eq, i_IsImage_eq m hs, bnd_eq, s_IsImage_eq m hs, bnd_eq, bnd_eq]
  cases hi : isImg m m.codes[m.codes.length - 1].captures
  · rw [if_neg (by simp), if_neg (by simp)]
    exact ⟨_, rfl, rfl, by simp⟩
  · rw [if_pos rfl, if_pos rfl, i_imageLines_eq m hw (isImg_nums hi), s_l10Lines_eq m hw (isImg_nums hi), bnd_eq]
    exact ⟨_, rfl, rfl, by omega⟩
theorem w_FnExactFormatImage_true (m : PImage) (hm : m.ok) : w_FnExactFormatImage m = some true := by
  unfold w_FnExactFormatImage
  rw [szImage_eq m hm _ (by omega) (by omega), bnd_eq]
  by_cases h : szw (wM m) 1048576 < 0
  · rw [if_pos h]
  have hw : wM m ≤ 1048576 := by have := (szw_pos h).2; omega
  have hs : m.small := small_wM hw
  obtain ⟨ls, e1, e2, e3⟩ := FormatImage_eq m hw
  obtain ⟨k', xs', m1, m2, m3⟩ := markImage_some m 1 hw (by omega) (by omega)
  obtain ⟨a', n1, n2, n3⟩ := markStringS_some ls e3
  rw [if_neg h]
  simp only [toImage_eq m hs, bnd_eq, e1, e2, eqStringS_refl ls e3, if_true, eqImage_eq m hs, m1, n1]
  rw [chk_t m2, if_neg (by show ¬ k' < 0; omega), chk_t n2, heldStringS_eq a' (by omega) (by rw [n2]; exact n3), n2]
  simp only [bnd_eq, if_true]
  rw [if_neg (by omega), if_neg (by omega)]
end Go.Abs
