/-
  Plain: the law of StackDepths.
-/
import Derived.Test.YtiecdekmiabmkaaPsM
set_option linter.unusedVariables false
set_option linter.unusedSimpArgs false
namespace Go.Abs

theorem runD_len (m : PImage) (len : Int) : ∀ (xs : List PInstr) (i : Nat) (out o : List Int), runD m len i xs out = some o → o.length = out.length
  | [], _, out, o, h => by simp only [runD, Option.some.injEq] at h; rw [h]
  | x :: r, i, out, o, h => by
    simp only [runD] at h
    split at h
    · rename_i o1 h1
      rw [runD_len m len r (i + 1) o1 o h, stepD_len h1]
    · cases h
theorem stackOf_len (m : PImage) (hm : m.small) (code : Int) : (stackOf m code).1.length ≤ 1048576 := by
  unfold stackOf
  split
  · simp
  · split
    · rename_i h1 h2
      cases hd : depthsOf m code.toNat with
      | none => simp [dres]
      | some o =>
        have := runD_len m _ _ _ _ _ hd
        show o.length ≤ 1048576
        rw [this]
        simp only [List.length_set, List.length_replicate]
        have hlt : code.toNat < m.codes.length := by omega
        have : m.codes.getD code.toNat default = m.codes[code.toNat] := by simp [List.getD, List.getElem?_eq_getElem hlt]
        rw [this]
        exact (hm.2 _ (List.getElem_mem hlt)).1
    · simp
theorem eqIntS_same (xs : List Int) (h : xs.length ≤ 1048576) : w_eqIntS xs xs = some true := by
  unfold w_eqIntS
  exact eqS_refl' (L := w_eqIntS_L1 xs xs) xs h (fun go i => rfl)
theorem w_FnExactStackDepths_true (m : PImage) (c : Int) (hm : m.ok) (hc : IntKind.i64.min ≤ c ∧ c ≤ IntKind.i64.max) : w_FnExactStackDepths m c = some true := by
  unfold w_FnExactStackDepths
  rw [szImage_eq m hm _ (by omega) (by omega), bnd_eq]
  by_cases h : szw (wM m) 1048576 < 0
  · rw [if_pos h]
  · have hw : wM m ≤ 1048576 := by have := (szw_pos h).2; omega
    have hs : m.small := small_wM hw
    have hl := stackOf_len m hs c
    obtain ⟨k', xs', e1, e2, e3⟩ := markImage_some m 1 hw (by omega) (by omega)
    rw [if_neg h]
    simp only [toImage_eq m hs, bnd_eq, s_StackDepths_eq m hs, i_StackDepths_eq m hs, eqImage_eq m hs, eqIntS_same _ hl, if_true, e1]
    rw [chk_t e2, if_neg (by show ¬ k' < 0; omega)]
    simp only [markIntS_some _ hl, bnd_eq]
    rw [chk_t (by show (nums 1 _).length = _; exact nums_len _ _)]
    simp only [heldIntS_nums _ hl, bnd_eq]
    rw [if_neg (by omega)]
    simp only [if_true]
    rw [if_neg (by omega)]
end Go.Abs
