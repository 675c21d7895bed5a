/-
  Plain: the law of FormatInstr.
-/
import Derived.Test.YtiecdekmiabmkaaDoorPsH
set_option linter.unusedVariables false
set_option linter.unusedSimpArgs false
namespace Go.Abs
theorem w_FnExactFormatInstr_true (x : PInstr) (hx : x.ok) : w_FnExactFormatInstr x = some true := by
  unfold w_FnExactFormatInstr
  rw [szInstr_eq x hx _ (by omega) (by omega), bnd_eq]
  by_cases h : szw (wI x) 1048576 < 0
  · rw [if_pos h]
  have hw : wD x.d ≤ 1048576 := by have := (szw_pos h).2; have e : wI x = wD x.d := rfl; omega
  have hs := small_wD hw
  obtain ⟨t, e1, e2, _⟩ := FormatInstr_eq x hw
  rw [if_neg h]
  simp only [toInstr_eq x hs, bnd_eq, e1, e2, if_true, eqInstr_eq x hs]
end Go.Abs
