/-
  Plain: the law of IsImage.
-/
import Derived.Test.YtiecdekmiabmkaaPsL
import Derived.Test.YtiecdekmiabmkaaGpE
set_option linter.unusedVariables false
set_option linter.unusedSimpArgs false
namespace Go.Abs
theorem w_FnExactIsImage_true (m : PImage) (c : Int) (hm : m.ok) (hc : IntKind.i64.min ≤ c ∧ c ≤ IntKind.i64.max) : w_FnExactIsImage m c = some true := by
  unfold w_FnExactIsImage
  rw [szImage_eq m hm _ (by omega) (by omega), bnd_eq]
  by_cases h : szw (wM m) 1048576 < 0
  · rw [if_pos h]
  · have hs : m.small := small_wM (by have := (szw_pos h).2; omega)
    rw [if_neg h]
    simp only [toImage_eq m hs, bnd_eq, s_IsImage_eq m hs, i_IsImage_eq m hs, eqImage_eq m hs]
    simp
end Go.Abs
