/-
  The row of FnExactValueOf: for all arguments the law's function returns true. Conditions: none.
-/
import Derived.Test.YtiecdekmiabmkaaDecVal
import Derived.Test.YtiecdekmiabmkaaGwE
import Derived.Test.YtiecdekmiabmkaaPtVal
set_option linter.unusedVariables false
set_option linter.unusedSimpArgs false
namespace Go.Proofs.Ytiecdekmiabmkaa
open Go.Abs Go.ChangeShapes Go.WideShapes Go.ChangeAt Go.RowKit

set_option maxRecDepth 100000 in
theorem FnExactValueOf_lifted (os : Os) (started : os.Started) (H : Type) (enc : TypeId × Value → H) :
    ReturnsInHanded {} Try.checked os 8 .any (Rows.fnExactValueOfSpec.pre6 enc Try.prog Try.f8 Rows.fnExactValueOfRow.domain false) (Rows.fnExactValueOfSpec.post enc Try.prog Try.f8 false true false false) := by
  refine returnsInHanded_of_change (C := Try.checked) Try.own started (by kernel_rfl) Try.func8
    (ChangeSpec.witness6 (enc := enc) (C := Try.checked) false ⟨#[], #[.agg #[.int .i64 0, .int .i64 0, .string ⟨#[]⟩, .slice none 0 0], .slice none 0 0], []⟩ 8 (by kernel_rfl) (by kernel_rfl) (by kernel_rfl) (by kernel_rfl)) ?_
  intro W base args ds gs before hval0 hW _ _
  have hval : ∀ (j : Nat) t v, Try.f8.params[j]? = some t → args[j]? = some v → Value.okWide Try.prog W .any base t v := hval0
  have hW' := hW
  obtain ⟨p, q, hA0, hV, rfl, hfz, hnd⟩ := hW
  have hA : DataW.TrodAll enc Try.prog W 0 (fun _ => true) true Try.f8.params.toList args.toList ds p := hA0
  rw [Try.params8] at hA hval
  obtain ⟨v0, v1, d0, d1, p0, p1, rfl, rfl, rfl, h0, h1⟩ := trodAll_two hA
  obtain ⟨rfl, rfl⟩ := trodVars_none hV
  obtain ⟨x0, w0, r0⟩ := decA_T60 H enc (Ctx.start W) W base v0 d0 _ (start_good W) (hval 0 60 v0 rfl rfl) h0
  obtain ⟨x1, w1, r1⟩ := decA_T30 H enc (Ctx.start W) W base v1 d1 _ (start_good W) (hval 1 30 v1 rfl rfl) h1
  refine (law_calls (w_FnExactValueOf_ok x0 x1 true (w_FnExactValueOf_true x0 x1 w0 w1)) (.cons r0 (.cons r1 .nil))).mono ?_
  rintro e W' ⟨v, rfl, hv, A⟩
  exact ⟨v, rfl, post_true hW' rfl Try.laidOut (by kernel_rfl) (by kernel_rfl) Try.underlying4 rfl A hv⟩

theorem FnExactValueOf_holds : Rows.FnExactValueOfSaid :=
  OpenClaim.holds_of_wide 8 Try.f8 rfl rfl rfl rfl rfl rfl rfl ⟨rfl, rfl, rfl, rfl, rfl⟩ rfl rfl rfl rfl rfl (by kernel_rfl) Try.func8 (by kernel_rfl)
    (of_decide_eq_true (by kernel_rfl)) (by unfold Func.isWrapper; first | (rw [if_pos (by decide +kernel)]; kernel_rfl) | (rw [if_neg (by decide +kernel)]; exact ⟨rfl, rfl⟩))
    (fun os started H enc _ => FnExactValueOf_lifted os started H enc)

end Go.Proofs.Ytiecdekmiabmkaa
