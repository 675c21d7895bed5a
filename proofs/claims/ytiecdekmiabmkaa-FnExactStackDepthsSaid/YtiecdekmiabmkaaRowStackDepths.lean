/-
  The row of FnExactStackDepths: for all arguments the law's function returns true. Conditions: none.
-/
import Derived.Test.YtiecdekmiabmkaaDecStk
import Derived.Test.YtiecdekmiabmkaaGwE
import Derived.Test.YtiecdekmiabmkaaPtStk
set_option linter.unusedVariables false
set_option linter.unusedSimpArgs false
namespace Go.Proofs.Ytiecdekmiabmkaa
open Go.Abs Go.ChangeShapes Go.WideShapes Go.ChangeAt Go.RowKit

set_option maxRecDepth 100000 in
theorem FnExactStackDepths_lifted (os : Os) (started : os.Started) (H : Type) (enc : TypeId × Value → H) :
    ReturnsInHanded {} Try.checked os 10 .any (Rows.fnExactStackDepthsSpec.pre6 enc Try.prog Try.f10 Rows.fnExactStackDepthsRow.domain false) (Rows.fnExactStackDepthsSpec.post enc Try.prog Try.f10 false true false false) := by
  refine returnsInHanded_of_change (C := Try.checked) Try.own started (by kernel_rfl) Try.func10
    (ChangeSpec.witness6 (enc := enc) (C := Try.checked) false ⟨#[], #[.agg #[.slice none 0 0, .int .i64 0], .int .i64 0], []⟩ 8 (by kernel_rfl) (by kernel_rfl) (by kernel_rfl) (by kernel_rfl)) ?_
  intro W base args ds gs before hval0 hW _ _
  have hval : ∀ (j : Nat) t v, Try.f10.params[j]? = some t → args[j]? = some v → Value.okWide Try.prog W .any base t v := hval0
  have hW' := hW
  obtain ⟨p, q, hA0, hV, rfl, hfz, hnd⟩ := hW
  have hA : DataW.TrodAll enc Try.prog W 0 (fun _ => true) true Try.f10.params.toList args.toList ds p := hA0
  rw [Try.params10] at hA hval
  obtain ⟨v0, v1, d0, d1, p0, p1, rfl, rfl, rfl, h0, h1⟩ := trodAll_two hA
  obtain ⟨rfl, rfl⟩ := trodVars_none hV
  obtain ⟨x0, w0, r0⟩ := decA_T44 H enc (Ctx.start W) W base v0 d0 _ (start_good W) (hval 0 44 v0 rfl rfl) h0
  obtain ⟨x1, w1, r1⟩ := decA_T3 H enc (Ctx.start W) W base v1 d1 _ (start_good W) (hval 1 3 v1 rfl rfl) h1
  refine (law_calls (w_FnExactStackDepths_ok x0 x1 true (w_FnExactStackDepths_true x0 x1 w0 w1)) (.cons r0 (.cons r1 .nil))).mono ?_
  rintro e W' ⟨v, rfl, hv, A⟩
  exact ⟨v, rfl, post_true hW' rfl Try.laidOut (by kernel_rfl) (by kernel_rfl) Try.underlying4 rfl A hv⟩

theorem FnExactStackDepths_holds : Rows.FnExactStackDepthsSaid :=
  OpenClaim.holds_of_wide 10 Try.f10 rfl rfl rfl rfl rfl rfl rfl ⟨rfl, rfl, rfl, rfl, rfl⟩ rfl rfl rfl rfl rfl (by kernel_rfl) Try.func10 (by kernel_rfl)
    (of_decide_eq_true (by kernel_rfl)) (by unfold Func.isWrapper; first | (rw [if_pos (by decide +kernel)]; kernel_rfl) | (rw [if_neg (by decide +kernel)]; exact ⟨rfl, rfl⟩))
    (fun os started H enc _ => FnExactStackDepths_lifted os started H enc)

end Go.Proofs.Ytiecdekmiabmkaa
