/-
  FnExactSubstituteCore: for every argument the law's function returns true. Conditions: none.
-/
import Derived.Test.YtmgigglpdhoneaaDecSub
import Derived.Test.YtmgigglpdhoneaaGwD
import Derived.Test.YtmgigglpdhoneaaPtSub
set_option linter.unusedVariables false
set_option linter.unusedSimpArgs false
namespace Go.Proofs.Ytmgigglpdhoneaa
open Go.Abs Go.ChangeShapes Go.WideShapes Go.ChangeAt Go.RowKit
set_option maxRecDepth 100000 in
theorem FnExactSubstituteCore_lifted (os : Os) (started : os.Started) (H : Type) (enc : TypeId × Value → H) :
  ReturnsInHanded {} Try.checked os 3 .any (Rows.fnExactSubstituteCoreSpec.pre6 enc Try.prog Try.f3 Rows.fnExactSubstituteCoreRow.domain false) (Rows.fnExactSubstituteCoreSpec.post enc Try.prog Try.f3 false true false false) := by
 refine returnsInHanded_of_change (C := Try.checked) Try.own started (by kernel_rfl) Try.func3
  (ChangeSpec.witness6 (enc := enc) (C := Try.checked) false ⟨#[], #[.agg #[.int .i64 0, .int .i64 0, .slice none 0 0, .int .i64 0, .int .i64 0, .string ⟨#[]⟩, .slice none 0 0, .slice none 0 0], .int .i64 0, .agg #[.int .i64 0, .int .i64 0, .slice none 0 0, .int .i64 0, .int .i64 0, .string ⟨#[]⟩, .slice none 0 0, .slice none 0 0]], []⟩ 8 (by kernel_rfl) (by kernel_rfl) (by kernel_rfl) (by kernel_rfl)) ?_
 intro W base args ds gs before hval0 hW _ _
 have hval : ∀ (j : Nat) t v, Try.f3.params[j]? = some t → args[j]? = some v → Value.okWide Try.prog W .any base t v := hval0
 have hW' := hW
 obtain ⟨p, q, hA0, hV, rfl, hfz, hnd⟩ := hW
 have hA : DataW.TrodAll enc Try.prog W 0 (fun _ => true) true Try.f3.params.toList args.toList ds p := hA0
 rw [Try.params3] at hA hval
 obtain ⟨v0, v1, v2, d0, d1, d2, p0, p1, p2, rfl, rfl, rfl, h0, h1, h2⟩ := trodAll_three hA
 obtain ⟨rfl, rfl⟩ := trodVars_none hV
 obtain ⟨x0, w0, r0⟩ := decA_T28 H enc (Ctx.start W) W base v0 d0 _ (bc9 W) (hval 0 28 v0 rfl rfl) h0
 obtain ⟨x1, w1, r1⟩ := decA_T3 H enc (Ctx.start W) W base v1 d1 _ (bc9 W) (hval 1 3 v1 rfl rfl) h1
 obtain ⟨x2, w2, r2⟩ := decA_T28 H enc (Ctx.start W) W base v2 d2 _ (bc9 W) (hval 2 28 v2 rfl rfl) h2
 refine (law_calls (w_FnExactSubstituteCore_ok x0 x1 x2 true (ao5 x0 x1 x2 w0 w1 w2)) (.cons r0 (.cons r1 (.cons r2 .nil)))).mono ?_
 rintro e W' ⟨v, rfl, hv, A⟩
 exact ⟨v, rfl, post_true hW' rfl Try.laidOut (by kernel_rfl) (by kernel_rfl) Try.underlying4 rfl A hv⟩
theorem FnExactSubstituteCore_holds : Rows.FnExactSubstituteCoreSaid :=
 OpenClaim.holds_of_wide 3 Try.f3 rfl rfl rfl rfl rfl rfl rfl ⟨rfl, rfl, rfl, rfl, rfl⟩ rfl rfl rfl rfl rfl (by kernel_rfl) Try.func3 (by kernel_rfl)
  (of_decide_eq_true (by kernel_rfl)) (by unfold Func.isWrapper; first | (rw [if_pos (by decide +kernel)]; kernel_rfl) | (rw [if_neg (by decide +kernel)]; exact ⟨rfl, rfl⟩))
  (fun os started H enc _ => FnExactSubstituteCore_lifted os started H enc)
end Go.Proofs.Ytmgigglpdhoneaa
