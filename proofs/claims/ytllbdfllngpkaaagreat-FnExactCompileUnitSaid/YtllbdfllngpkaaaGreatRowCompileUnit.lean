/-
  FnExactCompileUnit: for every argument the law's function returns true. Conditions: none.
-/
import Derived.Test.YtllbdfllngpkaaaGreatDecCun
import Derived.Test.YtllbdfllngpkaaaGreatGwD
import Derived.Test.YtllbdfllngpkaaaGreatLibU
set_option linter.all false
namespace Go.Proofs.YtllbdfllngpkaaaGreat
open Go.Abs Go.ChangeShapes Go.WideShapes Go.ChangeAt Go.RowKit
set_option maxRecDepth 100000 in
theorem FnExactCompileUnit_lifted (os : Os) (started : os.Started) (H : Type) (enc : TypeId × Value → H) :
 ReturnsInHanded {} Tryz.checked os 5 .any (Rows.fnExactCompileUnitSpec.pre6 enc Tryz.prog Tryz.f5 Rows.fnExactCompileUnitRow.domain false) (Rows.fnExactCompileUnitSpec.post enc Tryz.prog Tryz.f5 false true false false) := by
 refine returnsInHanded_of_change (C := Tryz.checked) Tryz.own started (by kernel_rfl) Tryz.func5
  (ChangeSpec.witness6 (enc := enc) (C := Tryz.checked) false ⟨#[], #[.agg #[.string ⟨#[]⟩, .slice none 0 0, .int .i64 0, .int .i64 0, .slice none 0 0, .int .i64 0, .int .i64 0, .string ⟨#[]⟩, .slice none 0 0, .slice none 0 0]], []⟩ 8 (by kernel_rfl) (by kernel_rfl) (by kernel_rfl) (by kernel_rfl)) ?_
 intro W base args ds gs before hval0 hW _ _;have hval : ∀ (j : Nat) t v, Tryz.f5.params[j]? = some t → args[j]? = some v → Value.okWide Tryz.prog W .any base t v := hval0;have hW' := hW;obtain ⟨p, q, hA0, hV, rfl, hfz, hnd⟩ := hW;have hA : DataW.TrodAll enc Tryz.prog W 0 (fun _ => true) true Tryz.f5.params.toList args.toList ds p := hA0;rw [Tryz.params5] at hA hval;obtain ⟨v0, d0, rfl, rfl, h0⟩ := trodAll_one hA;obtain ⟨rfl, rfl⟩ := trodVars_none hV;obtain ⟨x0, w0, r0⟩ := decA_T57 H enc (Ctx.start W) W base v0 d0 _ (start_good W) (hval 0 57 v0 rfl rfl) h0;refine (law_calls (oS x0 true (lF x0 w0)) (.cons r0 .nil)).mono ?_;rintro e W' ⟨v, rfl, hv, A⟩;exact ⟨v, rfl, post_true hW' rfl Tryz.laidOut (by kernel_rfl) (by kernel_rfl) Tryz.underlying4 rfl A hv⟩
theorem FnExactCompileUnit_holds : Rows.FnExactCompileUnitSaid :=
 OpenClaim.holds_of_wide 5 Tryz.f5 rfl rfl rfl rfl rfl rfl rfl ⟨rfl, rfl, rfl, rfl, rfl⟩ rfl rfl rfl rfl rfl (by kernel_rfl) Tryz.func5 (by kernel_rfl)
  (of_decide_eq_true (by kernel_rfl)) (by unfold Func.isWrapper; first | (rw [if_pos (by decide +kernel)]; kernel_rfl) | (rw [if_neg (by decide +kernel)]; exact ⟨rfl, rfl⟩))
  (fun os started H enc _ => FnExactCompileUnit_lifted os started H enc)
end Go.Proofs.YtllbdfllngpkaaaGreat
