/-
  FnExactOptimizeUnits: for every argument the law's function returns true. Conditions: none.
-/
import Derived.Test.YtllbdfllngpkaaaGreatDecOun
import Derived.Test.YtllbdfllngpkaaaGreatGwD
import Derived.Test.YtllbdfllngpkaaaGreatLibT
set_option linter.unusedVariables false
set_option linter.unusedSimpArgs false
namespace Go.Proofs.YtllbdfllngpkaaaGreat
open Go.Abs Go.ChangeShapes Go.WideShapes Go.ChangeAt Go.RowKit
set_option maxRecDepth 100000 in
theorem FnExactOptimizeUnits_lifted (os : Os) (started : os.Started) (H : Type) (enc : TypeId × Value → H) :
 ReturnsInHanded {} Tryz.checked os 4 .any (Rows.fnExactOptimizeUnitsSpec.pre6 enc Tryz.prog Tryz.f4 Rows.fnExactOptimizeUnitsRow.domain false) (Rows.fnExactOptimizeUnitsSpec.post enc Tryz.prog Tryz.f4 false true false false) := by
 refine returnsInHanded_of_change (C := Tryz.checked) Tryz.own started (by kernel_rfl) Tryz.func4
  (ChangeSpec.witness6 (enc := enc) (C := Tryz.checked) false ⟨#[], #[.slice none 0 0], []⟩ 8 (by kernel_rfl) (by kernel_rfl) (by kernel_rfl) (by kernel_rfl)) ?_
 intro W base args ds gs before hval0 hW _ _;have hval : ∀ (j : Nat) t v, Tryz.f4.params[j]? = some t → args[j]? = some v → Value.okWide Tryz.prog W .any base t v := hval0;have hW' := hW;obtain ⟨p, q, hA0, hV, rfl, hfz, hnd⟩ := hW;have hA : DataW.TrodAll enc Tryz.prog W 0 (fun _ => true) true Tryz.f4.params.toList args.toList ds p := hA0;rw [Tryz.params4] at hA hval;obtain ⟨v0, d0, rfl, rfl, h0⟩ := trodAll_one hA;obtain ⟨rfl, rfl⟩ := trodVars_none hV;obtain ⟨x0, w0, r0⟩ := decA_T47 H enc (Ctx.start W) W base v0 d0 _ (start_good W) (hval 0 47 v0 rfl rfl) h0;refine (law_calls (kC x0 true (iC x0 w0)) (.cons r0 .nil)).mono ?_;rintro e W' ⟨v, rfl, hv, A⟩;exact ⟨v, rfl, post_true hW' rfl Tryz.laidOut (by kernel_rfl) (by kernel_rfl) Tryz.underlying4 rfl A hv⟩
theorem FnExactOptimizeUnits_holds : Rows.FnExactOptimizeUnitsSaid :=
 OpenClaim.holds_of_wide 4 Tryz.f4 rfl rfl rfl rfl rfl rfl rfl ⟨rfl, rfl, rfl, rfl, rfl⟩ rfl rfl rfl rfl rfl (by kernel_rfl) Tryz.func4 (by kernel_rfl)
  (of_decide_eq_true (by kernel_rfl)) (by unfold Func.isWrapper; first | (rw [if_pos (by decide +kernel)]; kernel_rfl) | (rw [if_neg (by decide +kernel)]; exact ⟨rfl, rfl⟩))
  (fun os started H enc _ => FnExactOptimizeUnits_lifted os started H enc)
end Go.Proofs.YtllbdfllngpkaaaGreat
