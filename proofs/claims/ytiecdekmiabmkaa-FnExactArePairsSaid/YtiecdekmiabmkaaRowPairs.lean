/-
  The rows on pairs and values: the arguments read, the contract, the row.
-/
import Derived.Test.YtiecdekmiabmkaaLawPairs
set_option linter.unusedVariables false
set_option linter.unusedSimpArgs false
namespace Go.Proofs.Ytiecdekmiabmkaa
open Go.Abs Go.ChangeShapes Go.WideShapes Go.ChangeAt Go.RowKit

theorem Try.own : ownKnob Try.prog.godebug = none := by kernel_rfl
theorem Try.laidOut : laidOutB Try.prog = true := by kernel_rfl

theorem dec_val (N : Nat) : Dec Try.prog N 37 PVal.wf PVal.enc :=
  (dec_struct Try.underlying37 (by kernel_rfl) (decF_cons (n := 1) rfl (by kernel_rfl) (dec_int Try.underlying3) (decF_cons (n := 1) rfl (by kernel_rfl) (dec_int Try.underlying3) (decF_one rfl (dec_str Try.underlying9))))).map
    (fun x => (⟨x.1, x.2.1, x.2.2⟩ : PVal)) (fun _ h => h) (fun _ => rfl)

theorem dec_pair (N : Nat) : Dec Try.prog N 94 PPair.wf PPair.enc :=
  (dec_struct Try.underlying94 (by kernel_rfl) (decF_cons (n := 3) rfl (by kernel_rfl) (dec_val _) (decF_one rfl (dec_val _)))).map
    (fun x => (⟨x.1, x.2⟩ : PPair)) (fun _ h => h) (fun _ => rfl)

theorem dec_pairs : DecA Try.prog 30 pairsWf (fun ps => .psl 0 6 (ps.map PPair.enc)) :=
  decA_cell (fun N => dec_slice Try.underlying30 (by kernel_rfl) (by decide) (dec_pair _)) (fun fs h => by rw [Try.underlying30] at h; cases h) (fun n e h => by rw [Try.underlying30] at h; cases h)

set_option maxRecDepth 100000 in
theorem FnExactArePairs_lifted (os : Os) (started : os.Started) (H : Type) (enc : TypeId × Value → H) :
    ReturnsInHanded {} Try.checked os 4 .any (Rows.fnExactArePairsSpec.pre6 enc Try.prog Try.f4 Rows.fnExactArePairsRow.domain false) (Rows.fnExactArePairsSpec.post enc Try.prog Try.f4 false true false false) := by
  refine returnsInHanded_of_change (C := Try.checked) Try.own started (by kernel_rfl) Try.func4
    (ChangeSpec.witness6 (enc := enc) (C := Try.checked) false ⟨#[], #[.slice none 0 0], []⟩ 8 (by kernel_rfl) (by kernel_rfl) (by kernel_rfl) (by kernel_rfl)) ?_
  intro W base args ds gs before hval0 hW _ _
  have hval : ∀ (j : Nat) t v, Try.f4.params[j]? = some t → args[j]? = some v → Value.okWide Try.prog W .any base t v := hval0
  have hW' := hW
  obtain ⟨p, q, hA0, hV, rfl, hfz, hnd⟩ := hW
  have hA : DataW.TrodAll enc Try.prog W 0 (fun _ => true) true Try.f4.params.toList args.toList ds p := hA0
  rw [Try.params4] at hA hval
  obtain ⟨v0, d0, rfl, rfl, h0⟩ := trodAll_one hA
  obtain ⟨rfl, rfl⟩ := trodVars_none hV
  obtain ⟨ps, hps, hr⟩ := dec_pairs H enc (Ctx.start W) W base v0 d0 _ (start_good W) (hval 0 30 v0 rfl rfl) h0
  refine (law_calls (FnExactArePairs_fc ps hps) (.cons hr .nil)).mono ?_
  rintro e W' ⟨v, rfl, hv, A⟩
  exact ⟨v, rfl, post_true hW' rfl Try.laidOut (by kernel_rfl) (by kernel_rfl) Try.underlying4 rfl A hv⟩

theorem FnExactArePairs_holds : Rows.FnExactArePairsSaid :=
  OpenClaim.holds_of_wide 4 Try.f4 rfl rfl rfl rfl rfl rfl rfl ⟨rfl, rfl, rfl, rfl, rfl⟩ rfl rfl rfl rfl rfl (by kernel_rfl) Try.func4 (by kernel_rfl)
    (of_decide_eq_true (by kernel_rfl)) (by unfold Func.isWrapper; first | (rw [if_pos (by decide +kernel)]; kernel_rfl) | (rw [if_neg (by decide +kernel)]; exact ⟨rfl, rfl⟩))
    (fun os started H enc _ => FnExactArePairs_lifted os started H enc)

end Go.Proofs.Ytiecdekmiabmkaa
