/-
  The arguments read: values, pairs.
-/
import Derived.Test.YtiecdekmiabmkaaTab1
import Derived.Test.YtiecdekmiabmkaaPlB
import Derived.Test.YtiecdekmiabmkaaAbsN
set_option linter.unusedVariables false
set_option linter.unusedSimpArgs false
namespace Go.Proofs.Ytiecdekmiabmkaa
open Go.Abs Go.ChangeShapes Go.WideShapes Go.ChangeAt Go.RowKit

theorem Try.own : ownKnob Try.prog.godebug = none := by kernel_rfl
theorem Try.laidOut : laidOutB Try.prog = true := by kernel_rfl

theorem dec_val (N : Nat) : Dec Try.prog N 37 PVal.wf PVal.enc :=
  (dec_struct Try.underlying37 (by kernel_rfl) (decF_cons (n := 1) rfl (by kernel_rfl) (dec_int Try.underlying3) (decF_cons (n := 1) rfl (by kernel_rfl) (dec_int Try.underlying3) (decF_one rfl (dec_str Try.underlying9))))).map
    (fun x => (⟨x.1, x.2.1, x.2.2⟩ : PVal)) (fun _ h => h) (fun _ => rfl)

theorem dec_pair (N : Nat) : Dec Try.prog N 94 PPair.wf PPair.enc :=
  (dec_struct Try.underlying94 (by kernel_rfl) (decF_cons (n := 3) rfl (by kernel_rfl) (dec_val _) (decF_one rfl (dec_val _)))).map
    (fun x => (⟨x.1, x.2⟩ : PPair)) (fun _ h => h) (fun _ => rfl)

theorem dec_pairs : DecA Try.prog 30 pairsWf (fun ps => .psl 0 6 (ps.map PPair.enc)) :=
  decA_cell (fun N => dec_slice Try.underlying30 (by kernel_rfl) (by decide) (dec_pair _)) (fun fs h => by rw [Try.underlying30] at h; cases h) (fun n e h => by rw [Try.underlying30] at h; cases h)

theorem dec_vals : DecA Try.prog 52 valsWf (fun vs => .psl 0 3 (vs.map PVal.enc)) :=
  decA_cell (fun N => dec_slice Try.underlying52 (by kernel_rfl) (by decide) (dec_val _)) (fun fs h => by rw [Try.underlying52] at h; cases h) (fun n e h => by rw [Try.underlying52] at h; cases h)

theorem dec_num : DecA Try.prog 3 (fun n : Int => IntKind.i64.min ≤ n ∧ n ≤ IntKind.i64.max) (fun n => .int .i64 n) :=
  decA_cell (fun N => dec_int Try.underlying3) (fun fs h => by rw [Try.underlying3] at h; cases h) (fun n e h => by rw [Try.underlying3] at h; cases h)

theorem dec_value : DecA Try.prog 37 PVal.wf (fun v => .agg v.enc) := decA_struct Try.underlying37 dec_val

end Go.Proofs.Ytiecdekmiabmkaa
