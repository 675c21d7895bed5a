/-
  The arguments read.
-/
import Derived.Test.YtiecdekmiabmkaaTab1
import Derived.Test.YtiecdekmiabmkaaPsL
import Derived.Test.YtiecdekmiabmkaaLibC
import Derived.Test.YtiecdekmiabmkaaLibD
set_option linter.unusedVariables false
set_option linter.unusedSimpArgs false
namespace Go.Proofs.Ytiecdekmiabmkaa
open Go.Abs Go.ChangeShapes Go.WideShapes Go.ChangeAt Go.RowKit

theorem Try.own : ownKnob Try.prog.godebug = none := by kernel_rfl
theorem Try.laidOut : laidOutB Try.prog = true := by kernel_rfl
theorem dec_T60 (N : Nat) : Dec Try.prog N 60 PDat.wf (fun x => cDat.row 0 x) := by
  induction N using Nat.strongRecOn with
  | _ N ih =>
    cases N with
    | zero => exact dec_zero
    | succ N =>
      exact (dec_struct Try.underlying60 (by kernel_rfl) (decF_cons (n := 1) rfl (by kernel_rfl) (dec_int Try.underlying3) (decF_cons (n := 1) rfl (by kernel_rfl) (dec_int Try.underlying3) (decF_cons (n := 1) rfl (by kernel_rfl) (dec_str Try.underlying9) (decF_one rfl (dec_sl cDat (e := 60) Try.underlying58 (by kernel_rfl) rfl (ih _ (by omega)))))))).map (fun x => PDat.mk x.1 x.2.1 x.2.2.1 x.2.2.2) (fun _ h => PDat.wf_of h) (fun _ => rfl)
theorem decA_T60 : DecA Try.prog 60 PDat.wf (fun x => .agg (cDat.row 0 x)) := decA_struct Try.underlying60 dec_T60
theorem dec_T37 (N : Nat) : Dec Try.prog N 37 PVal.wf (fun x => cVal.row 0 x) :=
  (dec_struct Try.underlying37 (by kernel_rfl) (decF_cons (n := 1) rfl (by kernel_rfl) (dec_int Try.underlying3) (decF_cons (n := 1) rfl (by kernel_rfl) (dec_int Try.underlying3) (decF_one rfl (dec_str Try.underlying9))))).map (fun x => PVal.mk x.1 x.2.1 x.2.2) (fun _ h => h) (fun _ => rfl)
theorem dec_T94 (N : Nat) : Dec Try.prog N 94 PPair.wf (fun x => cPair.row 0 x) :=
  (dec_struct Try.underlying94 (by kernel_rfl) (decF_cons (n := 3) rfl (by kernel_rfl) (dec_T37 _) (decF_one rfl (dec_T37 _)))).map (fun x => PPair.mk x.1 x.2) (fun _ h => h) (fun _ => rfl)
theorem decA_T30 : DecA Try.prog 30 (fun xs : List PPair => xs.length ≤ 9223372036854775807 ∧ ∀ x ∈ xs, PPair.wf x) (fun x => .psl 0 6 (x.map (cPair.enc 0))) :=
  decA_cell (fun N => (dec_sl cPair (e := 94) Try.underlying30 (by kernel_rfl) rfl (dec_T94 _))) (fun fs h => by rw [Try.underlying30] at h; cases h) (fun n e h => by rw [Try.underlying30] at h; cases h)

end Go.Proofs.Ytiecdekmiabmkaa
