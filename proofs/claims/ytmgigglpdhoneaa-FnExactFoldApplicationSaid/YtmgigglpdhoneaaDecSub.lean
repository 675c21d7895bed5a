
import Derived.Test.YtmgigglpdhoneaaTab1
import Derived.Test.YtmgigglpdhoneaaLibT
import Derived.Test.YtmgigglpdhoneaaLibC
import Derived.Test.YtmgigglpdhoneaaLibD
set_option linter.unusedVariables false
set_option linter.unusedSimpArgs false
namespace Go.Proofs.Ytmgigglpdhoneaa
open Go.Abs Go.ChangeShapes Go.WideShapes Go.ChangeAt Go.RowKit
theorem Try.own : ownKnob Try.prog.godebug = none := by kernel_rfl
theorem Try.laidOut : laidOutB Try.prog = true := by kernel_rfl
theorem dec_T25 (N : Nat) : Dec Try.prog N 25 PDat.wf (fun x => cDat.row 0 x) := by
 induction N using Nat.strongRecOn with
 | _ N ih =>
  cases N with
  | zero => exact dec_zero
  | succ N =>
   exact (bo4 Try.underlying25 (by kernel_rfl) (ap0 (n := 1) rfl (by kernel_rfl) (bh2 Try.underlying3) (ap0 (n := 1) rfl (by kernel_rfl) (bh2 Try.underlying3) (ap0 (n := 1) rfl (by kernel_rfl) (dec_str Try.underlying9) (decF_one rfl (dec_sl cDat (e := 25) Try.underlying23 (by kernel_rfl) rfl (ih _ (by omega)))))))).map (fun x => PDat.mk x.1 x.2.1 x.2.2.1 x.2.2.2) (fun _ h => PDat.wf_of h) (fun _ => rfl)
theorem dec_T28 (N : Nat) : Dec Try.prog N 28 PCore.wf (fun x => cCore.row 0 x) := by
 induction N using Nat.strongRecOn with
 | _ N ih =>
  cases N with
  | zero => exact dec_zero
  | succ N =>
   exact (bo4 Try.underlying28 (by kernel_rfl) (ap0 (n := 1) rfl (by kernel_rfl) (bh2 Try.underlying3) (ap0 (n := 1) rfl (by kernel_rfl) (bh2 Try.underlying3) (ap0 (n := 1) rfl (by kernel_rfl) (dec_sl cInt (e := 3) Try.underlying22 (by kernel_rfl) rfl (bh2 Try.underlying3)) (ap0 (n := 4) rfl (by kernel_rfl) (dec_T25 _) (decF_one rfl (dec_sl cCore (e := 28) Try.underlying26 (by kernel_rfl) rfl (ih _ (by omega))))))))).map (fun x => PCore.mk x.1 x.2.1 x.2.2.1 x.2.2.2.1 x.2.2.2.2) (fun _ h => PCore.wf_of h) (fun _ => rfl)
theorem decA_T28 : DecA Try.prog 28 PCore.wf (fun x => .agg (cCore.row 0 x)) := decA_struct Try.underlying28 dec_T28
end Go.Proofs.Ytmgigglpdhoneaa
