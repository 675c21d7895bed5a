
import Derived.Test.YtllbdfllngpkaaaGreatTab1
import Derived.Test.YtllbdfllngpkaaaGreatLibT
import Derived.Test.YtllbdfllngpkaaaGreatLibC
import Derived.Test.YtllbdfllngpkaaaGreatLibD
set_option linter.unusedVariables false
set_option linter.unusedSimpArgs false
namespace Go.Proofs.YtllbdfllngpkaaaGreat
open Go.Abs Go.ChangeShapes Go.WideShapes Go.ChangeAt Go.RowKit
theorem Tryz.own : ownKnob Tryz.prog.godebug = none := by kernel_rfl
theorem Tryz.laidOut : laidOutB Tryz.prog = true := by kernel_rfl
theorem dec_T25 (N : Nat) : Dec Tryz.prog N 25 PD.wf (fun x => dr.row 0 x) := by
 induction N using Nat.strongRecOn with
 | _ N ih =>
  cases N with
  | zero => exact dec_zero
  | succ N =>
   exact (ai5 Tryz.underlying25 (by kernel_rfl) (fP (n := 1) rfl (by kernel_rfl) (zF Tryz.underlying3) (fP (n := 1) rfl (by kernel_rfl) (zF Tryz.underlying3) (fP (n := 1) rfl (by kernel_rfl) (dec_str Tryz.underlying9) (decF_one rfl (dec_sl dr (e := 25) Tryz.underlying23 (by kernel_rfl) rfl (ih _ (by omega)))))))).map (fun x => PD.mk x.1 x.2.1 x.2.2.1 x.2.2.2) (fun _ h => PD.wf_of h) (fun _ => rfl)
theorem dec_T28 (N : Nat) : Dec Tryz.prog N 28 PC.wf (fun x => dq.row 0 x) := by
 induction N using Nat.strongRecOn with
 | _ N ih =>
  cases N with
  | zero => exact dec_zero
  | succ N =>
   exact (ai5 Tryz.underlying28 (by kernel_rfl) (fP (n := 1) rfl (by kernel_rfl) (zF Tryz.underlying3) (fP (n := 1) rfl (by kernel_rfl) (zF Tryz.underlying3) (fP (n := 1) rfl (by kernel_rfl) (dec_sl dk (e := 3) Tryz.underlying22 (by kernel_rfl) rfl (zF Tryz.underlying3)) (fP (n := 4) rfl (by kernel_rfl) (dec_T25 _) (decF_one rfl (dec_sl dq (e := 28) Tryz.underlying26 (by kernel_rfl) rfl (ih _ (by omega))))))))).map (fun x => PC.mk x.1 x.2.1 x.2.2.1 x.2.2.2.1 x.2.2.2.2) (fun _ h => PC.wf_of h) (fun _ => rfl)
theorem decA_T28 : DecA Tryz.prog 28 PC.wf (fun x => .agg (dq.row 0 x)) := decA_struct Tryz.underlying28 dec_T28
end Go.Proofs.YtllbdfllngpkaaaGreat
