
import Derived.Test.YtllbdfllngpkaaaGreatTab1
import Derived.Test.YtllbdfllngpkaaaGreatLibU
import Derived.Test.YtllbdfllngpkaaaGreatLibC
import Derived.Test.YtllbdfllngpkaaaGreatLibD
set_option linter.all false
namespace Go.Proofs.YtllbdfllngpkaaaGreat
open Go.Abs Go.ChangeShapes Go.WideShapes Go.ChangeAt Go.RowKit
theorem Tryz.own : ownKnob Tryz.prog.godebug = none := by kernel_rfl
theorem Tryz.laidOut : laidOutB Tryz.prog = true := by kernel_rfl
theorem dec_T25 (N : Nat) : Dec Tryz.prog N 25 PD.wf (fun x => ec.row 0 x) := by
 induction N using Nat.strongRecOn with
 | _ N ih =>
  cases N with
  | zero => exact dec_zero
  | succ N =>
   exact (yC Tryz.underlying25 (by kernel_rfl) (dQ (n := 1) rfl (by kernel_rfl) (yB Tryz.underlying3) (dQ (n := 1) rfl (by kernel_rfl) (yB Tryz.underlying3) (dQ (n := 1) rfl (by kernel_rfl) (dec_str Tryz.underlying9) (ar8 rfl (dec_sl ec (e := 25) Tryz.underlying23 (by kernel_rfl) rfl (ih _ (by omega)))))))).map (fun x => PD.mk x.1 x.2.1 x.2.2.1 x.2.2.2) (fun _ h => PD.wf_of h) (fun _ => rfl)
theorem dec_T28 (N : Nat) : Dec Tryz.prog N 28 PC.wf (fun x => eb.row 0 x) := by
 induction N using Nat.strongRecOn with
 | _ N ih =>
  cases N with
  | zero => exact dec_zero
  | succ N =>
   exact (yC Tryz.underlying28 (by kernel_rfl) (dQ (n := 1) rfl (by kernel_rfl) (yB Tryz.underlying3) (dQ (n := 1) rfl (by kernel_rfl) (yB Tryz.underlying3) (dQ (n := 1) rfl (by kernel_rfl) (dec_sl dy (e := 3) Tryz.underlying22 (by kernel_rfl) rfl (yB Tryz.underlying3)) (dQ (n := 4) rfl (by kernel_rfl) (dec_T25 _) (ar8 rfl (dec_sl eb (e := 28) Tryz.underlying26 (by kernel_rfl) rfl (ih _ (by omega))))))))).map (fun x => PC.mk x.1 x.2.1 x.2.2.1 x.2.2.2.1 x.2.2.2.2) (fun _ h => PC.wf_of h) (fun _ => rfl)
theorem dec_T57 (N : Nat) : Dec Tryz.prog N 57 PUnit'.ok (fun x => cUnit.row 0 x) :=
 (yC Tryz.underlying57 (by kernel_rfl) (dQ (n := 1) rfl (by kernel_rfl) (dec_str Tryz.underlying9) (dQ (n := 1) rfl (by kernel_rfl) (dec_sl dy (e := 3) Tryz.underlying22 (by kernel_rfl) rfl (yB Tryz.underlying3)) (ar8 rfl (dec_T28 _))))).map (fun x => PUnit'.mk x.1 x.2.1 x.2.2) (fun _ h => h) (fun _ => rfl)
theorem decA_T57 : DecA Tryz.prog 57 PUnit'.ok (fun x => .agg (cUnit.row 0 x)) := decA_struct Tryz.underlying57 dec_T57
end Go.Proofs.YtllbdfllngpkaaaGreat
