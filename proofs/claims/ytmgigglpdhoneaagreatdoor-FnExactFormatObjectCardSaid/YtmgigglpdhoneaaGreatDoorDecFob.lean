
import Derived.Test.YtmgigglpdhoneaaGreatDoorTabD1
import Derived.Test.YtmgigglpdhoneaaGreatDoorLibT
import Derived.Test.YtmgigglpdhoneaaGreatDoorLibC
import Derived.Test.YtmgigglpdhoneaaGreatDoorLibD
set_option linter.unusedVariables false
set_option linter.unusedSimpArgs false
namespace Go.Proofs.YtmgigglpdhoneaaGreatDoor
open Go.Abs Go.ChangeShapes Go.WideShapes Go.ChangeAt Go.RowKit
theorem Tryz.own : ownKnob Tryz.prog.godebug = none := by kernel_rfl
theorem Tryz.laidOut : laidOutB Tryz.prog = true := by kernel_rfl
theorem dec_T154 (N : Nat) : Dec Tryz.prog N 154 PDat.wf (fun x => cDat.row 0 x) := by
 induction N using Nat.strongRecOn with
 | _ N ih =>
  cases N with
  | zero => exact dec_zero
  | succ N =>
   exact (E7 Tryz.underlying154 (by kernel_rfl) (u6 (n := 1) rfl (by kernel_rfl) (E4 Tryz.underlying3) (u6 (n := 1) rfl (by kernel_rfl) (E4 Tryz.underlying3) (u6 (n := 1) rfl (by kernel_rfl) (dec_str Tryz.underlying9) (M6 rfl (eD cDat (e := 154) Tryz.underlying152 (by kernel_rfl) rfl (ih _ (by omega)))))))).map (fun x => PDat.mk x.1 x.2.1 x.2.2.1 x.2.2.2) (fun _ h => PDat.wf_of h) (fun _ => rfl)
theorem dec_T156 (N : Nat) : Dec Tryz.prog N 156 PInstr.ok (fun x => cInstr.row 0 x) :=
 (E7 Tryz.underlying156 (by kernel_rfl) (u6 (n := 1) rfl (by kernel_rfl) (E4 Tryz.underlying3) (u6 (n := 1) rfl (by kernel_rfl) (E4 Tryz.underlying3) (M6 rfl (dec_T154 _))))).map (fun x => PInstr.mk x.1 x.2.1 x.2.2) (fun _ h => h) (fun _ => rfl)
theorem dec_T110 (N : Nat) : Dec Tryz.prog N 110 PCode.ok (fun x => cCode.row 0 x) :=
 (E7 Tryz.underlying110 (by kernel_rfl) (u6 (n := 1) rfl (by kernel_rfl) (E4 Tryz.underlying3) (u6 (n := 1) rfl (by kernel_rfl) (E4 Tryz.underlying3) (u6 (n := 1) rfl (by kernel_rfl) (E4 Tryz.underlying3) (M6 rfl (eD cInstr (e := 156) Tryz.underlying108 (by kernel_rfl) rfl (dec_T156 _))))))).map (fun x => PCode.mk x.1 x.2.1 x.2.2.1 x.2.2.2) (fun _ h => h) (fun _ => rfl)
theorem dec_T25 (N : Nat) : Dec Tryz.prog N 25 PImage.ok (fun x => cImage.row 0 x) :=
 (E7 Tryz.underlying25 (by kernel_rfl) (u6 (n := 1) rfl (by kernel_rfl) (eD cCode (e := 110) Tryz.underlying23 (by kernel_rfl) rfl (dec_T110 _)) (M6 rfl (E4 Tryz.underlying3)))).map (fun x => PImage.mk x.1 x.2) (fun _ h => h) (fun _ => rfl)
theorem dec_T27 (N : Nat) : Dec Tryz.prog N 27 PObj.ok (fun x => cObj.row 0 x) :=
 (E7 Tryz.underlying27 (by kernel_rfl) (u6 (n := 1) rfl (by kernel_rfl) (dec_str Tryz.underlying9) (u6 (n := 1) rfl (by kernel_rfl) (eD cInt (e := 3) Tryz.underlying22 (by kernel_rfl) rfl (E4 Tryz.underlying3)) (u6 (n := 1) rfl (by kernel_rfl) (eD cInt (e := 3) Tryz.underlying22 (by kernel_rfl) rfl (E4 Tryz.underlying3)) (M6 rfl (dec_T25 _)))))).map (fun x => PObj.mk x.1 x.2.1 x.2.2.1 x.2.2.2) (fun _ h => h) (fun _ => rfl)
theorem decA_T27 : DecA Tryz.prog 27 PObj.ok (fun x => .agg (cObj.row 0 x)) := decA_struct Tryz.underlying27 dec_T27
end Go.Proofs.YtmgigglpdhoneaaGreatDoor
