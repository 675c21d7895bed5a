/-
  The arguments read.
-/
import Derived.Test.YtmgigglpdhoneaaDoorTabD1
import Derived.Test.YtmgigglpdhoneaaDoorPsL
import Derived.Test.YtmgigglpdhoneaaDoorLibC
import Derived.Test.YtmgigglpdhoneaaDoorLibD
set_option linter.unusedVariables false
set_option linter.unusedSimpArgs false
namespace Go.Proofs.YtmgigglpdhoneaaDoor
open Go.Abs Go.ChangeShapes Go.WideShapes Go.ChangeAt Go.RowKit

theorem Tryd.own : ownKnob Tryd.prog.godebug = none := by kernel_rfl
theorem Tryd.laidOut : laidOutB Tryd.prog = true := by kernel_rfl
theorem dec_T78 (N : Nat) : Dec Tryd.prog N 78 PDat.wf (fun x => cDat.row 0 x) := by
  induction N using Nat.strongRecOn with
  | _ N ih =>
    cases N with
    | zero => exact dec_zero
    | succ N =>
      exact (dec_struct Tryd.underlying78 (by kernel_rfl) (decF_cons (n := 1) rfl (by kernel_rfl) (dec_int Tryd.underlying3) (decF_cons (n := 1) rfl (by kernel_rfl) (dec_int Tryd.underlying3) (decF_cons (n := 1) rfl (by kernel_rfl) (dec_str Tryd.underlying9) (decF_one rfl (dec_sl cDat (e := 78) Tryd.underlying76 (by kernel_rfl) rfl (ih _ (by omega)))))))).map (fun x => PDat.mk x.1 x.2.1 x.2.2.1 x.2.2.2) (fun _ h => PDat.wf_of h) (fun _ => rfl)
theorem dec_T80 (N : Nat) : Dec Tryd.prog N 80 PInstr.ok (fun x => cInstr.row 0 x) :=
  (dec_struct Tryd.underlying80 (by kernel_rfl) (decF_cons (n := 1) rfl (by kernel_rfl) (dec_int Tryd.underlying3) (decF_cons (n := 1) rfl (by kernel_rfl) (dec_int Tryd.underlying3) (decF_one rfl (dec_T78 _))))).map (fun x => PInstr.mk x.1 x.2.1 x.2.2) (fun _ h => h) (fun _ => rfl)
theorem dec_T50 (N : Nat) : Dec Tryd.prog N 50 PCode.ok (fun x => cCode.row 0 x) :=
  (dec_struct Tryd.underlying50 (by kernel_rfl) (decF_cons (n := 1) rfl (by kernel_rfl) (dec_int Tryd.underlying3) (decF_cons (n := 1) rfl (by kernel_rfl) (dec_int Tryd.underlying3) (decF_cons (n := 1) rfl (by kernel_rfl) (dec_int Tryd.underlying3) (decF_one rfl (dec_sl cInstr (e := 80) Tryd.underlying48 (by kernel_rfl) rfl (dec_T80 _))))))).map (fun x => PCode.mk x.1 x.2.1 x.2.2.1 x.2.2.2) (fun _ h => h) (fun _ => rfl)
theorem dec_T24 (N : Nat) : Dec Tryd.prog N 24 PImage.ok (fun x => cImage.row 0 x) :=
  (dec_struct Tryd.underlying24 (by kernel_rfl) (decF_cons (n := 1) rfl (by kernel_rfl) (dec_sl cCode (e := 50) Tryd.underlying22 (by kernel_rfl) rfl (dec_T50 _)) (decF_one rfl (dec_int Tryd.underlying3)))).map (fun x => PImage.mk x.1 x.2) (fun _ h => h) (fun _ => rfl)
theorem decA_T24 : DecA Tryd.prog 24 PImage.ok (fun x => .agg (cImage.row 0 x)) := decA_struct Tryd.underlying24 dec_T24

end Go.Proofs.YtmgigglpdhoneaaDoor
