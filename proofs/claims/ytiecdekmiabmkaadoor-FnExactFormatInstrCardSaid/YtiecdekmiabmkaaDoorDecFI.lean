/-
  The arguments read.
-/
import Derived.Test.YtiecdekmiabmkaaDoorTabD1
import Derived.Test.YtiecdekmiabmkaaDoorPsL
import Derived.Test.YtiecdekmiabmkaaDoorLibC
import Derived.Test.YtiecdekmiabmkaaDoorLibD
set_option linter.unusedVariables false
set_option linter.unusedSimpArgs false
namespace Go.Proofs.YtiecdekmiabmkaaDoor
open Go.Abs Go.ChangeShapes Go.WideShapes Go.ChangeAt Go.RowKit

theorem Tryd.own : ownKnob Tryd.prog.godebug = none := by kernel_rfl
theorem Tryd.laidOut : laidOutB Tryd.prog = true := by kernel_rfl
theorem dec_T38 (N : Nat) : Dec Tryd.prog N 38 PDat.wf (fun x => cDat.row 0 x) := by
  induction N using Nat.strongRecOn with
  | _ N ih =>
    cases N with
    | zero => exact dec_zero
    | succ N =>
      exact (dec_struct Tryd.underlying38 (by kernel_rfl) (decF_cons (n := 1) rfl (by kernel_rfl) (dec_int Tryd.underlying3) (decF_cons (n := 1) rfl (by kernel_rfl) (dec_int Tryd.underlying3) (decF_cons (n := 1) rfl (by kernel_rfl) (dec_str Tryd.underlying9) (decF_one rfl (dec_sl cDat (e := 38) Tryd.underlying36 (by kernel_rfl) rfl (ih _ (by omega)))))))).map (fun x => PDat.mk x.1 x.2.1 x.2.2.1 x.2.2.2) (fun _ h => PDat.wf_of h) (fun _ => rfl)
theorem dec_T40 (N : Nat) : Dec Tryd.prog N 40 PInstr.ok (fun x => cInstr.row 0 x) :=
  (dec_struct Tryd.underlying40 (by kernel_rfl) (decF_cons (n := 1) rfl (by kernel_rfl) (dec_int Tryd.underlying3) (decF_cons (n := 1) rfl (by kernel_rfl) (dec_int Tryd.underlying3) (decF_one rfl (dec_T38 _))))).map (fun x => PInstr.mk x.1 x.2.1 x.2.2) (fun _ h => h) (fun _ => rfl)
theorem decA_T40 : DecA Tryd.prog 40 PInstr.ok (fun x => .agg (cInstr.row 0 x)) := decA_struct Tryd.underlying40 dec_T40

end Go.Proofs.YtiecdekmiabmkaaDoor
