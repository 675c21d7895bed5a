
import Derived.Test.YtmgigglpdhoneaaTab1
import Derived.Test.YtmgigglpdhoneaaLibT
import Derived.Test.YtmgigglpdhoneaaLibC
import Derived.Test.YtmgigglpdhoneaaLibD
set_option linter.unusedVariables false
set_option linter.unusedSimpArgs false
namespace Go.Proofs.Ytmgigglpdhoneaa
open Go.Abs Go.ChangeShapes Go.WideShapes Go.ChangeAt Go.RowKit
theorem Try.own : ownKnob Try.prog.godebug = none := by kernel_rfl
theorem Try.laidOut : laidOutB Try.prog = true := by kernel_rfl
theorem dec_T25 (N : Nat) : Dec Try.prog N 25 PD.wf (fun x => cDat.row 0 x) := by
 induction N using Nat.strongRecOn with
 | _ N ih =>
  cases N with
  | zero => exact dec_zero
  | succ N =>
   exact (bX Try.underlying25 (by kernel_rfl) (I2 (n := 1) rfl (by kernel_rfl) (bB Try.underlying3) (I2 (n := 1) rfl (by kernel_rfl) (bB Try.underlying3) (I2 (n := 1) rfl (by kernel_rfl) (dec_str Try.underlying9) (iS rfl (rY cDat (e := 25) Try.underlying23 (by kernel_rfl) rfl (ih _ (by omega)))))))).map (fun x => PD.mk x.1 x.2.1 x.2.2.1 x.2.2.2) (fun _ h => PD.wf_of h) (fun _ => rfl)
theorem dec_T174 (N : Nat) : Dec Try.prog N 174 PInstr.ok (fun x => cInstr.row 0 x) :=
 (bX Try.underlying174 (by kernel_rfl) (I2 (n := 1) rfl (by kernel_rfl) (bB Try.underlying3) (I2 (n := 1) rfl (by kernel_rfl) (bB Try.underlying3) (iS rfl (dec_T25 _))))).map (fun x => PInstr.mk x.1 x.2.1 x.2.2) (fun _ h => h) (fun _ => rfl)
theorem dec_T162 (N : Nat) : Dec Try.prog N 162 PCode.ok (fun x => cCode.row 0 x) :=
 (bX Try.underlying162 (by kernel_rfl) (I2 (n := 1) rfl (by kernel_rfl) (bB Try.underlying3) (I2 (n := 1) rfl (by kernel_rfl) (bB Try.underlying3) (I2 (n := 1) rfl (by kernel_rfl) (bB Try.underlying3) (iS rfl (rY cInstr (e := 174) Try.underlying160 (by kernel_rfl) rfl (dec_T174 _))))))).map (fun x => PCode.mk x.1 x.2.1 x.2.2.1 x.2.2.2) (fun _ h => h) (fun _ => rfl)
theorem dec_T78 (N : Nat) : Dec Try.prog N 78 PImage.ok (fun x => cImage.row 0 x) :=
 (bX Try.underlying78 (by kernel_rfl) (I2 (n := 1) rfl (by kernel_rfl) (rY cCode (e := 162) Try.underlying76 (by kernel_rfl) rfl (dec_T162 _)) (iS rfl (bB Try.underlying3)))).map (fun x => PImage.mk x.1 x.2) (fun _ h => h) (fun _ => rfl)
theorem dec_T80 (N : Nat) : Dec Try.prog N 80 PObj.ok (fun x => cObj.row 0 x) :=
 (bX Try.underlying80 (by kernel_rfl) (I2 (n := 1) rfl (by kernel_rfl) (dec_str Try.underlying9) (I2 (n := 1) rfl (by kernel_rfl) (rY cInt (e := 3) Try.underlying22 (by kernel_rfl) rfl (bB Try.underlying3)) (I2 (n := 1) rfl (by kernel_rfl) (rY cInt (e := 3) Try.underlying22 (by kernel_rfl) rfl (bB Try.underlying3)) (iS rfl (dec_T78 _)))))).map (fun x => PObj.mk x.1 x.2.1 x.2.2.1 x.2.2.2) (fun _ h => h) (fun _ => rfl)
theorem decA_T44 : DecA Try.prog 44 (fun xs : List PObj => xs.length ≤ 9223372036854775807 ∧ ∀ x ∈ xs, PObj.ok x) (fun x => .psl 0 5 (x.map (cObj.enc 0))) :=
 decA_cell (fun N => (rY cObj (e := 80) Try.underlying44 (by kernel_rfl) rfl (dec_T80 _))) (fun fs h => by rw [Try.underlying44] at h; cases h) (fun n e h => by rw [Try.underlying44] at h; cases h)
end Go.Proofs.Ytmgigglpdhoneaa
