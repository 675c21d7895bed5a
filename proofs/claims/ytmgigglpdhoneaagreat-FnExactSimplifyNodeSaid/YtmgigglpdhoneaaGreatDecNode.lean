
import Derived.Test.YtmgigglpdhoneaaGreatTab
import Derived.Test.YtmgigglpdhoneaaGreatLibT
import Derived.Test.YtmgigglpdhoneaaGreatLibC
import Derived.Test.YtmgigglpdhoneaaGreatLibD
set_option linter.unusedVariables false
set_option linter.unusedSimpArgs false
namespace Go.Proofs.YtmgigglpdhoneaaGreat
open Go.Abs Go.ChangeShapes Go.WideShapes Go.ChangeAt Go.RowKit
theorem Tryz.own : ownKnob Tryz.prog.godebug = none := by kernel_rfl
theorem Tryz.laidOut : laidOutB Tryz.prog = true := by kernel_rfl
theorem dec_T25 (N : Nat) : Dec Tryz.prog N 25 PDat.wf (fun x => cDat.row 0 x) := by
 induction N using Nat.strongRecOn with
 | _ N ih =>
  cases N with
  | zero => exact dec_zero
  | succ N =>
   exact (dZ Tryz.underlying25 (by kernel_rfl) (I5 (n := 1) rfl (by kernel_rfl) (W7 Tryz.underlying3) (I5 (n := 1) rfl (by kernel_rfl) (W7 Tryz.underlying3) (I5 (n := 1) rfl (by kernel_rfl) (dec_str Tryz.underlying9) (decF_one rfl (dec_sl cDat (e := 25) Tryz.underlying23 (by kernel_rfl) rfl (ih _ (by omega)))))))).map (fun x => PDat.mk x.1 x.2.1 x.2.2.1 x.2.2.2) (fun _ h => PDat.wf_of h) (fun _ => rfl)
theorem dec_T28 (N : Nat) : Dec Tryz.prog N 28 PCore.wf (fun x => cCore.row 0 x) := by
 induction N using Nat.strongRecOn with
 | _ N ih =>
  cases N with
  | zero => exact dec_zero
  | succ N =>
   exact (dZ Tryz.underlying28 (by kernel_rfl) (I5 (n := 1) rfl (by kernel_rfl) (W7 Tryz.underlying3) (I5 (n := 1) rfl (by kernel_rfl) (W7 Tryz.underlying3) (I5 (n := 1) rfl (by kernel_rfl) (dec_sl cInt (e := 3) Tryz.underlying22 (by kernel_rfl) rfl (W7 Tryz.underlying3)) (I5 (n := 4) rfl (by kernel_rfl) (dec_T25 _) (decF_one rfl (dec_sl cCore (e := 28) Tryz.underlying26 (by kernel_rfl) rfl (ih _ (by omega))))))))).map (fun x => PCore.mk x.1 x.2.1 x.2.2.1 x.2.2.2.1 x.2.2.2.2) (fun _ h => PCore.wf_of h) (fun _ => rfl)
theorem decA_T28 : DecA Tryz.prog 28 PCore.wf (fun x => .agg (cCore.row 0 x)) := decA_struct Tryz.underlying28 dec_T28
theorem decA_T22 : DecA Tryz.prog 22 (fun xs : List Int => xs.length ≤ 9223372036854775807 ∧ ∀ x ∈ xs, (fun n : Int => IntKind.i64.min ≤ n ∧ n ≤ IntKind.i64.max) x) (fun x => .psl 0 1 (x.map (cInt.enc 0))) :=
 decA_cell (fun N => (dec_sl cInt (e := 3) Tryz.underlying22 (by kernel_rfl) rfl (W7 Tryz.underlying3))) (fun fs h => by rw [Tryz.underlying22] at h; cases h) (fun n e h => by rw [Tryz.underlying22] at h; cases h)
end Go.Proofs.YtmgigglpdhoneaaGreat
