
import Derived.Test.YtllbdfllngpkaaaGreatTab1
import Derived.Test.YtllbdfllngpkaaaGreatLibT
import Derived.Test.YtllbdfllngpkaaaGreatLibC
import Derived.Test.YtllbdfllngpkaaaGreatLibD
set_option linter.unusedVariables false
set_option linter.unusedSimpArgs false
namespace Go.Proofs.YtllbdfllngpkaaaGreat
open Go.Abs Go.ChangeShapes Go.WideShapes Go.ChangeAt Go.RowKit
theorem Tryz.own : ownKnob Tryz.prog.godebug = none := by kernel_rfl
theorem Tryz.laidOut : laidOutB Tryz.prog = true := by kernel_rfl
theorem dec_T25 (N : Nat) : Dec Tryz.prog N 25 PD.wf (fun x => dr.row 0 x) := by
 induction N using Nat.strongRecOn with
 | _ N ih =>
  cases N with
  | zero => exact dec_zero
  | succ N =>
   exact (xS Tryz.underlying25 (by kernel_rfl) (cF (n := 1) rfl (by kernel_rfl) (xR Tryz.underlying3) (cF (n := 1) rfl (by kernel_rfl) (xR Tryz.underlying3) (cF (n := 1) rfl (by kernel_rfl) (dec_str Tryz.underlying9) (aq5 rfl (dec_sl dr (e := 25) Tryz.underlying23 (by kernel_rfl) rfl (ih _ (by omega)))))))).map (fun x => PD.mk x.1 x.2.1 x.2.2.1 x.2.2.2) (fun _ h => PD.wf_of h) (fun _ => rfl)
theorem dec_T28 (N : Nat) : Dec Tryz.prog N 28 PC.wf (fun x => dq.row 0 x) := by
 induction N using Nat.strongRecOn with
 | _ N ih =>
  cases N with
  | zero => exact dec_zero
  | succ N =>
   exact (xS Tryz.underlying28 (by kernel_rfl) (cF (n := 1) rfl (by kernel_rfl) (xR Tryz.underlying3) (cF (n := 1) rfl (by kernel_rfl) (xR Tryz.underlying3) (cF (n := 1) rfl (by kernel_rfl) (dec_sl dh (e := 3) Tryz.underlying22 (by kernel_rfl) rfl (xR Tryz.underlying3)) (cF (n := 4) rfl (by kernel_rfl) (dec_T25 _) (aq5 rfl (dec_sl dq (e := 28) Tryz.underlying26 (by kernel_rfl) rfl (ih _ (by omega))))))))).map (fun x => PC.mk x.1 x.2.1 x.2.2.1 x.2.2.2.1 x.2.2.2.2) (fun _ h => PC.wf_of h) (fun _ => rfl)
theorem dec_T57 (N : Nat) : Dec Tryz.prog N 57 PUnit'.ok (fun x => cUnit.row 0 x) :=
 (xS Tryz.underlying57 (by kernel_rfl) (cF (n := 1) rfl (by kernel_rfl) (dec_str Tryz.underlying9) (cF (n := 1) rfl (by kernel_rfl) (dec_sl dh (e := 3) Tryz.underlying22 (by kernel_rfl) rfl (xR Tryz.underlying3)) (aq5 rfl (dec_T28 _))))).map (fun x => PUnit'.mk x.1 x.2.1 x.2.2) (fun _ h => h) (fun _ => rfl)
theorem decA_T47 : DecA Tryz.prog 47 (fun xs : List PUnit' => xs.length ≤ 9223372036854775807 ∧ ∀ x ∈ xs, PUnit'.ok x) (fun x => .psl 0 10 (x.map (cUnit.enc 0))) :=
 decA_cell (fun N => (dec_sl cUnit (e := 57) Tryz.underlying47 (by kernel_rfl) rfl (dec_T57 _))) (fun fs h => by rw [Tryz.underlying47] at h; cases h) (fun n e h => by rw [Tryz.underlying47] at h; cases h)
end Go.Proofs.YtllbdfllngpkaaaGreat
