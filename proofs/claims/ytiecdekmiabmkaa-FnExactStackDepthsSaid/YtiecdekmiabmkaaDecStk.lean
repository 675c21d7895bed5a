/-
  The arguments read.
-/
import Derived.Test.YtiecdekmiabmkaaTab1
import Derived.Test.YtiecdekmiabmkaaPsL
import Derived.Test.YtiecdekmiabmkaaLibC
import Derived.Test.YtiecdekmiabmkaaLibD
set_option linter.unusedVariables false
set_option linter.unusedSimpArgs false
namespace Go.Proofs.Ytiecdekmiabmkaa
open Go.Abs Go.ChangeShapes Go.WideShapes Go.ChangeAt Go.RowKit

theorem Try.own : ownKnob Try.prog.godebug = none := by kernel_rfl
theorem Try.laidOut : laidOutB Try.prog = true := by kernel_rfl
theorem dec_T60 (N : Nat) : Dec Try.prog N 60 PDat.wf (fun x => cDat.row 0 x) := by
  induction N using Nat.strongRecOn with
  | _ N ih =>
    cases N with
    | zero => exact dec_zero
    | succ N =>
      exact (dec_struct Try.underlying60 (by kernel_rfl) (decF_cons (n := 1) rfl (by kernel_rfl) (dec_int Try.underlying3) (decF_cons (n := 1) rfl (by kernel_rfl) (dec_int Try.underlying3) (decF_cons (n := 1) rfl (by kernel_rfl) (dec_str Try.underlying9) (decF_one rfl (dec_sl cDat (e := 60) Try.underlying58 (by kernel_rfl) rfl (ih _ (by omega)))))))).map (fun x => PDat.mk x.1 x.2.1 x.2.2.1 x.2.2.2) (fun _ h => PDat.wf_of h) (fun _ => rfl)
theorem dec_T153 (N : Nat) : Dec Try.prog N 153 PInstr.ok (fun x => cInstr.row 0 x) :=
  (dec_struct Try.underlying153 (by kernel_rfl) (decF_cons (n := 1) rfl (by kernel_rfl) (dec_int Try.underlying3) (decF_cons (n := 1) rfl (by kernel_rfl) (dec_int Try.underlying3) (decF_one rfl (dec_T60 _))))).map (fun x => PInstr.mk x.1 x.2.1 x.2.2) (fun _ h => h) (fun _ => rfl)
theorem dec_T130 (N : Nat) : Dec Try.prog N 130 PCode.ok (fun x => cCode.row 0 x) :=
  (dec_struct Try.underlying130 (by kernel_rfl) (decF_cons (n := 1) rfl (by kernel_rfl) (dec_int Try.underlying3) (decF_cons (n := 1) rfl (by kernel_rfl) (dec_int Try.underlying3) (decF_cons (n := 1) rfl (by kernel_rfl) (dec_int Try.underlying3) (decF_one rfl (dec_sl cInstr (e := 153) Try.underlying128 (by kernel_rfl) rfl (dec_T153 _))))))).map (fun x => PCode.mk x.1 x.2.1 x.2.2.1 x.2.2.2) (fun _ h => h) (fun _ => rfl)
theorem dec_T44 (N : Nat) : Dec Try.prog N 44 PImage.ok (fun x => cImage.row 0 x) :=
  (dec_struct Try.underlying44 (by kernel_rfl) (decF_cons (n := 1) rfl (by kernel_rfl) (dec_sl cCode (e := 130) Try.underlying42 (by kernel_rfl) rfl (dec_T130 _)) (decF_one rfl (dec_int Try.underlying3)))).map (fun x => PImage.mk x.1 x.2) (fun _ h => h) (fun _ => rfl)
theorem decA_T44 : DecA Try.prog 44 PImage.ok (fun x => .agg (cImage.row 0 x)) := decA_struct Try.underlying44 dec_T44
theorem decA_T3 : DecA Try.prog 3 (fun n : Int => IntKind.i64.min ≤ n ∧ n ≤ IntKind.i64.max) (fun x => .int .i64 x) :=
  decA_cell (fun N => (dec_int Try.underlying3)) (fun fs h => by rw [Try.underlying3] at h; cases h) (fun n e h => by rw [Try.underlying3] at h; cases h)

end Go.Proofs.Ytiecdekmiabmkaa
