/-
  The arguments read.
-/
import Derived.Test.YtiecdekmiabmkaaDoorTabD1
import Derived.Test.YtiecdekmiabmkaaDoorPsL
import Derived.Test.YtiecdekmiabmkaaDoorLibC
import Derived.Test.YtiecdekmiabmkaaDoorLibD
set_option linter.unusedVariables false
set_option linter.unusedSimpArgs false
namespace Go.Proofs.YtiecdekmiabmkaaDoor
open Go.Abs Go.ChangeShapes Go.WideShapes Go.ChangeAt Go.RowKit

theorem Tryd.own : ownKnob Tryd.prog.godebug = none := by kernel_rfl
theorem Tryd.laidOut : laidOutB Tryd.prog = true := by kernel_rfl
theorem dec_T25 (N : Nat) : Dec Tryd.prog N 25 PVal.wf (fun x => cVal.row 0 x) :=
  (dec_struct Tryd.underlying25 (by kernel_rfl) (decF_cons (n := 1) rfl (by kernel_rfl) (dec_int Tryd.underlying3) (decF_cons (n := 1) rfl (by kernel_rfl) (dec_int Tryd.underlying3) (decF_one rfl (dec_str Tryd.underlying9))))).map (fun x => PVal.mk x.1 x.2.1 x.2.2) (fun _ h => h) (fun _ => rfl)
theorem decA_T25 : DecA Tryd.prog 25 PVal.wf (fun x => .agg (cVal.row 0 x)) := decA_struct Tryd.underlying25 dec_T25
theorem dec_T56 (N : Nat) : Dec Tryd.prog N 56 PPair.wf (fun x => cPair.row 0 x) :=
  (dec_struct Tryd.underlying56 (by kernel_rfl) (decF_cons (n := 3) rfl (by kernel_rfl) (dec_T25 _) (decF_one rfl (dec_T25 _)))).map (fun x => PPair.mk x.1 x.2) (fun _ h => h) (fun _ => rfl)
theorem decA_T26 : DecA Tryd.prog 26 (fun xs : List PPair => xs.length ≤ 9223372036854775807 ∧ ∀ x ∈ xs, PPair.wf x) (fun x => .psl 0 6 (x.map (cPair.enc 0))) :=
  decA_cell (fun N => (dec_sl cPair (e := 56) Tryd.underlying26 (by kernel_rfl) rfl (dec_T56 _))) (fun fs h => by rw [Tryd.underlying26] at h; cases h) (fun n e h => by rw [Tryd.underlying26] at h; cases h)

end Go.Proofs.YtiecdekmiabmkaaDoor
