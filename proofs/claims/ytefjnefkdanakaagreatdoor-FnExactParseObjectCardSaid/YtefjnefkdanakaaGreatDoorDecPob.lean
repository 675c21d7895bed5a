
import Derived.Test.YtefjnefkdanakaaGreatDoorTabD1
import Derived.Test.YtefjnefkdanakaaGreatDoorLibS
import Derived.Test.YtefjnefkdanakaaGreatDoorLibC
import Derived.Test.YtefjnefkdanakaaGreatDoorLibD
import Derived.Test.YtefjnefkdanakaaGreatDoorItoaD
set_option linter.unusedVariables false
set_option linter.unusedSimpArgs false
namespace Go.Proofs.YtefjnefkdanakaaGreatDoor
open Go.Abs Go.ChangeShapes Go.WideShapes Go.ChangeAt Go.RowKit
theorem Tryz.own : ownKnob Tryz.prog.godebug = none := by kernel_rfl
theorem Tryz.laidOut : laidOutB Tryz.prog = true := by kernel_rfl
theorem decA_T22 : DecA Tryz.prog 22 (fun xs : List (List UInt8) => xs.length ≤ 9223372036854775807 ∧ ∀ x ∈ xs, (fun l : List UInt8 => l.length ≤ 9223372036854775807) x) (fun x => .psl 0 1 (x.map (cStr.enc 0))) :=
 decA_cell (fun N => (dec_sl cStr (e := 9) Tryz.underlying22 (by kernel_rfl) rfl (dec_str Tryz.underlying9))) (fun fs h => by rw [Tryz.underlying22] at h; cases h) (fun n e h => by rw [Tryz.underlying22] at h; cases h)
end Go.Proofs.YtefjnefkdanakaaGreatDoor
