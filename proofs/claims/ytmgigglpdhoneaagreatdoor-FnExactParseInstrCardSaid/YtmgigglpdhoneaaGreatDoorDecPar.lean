
import Derived.Test.YtmgigglpdhoneaaGreatDoorTabD1
import Derived.Test.YtmgigglpdhoneaaGreatDoorLibC
import Derived.Test.YtmgigglpdhoneaaGreatDoorLibD
set_option linter.unusedVariables false
set_option linter.unusedSimpArgs false
namespace Go.Proofs.YtmgigglpdhoneaaGreatDoor
open Go.Abs Go.ChangeShapes Go.WideShapes Go.ChangeAt Go.RowKit
theorem Tryz.own : ownKnob Tryz.prog.godebug = none := by kernel_rfl
theorem Tryz.laidOut : laidOutB Tryz.prog = true := by kernel_rfl
theorem decA_T9 : DecA Tryz.prog 9 (fun l : List UInt8 => l.length ≤ 9223372036854775807) (fun x => .str x) :=
 decA_cell (fun N => (dec_str Tryz.underlying9)) (fun fs h => by rw [Tryz.underlying9] at h; cases h) (fun n e h => by rw [Tryz.underlying9] at h; cases h)
end Go.Proofs.YtmgigglpdhoneaaGreatDoor
