
import Derived.Test.YtmgigglpdhoneaaGreatDoorLibD
import Derived.Lib.ItoaNum
set_option linter.unusedVariables false
set_option linter.unusedSimpArgs false
namespace Go.Abs
def x_Itoa (n : Int) : Option (List UInt8) := chk (I64 n) <| some (Go.Lib.itoa n)
end Go.Abs
