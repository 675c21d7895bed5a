
import Derived.Test.YtmgigglpdhoneaaGreatDoorLibD
import Derived.Lib.ItoaNum
import Derived.Lib.Atoi
import Derived.Lib.IndexMore
set_option linter.unusedVariables false
set_option linter.unusedSimpArgs false
namespace Go.Abs
def x_Itoa (n : Int) : Option (List UInt8) := chk (I64 n) <| some (Go.Lib.itoa n)
end Go.Abs

namespace Go.Abs
structure PRdI where
 src : List UInt8
 pos : Int
 nodes : Int
def PRdI.enc (r : PRdI) : List V := [.str r.src, .int .i64 r.pos, .int .i64 r.nodes]
@[reducible] def cRdI : Cd PRdI where
 sz := 3
 enc _ := PRdI.enc
 row _ := PRdI.enc
 eq _ _ := rfl
 rl _ _ _ := rfl
 len _ _ := rfl
 one _ _ _ _ := rfl
structure PRdS where
 src : List UInt8
 pos : Int
 bad : Bool
def PRdS.enc (r : PRdS) : List V := [.str r.src, .int .i64 r.pos, .bool r.bad]
@[reducible] def cRdS : Cd PRdS where
 sz := 3
 enc _ := PRdS.enc
 row _ := PRdS.enc
 eq _ _ := rfl
 rl _ _ _ := rfl
 len _ _ := rfl
 one _ _ _ _ := rfl
def atoiR (s : List UInt8) : Int × Bool := match Go.Lib.atoi s with
 | some n => (n, false)
 | none => (0, true)
def x_Atoi (s : List UInt8) : Option (Int × Bool) := chk (s.length ≤ 18) <| some (atoiR s)
def x_Cut (s sep : List UInt8) : Option (List UInt8 × List UInt8 × Bool) := chk (s.length < 4294967281) <| some (Go.Lib.cut s sep)
end Go.Abs
