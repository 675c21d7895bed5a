/-
  The residual functions are what the code comes to.
-/
import Derived.Test.YtnafaglnbfcknaaGreatDoorLibB
import Derived.Test.YtnafaglnbfcknaaGreatDoorNDa
import Derived.Test.YtnafaglnbfcknaaGreatDoorNDb
import Derived.Test.YtnafaglnbfcknaaGreatDoorRows
set_option linter.all false
set_option linter.all false
set_option maxRecDepth 100000
namespace Go.X1
open Go.Proofs
def TT : List TI := [⟨.other, 1, false, [(.nd (nat_lit 1) .nl)]⟩,
 ⟨.other, 1, false, [(.ref (nat_lit 9) (nat_lit 0) (nat_lit 0) (nat_lit 0))]⟩,
 ⟨.int .i64, 1, false, [(.int (nat_lit 9223372036854775808))]⟩,
 ⟨.int .i64, 1, false, [(.int (nat_lit 9223372036854775808))]⟩,
 ⟨.bool, 1, false, [(.bool false)]⟩,
 ⟨.int .u8, 1, false, [(.byt (nat_lit 0))]⟩,
 ⟨.int .u8, 1, false, [(.byt (nat_lit 0))]⟩,
 ⟨.struct [(0, 2), (1, 3), (2, 4), (3, 6)], 4, true, [(.int (nat_lit 9223372036854775808)), (.int (nat_lit 9223372036854775808)), (.bool false), (.byt (nat_lit 0))]⟩,
 ⟨.struct [(0, 2), (1, 3), (2, 4), (3, 6)], 4, true, [(.int (nat_lit 9223372036854775808)), (.int (nat_lit 9223372036854775808)), (.bool false), (.byt (nat_lit 0))]⟩,
 ⟨.str, 1, false, [(.str (nat_lit 0) (nat_lit 0))]⟩,
 ⟨.str, 1, false, [(.str (nat_lit 0) (nat_lit 0))]⟩,
 ⟨.str, 1, false, [(.str (nat_lit 0) (nat_lit 0))]⟩,
 ⟨.int .u64, 1, false, [junk]⟩,
 ⟨.struct [(0, 9), (1, 12)], 2, true, [(.str (nat_lit 0) (nat_lit 0)), junk]⟩,
 ⟨.struct [(0, 9), (1, 12)], 2, true, [(.str (nat_lit 0) (nat_lit 0)), junk]⟩,
 ⟨.ptr 218, 1, false, [(.ref (nat_lit 4) (nat_lit 0) (nat_lit 0) (nat_lit 0))]⟩,
 ⟨.ptr 221, 1, false, [(.ref (nat_lit 4) (nat_lit 0) (nat_lit 0) (nat_lit 0))]⟩,
 ⟨.ptr 229, 1, false, [(.ref (nat_lit 4) (nat_lit 0) (nat_lit 0) (nat_lit 0))]⟩,
 ⟨.struct [(0, 17)], 1, true, [(.ref (nat_lit 4) (nat_lit 0) (nat_lit 0) (nat_lit 0))]⟩,
 ⟨.struct [(0, 17)], 1, true, [(.ref (nat_lit 4) (nat_lit 0) (nat_lit 0) (nat_lit 0))]⟩,
 ⟨.iface, 1, false, [(.ref (nat_lit 6) (nat_lit 0) (nat_lit 0) (nat_lit 0))]⟩,
 ⟨.int .i32, 1, false, [junk]⟩,
 ⟨.slice 109, 1, false, [(.ref (nat_lit 3) (nat_lit 0) (nat_lit 0) (nat_lit 0))]⟩,
 ⟨.slice 64, 1, false, [(.ref (nat_lit 3) (nat_lit 0) (nat_lit 0) (nat_lit 0))]⟩,
 ⟨.struct [(0, 22), (1, 23), (2, 3), (3, 3), (4, 3)], 5, true, [(.ref (nat_lit 3) (nat_lit 0) (nat_lit 0) (nat_lit 0)), (.ref (nat_lit 3) (nat_lit 0) (nat_lit 0) (nat_lit 0)), (.int (nat_lit 9223372036854775808)), (.int (nat_lit 9223372036854775808)), (.int (nat_lit 9223372036854775808))]⟩,
 ⟨.struct [(0, 22), (1, 23), (2, 3), (3, 3), (4, 3)], 5, true, [(.ref (nat_lit 3) (nat_lit 0) (nat_lit 0) (nat_lit 0)), (.ref (nat_lit 3) (nat_lit 0) (nat_lit 0) (nat_lit 0)), (.int (nat_lit 9223372036854775808)), (.int (nat_lit 9223372036854775808)), (.int (nat_lit 9223372036854775808))]⟩,
 ⟨.slice 75, 1, false, [(.ref (nat_lit 3) (nat_lit 0) (nat_lit 0) (nat_lit 0))]⟩,
 ⟨.slice 78, 1, false, [(.ref (nat_lit 3) (nat_lit 0) (nat_lit 0) (nat_lit 0))]⟩,
 ⟨.struct [(0, 25), (5, 26), (6, 27)], 7, true, [(.ref (nat_lit 3) (nat_lit 0) (nat_lit 0) (nat_lit 0)), (.ref (nat_lit 3) (nat_lit 0) (nat_lit 0) (nat_lit 0)), (.int (nat_lit 9223372036854775808)), (.int (nat_lit 9223372036854775808)), (.int (nat_lit 9223372036854775808)), (.ref (nat_lit 3) (nat_lit 0) (nat_lit 0) (nat_lit 0)), (.ref (nat_lit 3) (nat_lit 0) (nat_lit 0) (nat_lit 0))]⟩,
 ⟨.struct [(0, 25), (5, 26), (6, 27)], 7, true, [(.ref (nat_lit 3) (nat_lit 0) (nat_lit 0) (nat_lit 0)), (.ref (nat_lit 3) (nat_lit 0) (nat_lit 0) (nat_lit 0)), (.int (nat_lit 9223372036854775808)), (.int (nat_lit 9223372036854775808)), (.int (nat_lit 9223372036854775808)), (.ref (nat_lit 3) (nat_lit 0) (nat_lit 0) (nat_lit 0)), (.ref (nat_lit 3) (nat_lit 0) (nat_lit 0) (nat_lit 0))]⟩,
 ⟨.struct [(0, 29)], 7, true, [(.ref (nat_lit 3) (nat_lit 0) (nat_lit 0) (nat_lit 0)), (.ref (nat_lit 3) (nat_lit 0) (nat_lit 0) (nat_lit 0)), (.int (nat_lit 9223372036854775808)), (.int (nat_lit 9223372036854775808)), (.int (nat_lit 9223372036854775808)), (.ref (nat_lit 3) (nat_lit 0) (nat_lit 0) (nat_lit 0)), (.ref (nat_lit 3) (nat_lit 0) (nat_lit 0) (nat_lit 0))]⟩,
 ⟨.struct [(0, 29)], 7, true, [(.ref (nat_lit 3) (nat_lit 0) (nat_lit 0) (nat_lit 0)), (.ref (nat_lit 3) (nat_lit 0) (nat_lit 0) (nat_lit 0)), (.int (nat_lit 9223372036854775808)), (.int (nat_lit 9223372036854775808)), (.int (nat_lit 9223372036854775808)), (.ref (nat_lit 3) (nat_lit 0) (nat_lit 0) (nat_lit 0)), (.ref (nat_lit 3) (nat_lit 0) (nat_lit 0) (nat_lit 0))]⟩,
 ⟨.other, 1, false, [(.ref (nat_lit 9) (nat_lit 0) (nat_lit 0) (nat_lit 0))]⟩,
 ⟨.other, 1, false, [(.ref (nat_lit 9) (nat_lit 0) (nat_lit 0) (nat_lit 0))]⟩,
 ⟨.other, 1, false, [(.ref (nat_lit 9) (nat_lit 0) (nat_lit 0) (nat_lit 0))]⟩,
 ⟨.other, 1, false, [(.ref (nat_lit 9) (nat_lit 0) (nat_lit 0) (nat_lit 0))]⟩,
 ⟨.other, 1, false, [(.ref (nat_lit 9) (nat_lit 0) (nat_lit 0) (nat_lit 0))]⟩,
 ⟨.other, 1, false, [(.ref (nat_lit 9) (nat_lit 0) (nat_lit 0) (nat_lit 0))]⟩,
 ⟨.other, 1, false, [(.ref (nat_lit 9) (nat_lit 0) (nat_lit 0) (nat_lit 0))]⟩,
 ⟨.other, 1, false, [(.ref (nat_lit 9) (nat_lit 0) (nat_lit 0) (nat_lit 0))]⟩,
 ⟨.other, 1, false, [(.ref (nat_lit 9) (nat_lit 0) (nat_lit 0) (nat_lit 0))]⟩,
 ⟨.other, 1, false, [(.ref (nat_lit 9) (nat_lit 0) (nat_lit 0) (nat_lit 0))]⟩,
 ⟨.other, 1, false, [(.ref (nat_lit 9) (nat_lit 0) (nat_lit 0) (nat_lit 0))]⟩,
 ⟨.other, 1, false, [(.ref (nat_lit 9) (nat_lit 0) (nat_lit 0) (nat_lit 0))]⟩,
 ⟨.other, 1, false, [(.ref (nat_lit 9) (nat_lit 0) (nat_lit 0) (nat_lit 0))]⟩,
 ⟨.other, 1, false, [(.ref (nat_lit 9) (nat_lit 0) (nat_lit 0) (nat_lit 0))]⟩,
 ⟨.ptr 48, 1, false, [(.ref (nat_lit 4) (nat_lit 0) (nat_lit 0) (nat_lit 0))]⟩,
 ⟨.struct [(0, 25), (5, 3), (6, 3)], 7, true, [(.ref (nat_lit 3) (nat_lit 0) (nat_lit 0) (nat_lit 0)), (.ref (nat_lit 3) (nat_lit 0) (nat_lit 0) (nat_lit 0)), (.int (nat_lit 9223372036854775808)), (.int (nat_lit 9223372036854775808)), (.int (nat_lit 9223372036854775808)), (.int (nat_lit 9223372036854775808)), (.int (nat_lit 9223372036854775808))]⟩,
 ⟨.struct [(0, 25), (5, 3), (6, 3)], 7, true, [(.ref (nat_lit 3) (nat_lit 0) (nat_lit 0) (nat_lit 0)), (.ref (nat_lit 3) (nat_lit 0) (nat_lit 0) (nat_lit 0)), (.int (nat_lit 9223372036854775808)), (.int (nat_lit 9223372036854775808)), (.int (nat_lit 9223372036854775808)), (.int (nat_lit 9223372036854775808)), (.int (nat_lit 9223372036854775808))]⟩,
 ⟨.slice 54, 1, false, [(.ref (nat_lit 3) (nat_lit 0) (nat_lit 0) (nat_lit 0))]⟩,
 ⟨.other, 1, false, [(.nd (nat_lit 1) (.cn (.ref (nat_lit 3) (nat_lit 0) (nat_lit 0) (nat_lit 0)) (.cn (.bool false) .nl)))]⟩,
 ⟨.other, 1, false, [(.ref (nat_lit 9) (nat_lit 0) (nat_lit 0) (nat_lit 0))]⟩,
 ⟨.other, 1, false, [(.ref (nat_lit 9) (nat_lit 0) (nat_lit 0) (nat_lit 0))]⟩,
 ⟨.struct [(0, 3), (1, 3), (2, 9), (3, 49)], 4, true, [(.int (nat_lit 9223372036854775808)), (.int (nat_lit 9223372036854775808)), (.str (nat_lit 0) (nat_lit 0)), (.ref (nat_lit 3) (nat_lit 0) (nat_lit 0) (nat_lit 0))]⟩,
 ⟨.struct [(0, 3), (1, 3), (2, 9), (3, 49)], 4, true, [(.int (nat_lit 9223372036854775808)), (.int (nat_lit 9223372036854775808)), (.str (nat_lit 0) (nat_lit 0)), (.ref (nat_lit 3) (nat_lit 0) (nat_lit 0) (nat_lit 0))]⟩,
 ⟨.other, 1, false, [(.ref (nat_lit 9) (nat_lit 0) (nat_lit 0) (nat_lit 0))]⟩,
 ⟨.slice 3, 1, false, [(.ref (nat_lit 3) (nat_lit 0) (nat_lit 0) (nat_lit 0))]⟩,
 ⟨.slice 59, 1, false, [(.ref (nat_lit 3) (nat_lit 0) (nat_lit 0) (nat_lit 0))]⟩,
 ⟨.struct [(0, 3), (1, 3), (2, 9), (3, 56), (4, 57)], 5, true, [(.int (nat_lit 9223372036854775808)), (.int (nat_lit 9223372036854775808)), (.str (nat_lit 0) (nat_lit 0)), (.ref (nat_lit 3) (nat_lit 0) (nat_lit 0) (nat_lit 0)), (.ref (nat_lit 3) (nat_lit 0) (nat_lit 0) (nat_lit 0))]⟩,
 ⟨.struct [(0, 3), (1, 3), (2, 9), (3, 56), (4, 57)], 5, true, [(.int (nat_lit 9223372036854775808)), (.int (nat_lit 9223372036854775808)), (.str (nat_lit 0) (nat_lit 0)), (.ref (nat_lit 3) (nat_lit 0) (nat_lit 0) (nat_lit 0)), (.ref (nat_lit 3) (nat_lit 0) (nat_lit 0) (nat_lit 0))]⟩,
 ⟨.other, 1, false, [(.ref (nat_lit 9) (nat_lit 0) (nat_lit 0) (nat_lit 0))]⟩,
 ⟨.struct [(0, 25), (5, 3)], 6, true, [(.ref (nat_lit 3) (nat_lit 0) (nat_lit 0) (nat_lit 0)), (.ref (nat_lit 3) (nat_lit 0) (nat_lit 0) (nat_lit 0)), (.int (nat_lit 9223372036854775808)), (.int (nat_lit 9223372036854775808)), (.int (nat_lit 9223372036854775808)), (.int (nat_lit 9223372036854775808))]⟩,
 ⟨.struct [(0, 25), (5, 3)], 6, true, [(.ref (nat_lit 3) (nat_lit 0) (nat_lit 0) (nat_lit 0)), (.ref (nat_lit 3) (nat_lit 0) (nat_lit 0) (nat_lit 0)), (.int (nat_lit 9223372036854775808)), (.int (nat_lit 9223372036854775808)), (.int (nat_lit 9223372036854775808)), (.int (nat_lit 9223372036854775808))]⟩,
 ⟨.struct [(0, 57), (1, 57), (2, 57)], 3, true, [(.ref (nat_lit 3) (nat_lit 0) (nat_lit 0) (nat_lit 0)), (.ref (nat_lit 3) (nat_lit 0) (nat_lit 0) (nat_lit 0)), (.ref (nat_lit 3) (nat_lit 0) (nat_lit 0) (nat_lit 0))]⟩,
 ⟨.struct [(0, 57), (1, 57), (2, 57)], 3, true, [(.ref (nat_lit 3) (nat_lit 0) (nat_lit 0) (nat_lit 0)), (.ref (nat_lit 3) (nat_lit 0) (nat_lit 0) (nat_lit 0)), (.ref (nat_lit 3) (nat_lit 0) (nat_lit 0) (nat_lit 0))]⟩,
 ⟨.other, 1, false, [(.nd (nat_lit 1) (.cn (.nd (nat_lit 0) (.cn (.ref (nat_lit 3) (nat_lit 0) (nat_lit 0) (nat_lit 0)) (.cn (.ref (nat_lit 3) (nat_lit 0) (nat_lit 0) (nat_lit 0)) (.cn (.ref (nat_lit 3) (nat_lit 0) (nat_lit 0) (nat_lit 0)) .nl)))) (.cn (.bool false) .nl)))]⟩,
 ⟨.other, 1, false, [(.ref (nat_lit 9) (nat_lit 0) (nat_lit 0) (nat_lit 0))]⟩,
 ⟨.other, 1, false, [(.ref (nat_lit 9) (nat_lit 0) (nat_lit 0) (nat_lit 0))]⟩,
 ⟨.other, 1, false, [(.ref (nat_lit 9) (nat_lit 0) (nat_lit 0) (nat_lit 0))]⟩,
 ⟨.other, 1, false, [(.ref (nat_lit 9) (nat_lit 0) (nat_lit 0) (nat_lit 0))]⟩,
 ⟨.other, 1, false, [(.ref (nat_lit 9) (nat_lit 0) (nat_lit 0) (nat_lit 0))]⟩,
 ⟨.slice 73, 1, false, [(.ref (nat_lit 3) (nat_lit 0) (nat_lit 0) (nat_lit 0))]⟩,
 ⟨.struct [(0, 3), (1, 3), (2, 56), (3, 54), (7, 71)], 8, true, [(.int (nat_lit 9223372036854775808)), (.int (nat_lit 9223372036854775808)), (.ref (nat_lit 3) (nat_lit 0) (nat_lit 0) (nat_lit 0)), (.int (nat_lit 9223372036854775808)), (.int (nat_lit 9223372036854775808)), (.str (nat_lit 0) (nat_lit 0)), (.ref (nat_lit 3) (nat_lit 0) (nat_lit 0) (nat_lit 0)), (.ref (nat_lit 3) (nat_lit 0) (nat_lit 0) (nat_lit 0))]⟩,
 ⟨.struct [(0, 3), (1, 3), (2, 56), (3, 54), (7, 71)], 8, true, [(.int (nat_lit 9223372036854775808)), (.int (nat_lit 9223372036854775808)), (.ref (nat_lit 3) (nat_lit 0) (nat_lit 0) (nat_lit 0)), (.int (nat_lit 9223372036854775808)), (.int (nat_lit 9223372036854775808)), (.str (nat_lit 0) (nat_lit 0)), (.ref (nat_lit 3) (nat_lit 0) (nat_lit 0) (nat_lit 0)), (.ref (nat_lit 3) (nat_lit 0) (nat_lit 0) (nat_lit 0))]⟩,
 ⟨.struct [(0, 9), (1, 56), (2, 73)], 10, true, [(.str (nat_lit 0) (nat_lit 0)), (.ref (nat_lit 3) (nat_lit 0) (nat_lit 0) (nat_lit 0)), (.int (nat_lit 9223372036854775808)), (.int (nat_lit 9223372036854775808)), (.ref (nat_lit 3) (nat_lit 0) (nat_lit 0) (nat_lit 0)), (.int (nat_lit 9223372036854775808)), (.int (nat_lit 9223372036854775808)), (.str (nat_lit 0) (nat_lit 0)), (.ref (nat_lit 3) (nat_lit 0) (nat_lit 0) (nat_lit 0)), (.ref (nat_lit 3) (nat_lit 0) (nat_lit 0) (nat_lit 0))]⟩,
 ⟨.struct [(0, 9), (1, 56), (2, 73)], 10, true, [(.str (nat_lit 0) (nat_lit 0)), (.ref (nat_lit 3) (nat_lit 0) (nat_lit 0) (nat_lit 0)), (.int (nat_lit 9223372036854775808)), (.int (nat_lit 9223372036854775808)), (.ref (nat_lit 3) (nat_lit 0) (nat_lit 0) (nat_lit 0)), (.int (nat_lit 9223372036854775808)), (.int (nat_lit 9223372036854775808)), (.str (nat_lit 0) (nat_lit 0)), (.ref (nat_lit 3) (nat_lit 0) (nat_lit 0) (nat_lit 0)), (.ref (nat_lit 3) (nat_lit 0) (nat_lit 0) (nat_lit 0))]⟩,
 ⟨.other, 1, false, [(.ref (nat_lit 9) (nat_lit 0) (nat_lit 0) (nat_lit 0))]⟩,
 ⟨.struct [(0, 9), (1, 9), (2, 3), (3, 3)], 4, true, [(.str (nat_lit 0) (nat_lit 0)), (.str (nat_lit 0) (nat_lit 0)), (.int (nat_lit 9223372036854775808)), (.int (nat_lit 9223372036854775808))]⟩,
 ⟨.struct [(0, 9), (1, 9), (2, 3), (3, 3)], 4, true, [(.str (nat_lit 0) (nat_lit 0)), (.str (nat_lit 0) (nat_lit 0)), (.int (nat_lit 9223372036854775808)), (.int (nat_lit 9223372036854775808))]⟩,
 ⟨.other, 1, false, [(.ref (nat_lit 9) (nat_lit 0) (nat_lit 0) (nat_lit 0))]⟩,
 ⟨.other, 1, false, [(.ref (nat_lit 9) (nat_lit 0) (nat_lit 0) (nat_lit 0))]⟩,
 ⟨.other, 1, false, [(.ref (nat_lit 9) (nat_lit 0) (nat_lit 0) (nat_lit 0))]⟩,
 ⟨.other, 1, false, [(.ref (nat_lit 9) (nat_lit 0) (nat_lit 0) (nat_lit 0))]⟩,
 ⟨.other, 1, false, [(.ref (nat_lit 9) (nat_lit 0) (nat_lit 0) (nat_lit 0))]⟩,
 ⟨.other, 1, false, [(.ref (nat_lit 9) (nat_lit 0) (nat_lit 0) (nat_lit 0))]⟩,
 ⟨.other, 1, false, [(.ref (nat_lit 9) (nat_lit 0) (nat_lit 0) (nat_lit 0))]⟩,
 ⟨.ptr 88, 1, false, [(.ref (nat_lit 4) (nat_lit 0) (nat_lit 0) (nat_lit 0))]⟩,
 ⟨.struct [(0, 9), (1, 3), (2, 4)], 3, true, [(.str (nat_lit 0) (nat_lit 0)), (.int (nat_lit 9223372036854775808)), (.bool false)]⟩,
 ⟨.struct [(0, 9), (1, 3), (2, 4)], 3, true, [(.str (nat_lit 0) (nat_lit 0)), (.int (nat_lit 9223372036854775808)), (.bool false)]⟩,
 ⟨.other, 1, false, [(.ref (nat_lit 9) (nat_lit 0) (nat_lit 0) (nat_lit 0))]⟩,
 ⟨.other, 1, false, [(.ref (nat_lit 9) (nat_lit 0) (nat_lit 0) (nat_lit 0))]⟩,
 ⟨.other, 1, false, [(.ref (nat_lit 9) (nat_lit 0) (nat_lit 0) (nat_lit 0))]⟩,
 ⟨.other, 1, false, [(.ref (nat_lit 9) (nat_lit 0) (nat_lit 0) (nat_lit 0))]⟩,
 ⟨.other, 1, false, [(.ref (nat_lit 9) (nat_lit 0) (nat_lit 0) (nat_lit 0))]⟩,
 ⟨.other, 1, false, [(.ref (nat_lit 9) (nat_lit 0) (nat_lit 0) (nat_lit 0))]⟩,
 ⟨.struct [(0, 9), (1, 3), (2, 3)], 3, true, [(.str (nat_lit 0) (nat_lit 0)), (.int (nat_lit 9223372036854775808)), (.int (nat_lit 9223372036854775808))]⟩,
 ⟨.struct [(0, 9), (1, 3), (2, 3)], 3, true, [(.str (nat_lit 0) (nat_lit 0)), (.int (nat_lit 9223372036854775808)), (.int (nat_lit 9223372036854775808))]⟩,
 ⟨.other, 1, false, [(.nd (nat_lit 1) (.cn (.nd (nat_lit 0) (.cn (.int (nat_lit 9223372036854775808)) (.cn (.int (nat_lit 9223372036854775808)) (.cn (.str (nat_lit 0) (nat_lit 0)) (.cn (.ref (nat_lit 3) (nat_lit 0) (nat_lit 0) (nat_lit 0)) .nl))))) (.cn (.bool false) .nl)))]⟩,
 ⟨.other, 1, false, [(.ref (nat_lit 9) (nat_lit 0) (nat_lit 0) (nat_lit 0))]⟩,
 ⟨.other, 1, false, [(.ref (nat_lit 9) (nat_lit 0) (nat_lit 0) (nat_lit 0))]⟩,
 ⟨.slice 9, 1, false, [(.ref (nat_lit 3) (nat_lit 0) (nat_lit 0) (nat_lit 0))]⟩,
 ⟨.other, 1, false, [(.ref (nat_lit 9) (nat_lit 0) (nat_lit 0) (nat_lit 0))]⟩,
 ⟨.other, 1, false, [(.ref (nat_lit 9) (nat_lit 0) (nat_lit 0) (nat_lit 0))]⟩,
 ⟨.other, 1, false, [(.ref (nat_lit 9) (nat_lit 0) (nat_lit 0) (nat_lit 0))]⟩,
 ⟨.other, 1, false, [(.ref (nat_lit 9) (nat_lit 0) (nat_lit 0) (nat_lit 0))]⟩,
 ⟨.ptr 62, 1, false, [(.ref (nat_lit 4) (nat_lit 0) (nat_lit 0) (nat_lit 0))]⟩,
 ⟨.other, 1, false, [(.ref (nat_lit 9) (nat_lit 0) (nat_lit 0) (nat_lit 0))]⟩,
 ⟨.other, 1, false, [(.ref (nat_lit 9) (nat_lit 0) (nat_lit 0) (nat_lit 0))]⟩,
 ⟨.struct [(0, 9), (1, 56), (2, 3), (3, 3)], 4, true, [(.str (nat_lit 0) (nat_lit 0)), (.ref (nat_lit 3) (nat_lit 0) (nat_lit 0) (nat_lit 0)), (.int (nat_lit 9223372036854775808)), (.int (nat_lit 9223372036854775808))]⟩,
 ⟨.struct [(0, 9), (1, 56), (2, 3), (3, 3)], 4, true, [(.str (nat_lit 0) (nat_lit 0)), (.ref (nat_lit 3) (nat_lit 0) (nat_lit 0) (nat_lit 0)), (.int (nat_lit 9223372036854775808)), (.int (nat_lit 9223372036854775808))]⟩,
 ⟨.other, 1, false, [(.ref (nat_lit 9) (nat_lit 0) (nat_lit 0) (nat_lit 0))]⟩,
 ⟨.other, 1, false, [(.ref (nat_lit 9) (nat_lit 0) (nat_lit 0) (nat_lit 0))]⟩,
 ⟨.other, 1, false, [(.ref (nat_lit 9) (nat_lit 0) (nat_lit 0) (nat_lit 0))]⟩,
 ⟨.other, 1, false, [(.ref (nat_lit 9) (nat_lit 0) (nat_lit 0) (nat_lit 0))]⟩,
 ⟨.other, 1, false, [(.ref (nat_lit 9) (nat_lit 0) (nat_lit 0) (nat_lit 0))]⟩,
 ⟨.other, 1, false, [(.ref (nat_lit 9) (nat_lit 0) (nat_lit 0) (nat_lit 0))]⟩,
 ⟨.slice 5, 1, false, [(.ref (nat_lit 3) (nat_lit 0) (nat_lit 0) (nat_lit 0))]⟩,
 ⟨.other, 1, false, [(.ref (nat_lit 9) (nat_lit 0) (nat_lit 0) (nat_lit 0))]⟩,
 ⟨.other, 1, false, [(.ref (nat_lit 9) (nat_lit 0) (nat_lit 0) (nat_lit 0))]⟩,
 ⟨.other, 1, false, [(.ref (nat_lit 9) (nat_lit 0) (nat_lit 0) (nat_lit 0))]⟩,
 ⟨.other, 1, false, [(.ref (nat_lit 9) (nat_lit 0) (nat_lit 0) (nat_lit 0))]⟩,
 ⟨.other, 1, false, [(.ref (nat_lit 9) (nat_lit 0) (nat_lit 0) (nat_lit 0))]⟩,
 ⟨.other, 1, false, [(.ref (nat_lit 9) (nat_lit 0) (nat_lit 0) (nat_lit 0))]⟩,
 ⟨.other, 1, false, [(.ref (nat_lit 9) (nat_lit 0) (nat_lit 0) (nat_lit 0))]⟩,
 ⟨.other, 1, false, [(.ref (nat_lit 9) (nat_lit 0) (nat_lit 0) (nat_lit 0))]⟩,
 ⟨.other, 1, false, [(.ref (nat_lit 9) (nat_lit 0) (nat_lit 0) (nat_lit 0))]⟩,
 ⟨.ptr 96, 1, false, [(.ref (nat_lit 4) (nat_lit 0) (nat_lit 0) (nat_lit 0))]⟩,
 ⟨.other, 1, false, [(.ref (nat_lit 9) (nat_lit 0) (nat_lit 0) (nat_lit 0))]⟩,
 ⟨.other, 1, false, [(.ref (nat_lit 9) (nat_lit 0) (nat_lit 0) (nat_lit 0))]⟩,
 ⟨.ptr 3, 1, false, [(.ref (nat_lit 4) (nat_lit 0) (nat_lit 0) (nat_lit 0))]⟩,
 ⟨.ptr 132, 1, false, [(.ref (nat_lit 4) (nat_lit 0) (nat_lit 0) (nat_lit 0))]⟩,
 ⟨.struct [(0, 130), (1, 116)], 2, true, [(.ref (nat_lit 4) (nat_lit 0) (nat_lit 0) (nat_lit 0)), (.ref (nat_lit 3) (nat_lit 0) (nat_lit 0) (nat_lit 0))]⟩,
 ⟨.struct [(0, 130), (1, 116)], 2, true, [(.ref (nat_lit 4) (nat_lit 0) (nat_lit 0) (nat_lit 0)), (.ref (nat_lit 3) (nat_lit 0) (nat_lit 0) (nat_lit 0))]⟩,
 ⟨.other, 1, false, [(.ref (nat_lit 9) (nat_lit 0) (nat_lit 0) (nat_lit 0))]⟩,
 ⟨.iface, 1, false, [(.ref (nat_lit 6) (nat_lit 0) (nat_lit 0) (nat_lit 0))]⟩,
 ⟨.iface, 1, false, [(.ref (nat_lit 6) (nat_lit 0) (nat_lit 0) (nat_lit 0))]⟩,
 ⟨.other, 1, false, [(.nd (nat_lit 1) (.cn (.int (nat_lit 9223372036854775808)) (.cn (.ref (nat_lit 6) (nat_lit 0) (nat_lit 0) (nat_lit 0)) .nl)))]⟩,
 ⟨.other, 1, false, [(.ref (nat_lit 9) (nat_lit 0) (nat_lit 0) (nat_lit 0))]⟩,
 ⟨.other, 1, false, [(.nd (nat_lit 1) (.cn (.nd (nat_lit 0) (.cn (.str (nat_lit 0) (nat_lit 0)) (.cn (.ref (nat_lit 3) (nat_lit 0) (nat_lit 0) (nat_lit 0)) (.cn (.int (nat_lit 9223372036854775808)) (.cn (.int (nat_lit 9223372036854775808)) .nl))))) (.cn (.int (nat_lit 9223372036854775808)) .nl)))]⟩,
 ⟨.other, 1, false, [(.ref (nat_lit 9) (nat_lit 0) (nat_lit 0) (nat_lit 0))]⟩,
 ⟨.other, 1, false, [(.ref (nat_lit 9) (nat_lit 0) (nat_lit 0) (nat_lit 0))]⟩,
 ⟨.other, 1, false, [(.ref (nat_lit 9) (nat_lit 0) (nat_lit 0) (nat_lit 0))]⟩,
 ⟨.other, 1, false, [(.ref (nat_lit 9) (nat_lit 0) (nat_lit 0) (nat_lit 0))]⟩,
 ⟨.slice 168, 1, false, [(.ref (nat_lit 3) (nat_lit 0) (nat_lit 0) (nat_lit 0))]⟩,
 ⟨.other, 1, false, [(.nd (nat_lit 1) (.cn (.ref (nat_lit 3) (nat_lit 0) (nat_lit 0) (nat_lit 0)) (.cn (.bool false) .nl)))]⟩,
 ⟨.other, 1, false, [(.ref (nat_lit 9) (nat_lit 0) (nat_lit 0) (nat_lit 0))]⟩,
 ⟨.other, 1, false, [(.ref (nat_lit 9) (nat_lit 0) (nat_lit 0) (nat_lit 0))]⟩,
 ⟨.other, 1, false, [(.ref (nat_lit 9) (nat_lit 0) (nat_lit 0) (nat_lit 0))]⟩,
 ⟨.other, 1, false, [(.ref (nat_lit 9) (nat_lit 0) (nat_lit 0) (nat_lit 0))]⟩,
 ⟨.other, 1, false, [(.ref (nat_lit 9) (nat_lit 0) (nat_lit 0) (nat_lit 0))]⟩,
 ⟨.other, 1, false, [(.ref (nat_lit 9) (nat_lit 0) (nat_lit 0) (nat_lit 0))]⟩,
 ⟨.other, 1, false, [(.nd (nat_lit 1) (.cn (.int (nat_lit 9223372036854775808)) (.cn (.bool false) .nl)))]⟩,
 ⟨.other, 1, false, [(.ref (nat_lit 9) (nat_lit 0) (nat_lit 0) (nat_lit 0))]⟩,
 ⟨.other, 1, false, [(.ref (nat_lit 9) (nat_lit 0) (nat_lit 0) (nat_lit 0))]⟩,
 ⟨.other, 1, false, [(.ref (nat_lit 9) (nat_lit 0) (nat_lit 0) (nat_lit 0))]⟩,
 ⟨.other, 1, false, [(.ref (nat_lit 9) (nat_lit 0) (nat_lit 0) (nat_lit 0))]⟩,
 ⟨.other, 1, false, [(.ref (nat_lit 9) (nat_lit 0) (nat_lit 0) (nat_lit 0))]⟩,
 ⟨.other, 1, false, [(.ref (nat_lit 9) (nat_lit 0) (nat_lit 0) (nat_lit 0))]⟩,
 ⟨.other, 1, false, [(.ref (nat_lit 9) (nat_lit 0) (nat_lit 0) (nat_lit 0))]⟩,
 ⟨.other, 1, false, [(.nd (nat_lit 1) (.cn (.ref (nat_lit 3) (nat_lit 0) (nat_lit 0) (nat_lit 0)) (.cn (.bool false) .nl)))]⟩,
 ⟨.other, 1, false, [(.ref (nat_lit 9) (nat_lit 0) (nat_lit 0) (nat_lit 0))]⟩,
 ⟨.other, 1, false, [(.ref (nat_lit 9) (nat_lit 0) (nat_lit 0) (nat_lit 0))]⟩,
 ⟨.other, 1, false, [(.ref (nat_lit 9) (nat_lit 0) (nat_lit 0) (nat_lit 0))]⟩,
 ⟨.other, 1, false, [(.ref (nat_lit 9) (nat_lit 0) (nat_lit 0) (nat_lit 0))]⟩,
 ⟨.ptr 5, 1, false, [(.ref (nat_lit 4) (nat_lit 0) (nat_lit 0) (nat_lit 0))]⟩,
 ⟨.other, 1, false, [(.ref (nat_lit 9) (nat_lit 0) (nat_lit 0) (nat_lit 0))]⟩,
 ⟨.other, 1, false, [(.ref (nat_lit 9) (nat_lit 0) (nat_lit 0) (nat_lit 0))]⟩,
 ⟨.struct [(0, 59), (5, 3), (6, 59), (11, 143)], 12, true, [(.int (nat_lit 9223372036854775808)), (.int (nat_lit 9223372036854775808)), (.str (nat_lit 0) (nat_lit 0)), (.ref (nat_lit 3) (nat_lit 0) (nat_lit 0) (nat_lit 0)), (.ref (nat_lit 3) (nat_lit 0) (nat_lit 0) (nat_lit 0)), (.int (nat_lit 9223372036854775808)), (.int (nat_lit 9223372036854775808)), (.int (nat_lit 9223372036854775808)), (.str (nat_lit 0) (nat_lit 0)), (.ref (nat_lit 3) (nat_lit 0) (nat_lit 0) (nat_lit 0)), (.ref (nat_lit 3) (nat_lit 0) (nat_lit 0) (nat_lit 0)), (.ref (nat_lit 3) (nat_lit 0) (nat_lit 0) (nat_lit 0))]⟩,
 ⟨.struct [(0, 59), (5, 3), (6, 59), (11, 143)], 12, true, [(.int (nat_lit 9223372036854775808)), (.int (nat_lit 9223372036854775808)), (.str (nat_lit 0) (nat_lit 0)), (.ref (nat_lit 3) (nat_lit 0) (nat_lit 0) (nat_lit 0)), (.ref (nat_lit 3) (nat_lit 0) (nat_lit 0) (nat_lit 0)), (.int (nat_lit 9223372036854775808)), (.int (nat_lit 9223372036854775808)), (.int (nat_lit 9223372036854775808)), (.str (nat_lit 0) (nat_lit 0)), (.ref (nat_lit 3) (nat_lit 0) (nat_lit 0) (nat_lit 0)), (.ref (nat_lit 3) (nat_lit 0) (nat_lit 0) (nat_lit 0)), (.ref (nat_lit 3) (nat_lit 0) (nat_lit 0) (nat_lit 0))]⟩,
 ⟨.other, 1, false, [(.ref (nat_lit 9) (nat_lit 0) (nat_lit 0) (nat_lit 0))]⟩,
 ⟨.other, 1, false, [(.ref (nat_lit 9) (nat_lit 0) (nat_lit 0) (nat_lit 0))]⟩,
 ⟨.other, 1, false, [(.ref (nat_lit 9) (nat_lit 0) (nat_lit 0) (nat_lit 0))]⟩,
 ⟨.other, 1, false, [(.ref (nat_lit 9) (nat_lit 0) (nat_lit 0) (nat_lit 0))]⟩,
 ⟨.other, 1, false, [(.ref (nat_lit 9) (nat_lit 0) (nat_lit 0) (nat_lit 0))]⟩,
 ⟨.other, 1, false, [(.ref (nat_lit 9) (nat_lit 0) (nat_lit 0) (nat_lit 0))]⟩,
 ⟨.other, 1, false, [(.ref (nat_lit 9) (nat_lit 0) (nat_lit 0) (nat_lit 0))]⟩,
 ⟨.other, 1, false, [(.ref (nat_lit 9) (nat_lit 0) (nat_lit 0) (nat_lit 0))]⟩,
 ⟨.other, 1, false, [(.ref (nat_lit 9) (nat_lit 0) (nat_lit 0) (nat_lit 0))]⟩,
 ⟨.other, 1, false, [(.ref (nat_lit 4) (nat_lit 0) (nat_lit 0) (nat_lit 0))]⟩,
 ⟨.other, 1, false, [(.ref (nat_lit 9) (nat_lit 0) (nat_lit 0) (nat_lit 0))]⟩,
 ⟨.other, 1, false, [(.ref (nat_lit 9) (nat_lit 0) (nat_lit 0) (nat_lit 0))]⟩,
 ⟨.other, 1, false, [(.ref (nat_lit 9) (nat_lit 0) (nat_lit 0) (nat_lit 0))]⟩,
 ⟨.other, 1, false, [(.ref (nat_lit 9) (nat_lit 0) (nat_lit 0) (nat_lit 0))]⟩,
 ⟨.other, 1, false, [(.ref (nat_lit 9) (nat_lit 0) (nat_lit 0) (nat_lit 0))]⟩,
 ⟨.int .i64, 1, false, [(.int (nat_lit 9223372036854775808))]⟩,
 ⟨.other, 1, false, [(.nd (nat_lit 1) (.cn (.int (nat_lit 9223372036854775808)) (.cn (.ref (nat_lit 6) (nat_lit 0) (nat_lit 0) (nat_lit 0)) .nl)))]⟩,
 ⟨.other, 1, false, [(.ref (nat_lit 9) (nat_lit 0) (nat_lit 0) (nat_lit 0))]⟩,
 ⟨.ptr 196, 1, false, [(.ref (nat_lit 4) (nat_lit 0) (nat_lit 0) (nat_lit 0))]⟩,
 ⟨.other, 1, false, [(.ref (nat_lit 9) (nat_lit 0) (nat_lit 0) (nat_lit 0))]⟩,
 ⟨.other, 1, false, [(.ref (nat_lit 9) (nat_lit 0) (nat_lit 0) (nat_lit 0))]⟩,
 ⟨.int .u64, 1, false, [junk]⟩,
 ⟨.other, 1, false, [(.nd (nat_lit 1) (.cn junk (.cn (.ref (nat_lit 6) (nat_lit 0) (nat_lit 0) (nat_lit 0)) .nl)))]⟩,
 ⟨.other, 1, false, [(.ref (nat_lit 9) (nat_lit 0) (nat_lit 0) (nat_lit 0))]⟩,
 ⟨.int .u64, 1, false, [junk]⟩,
 ⟨.other, 1, false, [(.ref (nat_lit 9) (nat_lit 0) (nat_lit 0) (nat_lit 0))]⟩,
 ⟨.struct [(0, 9), (1, 9), (2, 135)], 3, true, [(.str (nat_lit 0) (nat_lit 0)), (.str (nat_lit 0) (nat_lit 0)), (.ref (nat_lit 6) (nat_lit 0) (nat_lit 0) (nat_lit 0))]⟩,
 ⟨.struct [(0, 9), (1, 9), (2, 135)], 3, true, [(.str (nat_lit 0) (nat_lit 0)), (.str (nat_lit 0) (nat_lit 0)), (.ref (nat_lit 6) (nat_lit 0) (nat_lit 0) (nat_lit 0))]⟩,
 ⟨.other, 1, false, [(.ref (nat_lit 9) (nat_lit 0) (nat_lit 0) (nat_lit 0))]⟩,
 ⟨.other, 1, false, [(.ref (nat_lit 9) (nat_lit 0) (nat_lit 0) (nat_lit 0))]⟩,
 ⟨.other, 1, false, [(.ref (nat_lit 9) (nat_lit 0) (nat_lit 0) (nat_lit 0))]⟩,
 ⟨.ptr 202, 1, false, [(.ref (nat_lit 4) (nat_lit 0) (nat_lit 0) (nat_lit 0))]⟩,
 ⟨.struct [(0, 9)], 1, true, [(.str (nat_lit 0) (nat_lit 0))]⟩,
 ⟨.struct [(0, 9)], 1, true, [(.str (nat_lit 0) (nat_lit 0))]⟩,
 ⟨.other, 24, true, [(.byt (nat_lit 0)), (.byt (nat_lit 0)), (.byt (nat_lit 0)), (.byt (nat_lit 0)), (.byt (nat_lit 0)), (.byt (nat_lit 0)), (.byt (nat_lit 0)), (.byt (nat_lit 0)), (.byt (nat_lit 0)), (.byt (nat_lit 0)), (.byt (nat_lit 0)), (.byt (nat_lit 0)), (.byt (nat_lit 0)), (.byt (nat_lit 0)), (.byt (nat_lit 0)), (.byt (nat_lit 0)), (.byt (nat_lit 0)), (.byt (nat_lit 0)), (.byt (nat_lit 0)), (.byt (nat_lit 0)), (.byt (nat_lit 0)), (.byt (nat_lit 0)), (.byt (nat_lit 0)), (.byt (nat_lit 0))]⟩,
 ⟨.other, 1, false, [(.ref (nat_lit 9) (nat_lit 0) (nat_lit 0) (nat_lit 0))]⟩,
 ⟨.other, 1, false, [(.ref (nat_lit 9) (nat_lit 0) (nat_lit 0) (nat_lit 0))]⟩,
 ⟨.other, 1, false, [(.nd (nat_lit 1) (.cn (.ref (nat_lit 3) (nat_lit 0) (nat_lit 0) (nat_lit 0)) (.cn (.str (nat_lit 0) (nat_lit 0)) .nl)))]⟩,
 ⟨.other, 1, false, [(.ref (nat_lit 9) (nat_lit 0) (nat_lit 0) (nat_lit 0))]⟩,
 ⟨.other, 1, false, [(.ref (nat_lit 9) (nat_lit 0) (nat_lit 0) (nat_lit 0))]⟩,
 ⟨.other, 20, true, [junk, junk, junk, junk, junk, junk, junk, junk, junk, junk, junk, junk, junk, junk, junk, junk, junk, junk, junk, junk]⟩,
 ⟨.int .u32, 1, false, [junk]⟩,
 ⟨.other, 65, true, [(.byt (nat_lit 0)), (.byt (nat_lit 0)), (.byt (nat_lit 0)), (.byt (nat_lit 0)), (.byt (nat_lit 0)), (.byt (nat_lit 0)), (.byt (nat_lit 0)), (.byt (nat_lit 0)), (.byt (nat_lit 0)), (.byt (nat_lit 0)), (.byt (nat_lit 0)), (.byt (nat_lit 0)), (.byt (nat_lit 0)), (.byt (nat_lit 0)), (.byt (nat_lit 0)), (.byt (nat_lit 0)), (.byt (nat_lit 0)), (.byt (nat_lit 0)), (.byt (nat_lit 0)), (.byt (nat_lit 0)), (.byt (nat_lit 0)), (.byt (nat_lit 0)), (.byt (nat_lit 0)), (.byt (nat_lit 0)), (.byt (nat_lit 0)), (.byt (nat_lit 0)), (.byt (nat_lit 0)), (.byt (nat_lit 0)), (.byt (nat_lit 0)), (.byt (nat_lit 0)), (.byt (nat_lit 0)), (.byt (nat_lit 0)), (.byt (nat_lit 0)), (.byt (nat_lit 0)), (.byt (nat_lit 0)), (.byt (nat_lit 0)), (.byt (nat_lit 0)), (.byt (nat_lit 0)), (.byt (nat_lit 0)), (.byt (nat_lit 0)), (.byt (nat_lit 0)), (.byt (nat_lit 0)), (.byt (nat_lit 0)), (.byt (nat_lit 0)), (.byt (nat_lit 0)), (.byt (nat_lit 0)), (.byt (nat_lit 0)), (.byt (nat_lit 0)), (.byt (nat_lit 0)), (.byt (nat_lit 0)), (.byt (nat_lit 0)), (.byt (nat_lit 0)), (.byt (nat_lit 0)), (.byt (nat_lit 0)), (.byt (nat_lit 0)), (.byt (nat_lit 0)), (.byt (nat_lit 0)), (.byt (nat_lit 0)), (.byt (nat_lit 0)), (.byt (nat_lit 0)), (.byt (nat_lit 0)), (.byt (nat_lit 0)), (.byt (nat_lit 0)), (.byt (nat_lit 0)), (.byt (nat_lit 0))]⟩,
 ⟨.other, 1, false, [(.ref (nat_lit 9) (nat_lit 0) (nat_lit 0) (nat_lit 0))]⟩,
 ⟨.other, 1, false, [(.ref (nat_lit 9) (nat_lit 0) (nat_lit 0) (nat_lit 0))]⟩,
 ⟨.other, 1, false, [(.ref (nat_lit 9) (nat_lit 0) (nat_lit 0) (nat_lit 0))]⟩,
 ⟨.other, 32, true, [(.byt (nat_lit 0)), (.byt (nat_lit 0)), (.byt (nat_lit 0)), (.byt (nat_lit 0)), (.byt (nat_lit 0)), (.byt (nat_lit 0)), (.byt (nat_lit 0)), (.byt (nat_lit 0)), (.byt (nat_lit 0)), (.byt (nat_lit 0)), (.byt (nat_lit 0)), (.byt (nat_lit 0)), (.byt (nat_lit 0)), (.byt (nat_lit 0)), (.byt (nat_lit 0)), (.byt (nat_lit 0)), (.byt (nat_lit 0)), (.byt (nat_lit 0)), (.byt (nat_lit 0)), (.byt (nat_lit 0)), (.byt (nat_lit 0)), (.byt (nat_lit 0)), (.byt (nat_lit 0)), (.byt (nat_lit 0)), (.byt (nat_lit 0)), (.byt (nat_lit 0)), (.byt (nat_lit 0)), (.byt (nat_lit 0)), (.byt (nat_lit 0)), (.byt (nat_lit 0)), (.byt (nat_lit 0)), (.byt (nat_lit 0))]⟩,
 ⟨.other, 64, true, [(.byt (nat_lit 0)), (.byt (nat_lit 0)), (.byt (nat_lit 0)), (.byt (nat_lit 0)), (.byt (nat_lit 0)), (.byt (nat_lit 0)), (.byt (nat_lit 0)), (.byt (nat_lit 0)), (.byt (nat_lit 0)), (.byt (nat_lit 0)), (.byt (nat_lit 0)), (.byt (nat_lit 0)), (.byt (nat_lit 0)), (.byt (nat_lit 0)), (.byt (nat_lit 0)), (.byt (nat_lit 0)), (.byt (nat_lit 0)), (.byt (nat_lit 0)), (.byt (nat_lit 0)), (.byt (nat_lit 0)), (.byt (nat_lit 0)), (.byt (nat_lit 0)), (.byt (nat_lit 0)), (.byt (nat_lit 0)), (.byt (nat_lit 0)), (.byt (nat_lit 0)), (.byt (nat_lit 0)), (.byt (nat_lit 0)), (.byt (nat_lit 0)), (.byt (nat_lit 0)), (.byt (nat_lit 0)), (.byt (nat_lit 0)), (.byt (nat_lit 0)), (.byt (nat_lit 0)), (.byt (nat_lit 0)), (.byt (nat_lit 0)), (.byt (nat_lit 0)), (.byt (nat_lit 0)), (.byt (nat_lit 0)), (.byt (nat_lit 0)), (.byt (nat_lit 0)), (.byt (nat_lit 0)), (.byt (nat_lit 0)), (.byt (nat_lit 0)), (.byt (nat_lit 0)), (.byt (nat_lit 0)), (.byt (nat_lit 0)), (.byt (nat_lit 0)), (.byt (nat_lit 0)), (.byt (nat_lit 0)), (.byt (nat_lit 0)), (.byt (nat_lit 0)), (.byt (nat_lit 0)), (.byt (nat_lit 0)), (.byt (nat_lit 0)), (.byt (nat_lit 0)), (.byt (nat_lit 0)), (.byt (nat_lit 0)), (.byt (nat_lit 0)), (.byt (nat_lit 0)), (.byt (nat_lit 0)), (.byt (nat_lit 0)), (.byt (nat_lit 0)), (.byt (nat_lit 0))]⟩,
 ⟨.struct [(0, 17), (1, 17), (2, 17), (3, 9)], 4, true, [(.ref (nat_lit 4) (nat_lit 0) (nat_lit 0) (nat_lit 0)), (.ref (nat_lit 4) (nat_lit 0) (nat_lit 0) (nat_lit 0)), (.ref (nat_lit 4) (nat_lit 0) (nat_lit 0) (nat_lit 0)), (.str (nat_lit 0) (nat_lit 0))]⟩,
 ⟨.struct [(0, 17), (1, 17), (2, 17), (3, 9)], 4, true, [(.ref (nat_lit 4) (nat_lit 0) (nat_lit 0) (nat_lit 0)), (.ref (nat_lit 4) (nat_lit 0) (nat_lit 0) (nat_lit 0)), (.ref (nat_lit 4) (nat_lit 0) (nat_lit 0) (nat_lit 0)), (.str (nat_lit 0) (nat_lit 0))]⟩,
 ⟨.other, 0, true, []⟩,
 ⟨.struct [(0, 219)], 0, true, []⟩,
 ⟨.struct [(0, 219)], 0, true, []⟩,
 ⟨.other, 1, false, [(.ref (nat_lit 9) (nat_lit 0) (nat_lit 0) (nat_lit 0))]⟩,
 ⟨.int .u8, 1, false, [(.byt (nat_lit 0))]⟩,
 ⟨.int .u8, 1, false, [(.byt (nat_lit 0))]⟩,
 ⟨.other, 1, false, [(.ref (nat_lit 9) (nat_lit 0) (nat_lit 0) (nat_lit 0))]⟩,
 ⟨.int .i32, 1, false, [junk]⟩,
 ⟨.int .i32, 1, false, [junk]⟩,
 ⟨.struct [(0, 12), (1, 12), (2, 210), (3, 223), (4, 5), (5, 5), (6, 224), (7, 225), (8, 164), (9, 226), (10, 227)], 11, true, [junk, junk, junk, (.byt (nat_lit 0)), (.byt (nat_lit 0)), (.byt (nat_lit 0)), (.byt (nat_lit 0)), (.ref (nat_lit 9) (nat_lit 0) (nat_lit 0) (nat_lit 0)), (.ref (nat_lit 4) (nat_lit 0) (nat_lit 0) (nat_lit 0)), junk, junk]⟩,
 ⟨.struct [(0, 12), (1, 12), (2, 210), (3, 223), (4, 5), (5, 5), (6, 224), (7, 225), (8, 164), (9, 226), (10, 227)], 11, true, [junk, junk, junk, (.byt (nat_lit 0)), (.byt (nat_lit 0)), (.byt (nat_lit 0)), (.byt (nat_lit 0)), (.ref (nat_lit 9) (nat_lit 0) (nat_lit 0) (nat_lit 0)), (.ref (nat_lit 4) (nat_lit 0) (nat_lit 0) (nat_lit 0)), junk, junk]⟩]

def PU : List Nat := [3, 6, 8, 11, 13, 16, 17, 18, 20, 21, 22, 23, 24, 27, 32, 36, 37, 42, 43, 46, 47, 48, 54, 62, 63, 64, 67, 68, 69, 71, 72, 73, 76, 79, 80, 84, 85, 86, 88, 97, 98, 103, 105, 106, 107, 110, 111, 112, 113, 116, 117, 118, 120, 122, 123, 125, 126, 127, 128, 131, 132, 133, 137, 138, 139, 142, 143, 144, 145, 148, 149, 150, 152, 153, 155, 157, 159, 161, 162, 163, 164, 165, 166, 167, 168, 170, 171, 175, 176, 177, 178, 179, 180, 181, 182, 183]
theorem f3_den : denF ⟨TT, [1, 2, 5], [], [], [], Tryz.f3.results.toList, PU, Tryz.f3.ntmps, []⟩ 0 (Tryz.f3.body.getD .skip) = f3 := by kernel_rfl
theorem f4_den : denF ⟨TT, [0], [], [], [], Tryz.f4.results.toList, PU, Tryz.f4.ntmps, []⟩ 0 (Tryz.f4.body.getD .skip) = f4 := by kernel_rfl
theorem f5_den : denF ⟨TT, [0], [], [], [], Tryz.f5.results.toList, PU, Tryz.f5.ntmps, []⟩ 0 (Tryz.f5.body.getD .skip) = f5 := by kernel_rfl
theorem f6_den : denF ⟨TT, [2, 3], [], [], [], Tryz.f6.results.toList, PU, Tryz.f6.ntmps, []⟩ 2 (Tryz.f6.body.getD .skip) = f6 := by kernel_rfl
theorem f7_den : denF ⟨TT, [2], [], [], [], Tryz.f7.results.toList, PU, Tryz.f7.ntmps, []⟩ 2 (Tryz.f7.body.getD .skip) = f7 := by kernel_rfl
theorem f8_den : denF ⟨TT, [2], [], [], [], Tryz.f8.results.toList, PU, Tryz.f8.ntmps, []⟩ 2 (Tryz.f8.body.getD .skip) = f8 := by kernel_rfl
theorem f9_den : denF ⟨TT, [0], [], [], [], Tryz.f9.results.toList, PU, Tryz.f9.ntmps, []⟩ 0 (Tryz.f9.body.getD .skip) = f9 := by kernel_rfl
theorem f10_den : denF ⟨TT, [0], [], [], [], Tryz.f10.results.toList, PU, Tryz.f10.ntmps, []⟩ 0 (Tryz.f10.body.getD .skip) = f10 := by kernel_rfl
theorem f11_den : denF ⟨TT, [2, 3], [], [], [], Tryz.f11.results.toList, PU, Tryz.f11.ntmps, []⟩ 2 (Tryz.f11.body.getD .skip) = f11 := by kernel_rfl
theorem f12_den : denF ⟨TT, [2], [], [], [], Tryz.f12.results.toList, PU, Tryz.f12.ntmps, []⟩ 2 (Tryz.f12.body.getD .skip) = f12 := by kernel_rfl
theorem f13_den : denF ⟨TT, [2], [], [], [], Tryz.f13.results.toList, PU, Tryz.f13.ntmps, []⟩ 2 (Tryz.f13.body.getD .skip) = f13 := by kernel_rfl
theorem f14_den : denF ⟨TT, [0, 5], [], [(0, [.b 0 5, .t 1]), (1, [.b 0 5, .t 1, .t 14, .t 15, .t 16])], [(0, [.b 0 5, .t 1, .t 14, .t 15, .t 16])], Tryz.f14.results.toList, PU, Tryz.f14.ntmps, []⟩ 0 (Tryz.f14.body.getD .skip) = f14 := by kernel_rfl
theorem f15_den : denF ⟨TT, [0, 5, 6], [], [(0, [.b 0 5, .t 1]), (1, [.b 0 5, .t 1, .t 15, .t 16, .t 17])], [(0, [.b 0 5, .t 1, .t 15, .t 16, .t 17])], Tryz.f15.results.toList, PU, Tryz.f15.ntmps, []⟩ 0 (Tryz.f15.body.getD .skip) = f15 := by kernel_rfl
theorem f16_den : denF ⟨TT, [2, 3], [], [], [], Tryz.f16.results.toList, PU, Tryz.f16.ntmps, []⟩ 2 (Tryz.f16.body.getD .skip) = f16 := by kernel_rfl
theorem f17_den : denF ⟨TT, [], [], [(0, []), (1, [.t 0, .t 1, .t 5])], [(0, [.t 0, .t 1, .t 5])], Tryz.f17.results.toList, PU, Tryz.f17.ntmps, []⟩ 2 (Tryz.f17.body.getD .skip) = f17 := by kernel_rfl
theorem f18_den : denF ⟨TT, [], [], [(0, []), (1, [.t 0, .t 1, .t 5])], [(0, [.t 0, .t 1, .t 5])], Tryz.f18.results.toList, PU, Tryz.f18.ntmps, []⟩ 2 (Tryz.f18.body.getD .skip) = f18 := by kernel_rfl
theorem f19_den : denF ⟨TT, [2], [], [], [], Tryz.f19.results.toList, PU, Tryz.f19.ntmps, []⟩ 2 (Tryz.f19.body.getD .skip) = f19 := by kernel_rfl
theorem f20_den : denF ⟨TT, [], [], [(0, [.t 1]), (1, [.t 0, .t 1, .t 5])], [(0, [.t 0, .t 1, .t 5])], Tryz.f20.results.toList, PU, Tryz.f20.ntmps, []⟩ 2 (Tryz.f20.body.getD .skip) = f20 := by kernel_rfl
theorem f21_den : denF ⟨TT, [], [], [(0, [.t 1]), (1, [.t 0, .t 1, .t 5])], [(0, [.t 0, .t 1, .t 5])], Tryz.f21.results.toList, PU, Tryz.f21.ntmps, []⟩ 2 (Tryz.f21.body.getD .skip) = f21 := by kernel_rfl
theorem f22_den : denF ⟨TT, [2], [], [], [], Tryz.f22.results.toList, PU, Tryz.f22.ntmps, []⟩ 2 (Tryz.f22.body.getD .skip) = f22 := by kernel_rfl
theorem f23_den : denF ⟨TT, [], [], [(0, [.t 1]), (1, [.t 0, .t 1, .t 5])], [(0, [.t 0, .t 1, .t 5])], Tryz.f23.results.toList, PU, Tryz.f23.ntmps, []⟩ 2 (Tryz.f23.body.getD .skip) = f23 := by kernel_rfl
theorem f24_den : denF ⟨TT, [], [], [(0, [.t 1]), (1, [.t 0, .t 1, .t 5])], [(0, [.t 0, .t 1, .t 5])], Tryz.f24.results.toList, PU, Tryz.f24.ntmps, []⟩ 2 (Tryz.f24.body.getD .skip) = f24 := by kernel_rfl
theorem f25_den : denF ⟨TT, [0], [], [], [], Tryz.f25.results.toList, PU, Tryz.f25.ntmps, []⟩ 0 (Tryz.f25.body.getD .skip) = f25 := by kernel_rfl
theorem f26_den : denF ⟨TT, [], [], [(0, [.t 4, .t 5]), (1, [.t 4, .t 5])], [(0, [.t 4, .t 5])], Tryz.f26.results.toList, PU, Tryz.f26.ntmps, []⟩ 1 (Tryz.f26.body.getD .skip) = f26 := by kernel_rfl
theorem f27_den : denF ⟨TT, [], [], [], [], Tryz.f27.results.toList, PU, Tryz.f27.ntmps, []⟩ 0 (Tryz.f27.body.getD .skip) = f27 := by kernel_rfl
theorem f28_den : denF ⟨TT, [3, 4], [], [], [], Tryz.f28.results.toList, PU, Tryz.f28.ntmps, []⟩ 2 (Tryz.f28.body.getD .skip) = f28 := by kernel_rfl
theorem f29_den : denF ⟨TT, [1, 2, 3, 5], [], [(0, [.b 2 5, .b 3 5, .c 3 0, .c 3 1, .c 3 2, .c 3 3, .c 3 4]), (1, [.b 2 5, .b 3 5, .c 3 0, .c 3 1, .c 3 2, .c 3 3, .c 3 4, .t 14, .t 15, .t 16])], [(0, [.b 2 5, .b 3 5, .c 3 0, .c 3 1, .c 3 2, .c 3 3, .c 3 4, .t 14, .t 15, .t 16])], Tryz.f29.results.toList, PU, Tryz.f29.ntmps, []⟩ 1 (Tryz.f29.body.getD .skip) = f29 := by kernel_rfl
theorem f30_den : denF ⟨TT, [0], [], [], [], Tryz.f30.results.toList, PU, Tryz.f30.ntmps, []⟩ 0 (Tryz.f30.body.getD .skip) = f30 := by kernel_rfl
theorem f31_den : denF ⟨TT, [6], [], [(0, [.t 5]), (1, [.t 0, .t 4, .t 5])], [(0, [.t 0, .t 4, .t 5])], Tryz.f31.results.toList, PU, Tryz.f31.ntmps, []⟩ 1 (Tryz.f31.body.getD .skip) = f31 := by kernel_rfl
theorem f32_den : denF ⟨TT, [], [], [], [], Tryz.f32.results.toList, PU, Tryz.f32.ntmps, []⟩ 0 (Tryz.f32.body.getD .skip) = f32 := by kernel_rfl
theorem f33_den : denF ⟨TT, [3, 4, 6, 8], [], [(0, [.b 4 3, .b 6 3, .c 6 0, .c 6 1, .c 6 2]), (1, [.b 4 3, .b 6 3, .c 6 0, .c 6 1, .c 6 2, .t 45, .t 46, .t 47])], [(0, [.b 4 3, .b 6 3, .c 6 0, .c 6 1, .c 6 2, .t 45, .t 46, .t 47])], Tryz.f33.results.toList, PU, Tryz.f33.ntmps, []⟩ 2 (Tryz.f33.body.getD .skip) = f33 := by kernel_rfl
theorem f34_den : denF ⟨TT, [1, 2, 3, 5], [], [(0, [.b 2 5, .b 3 5, .c 3 0, .c 3 1, .c 3 2, .c 3 3, .c 3 4]), (1, [.b 2 5, .b 3 5, .c 3 0, .c 3 1, .c 3 2, .c 3 3, .c 3 4, .t 14, .t 15, .t 16])], [(0, [.b 2 5, .b 3 5, .c 3 0, .c 3 1, .c 3 2, .c 3 3, .c 3 4, .t 14, .t 15, .t 16])], Tryz.f34.results.toList, PU, Tryz.f34.ntmps, []⟩ 1 (Tryz.f34.body.getD .skip) = f34 := by kernel_rfl
theorem f35_den : denF ⟨TT, [4, 5], [], [], [], Tryz.f35.results.toList, PU, Tryz.f35.ntmps, []⟩ 3 (Tryz.f35.body.getD .skip) = f35 := by kernel_rfl
theorem f36_den : denF ⟨TT, [], [], [(0, []), (1, [.t 0, .t 1, .t 5])], [(0, [.t 0, .t 1, .t 5])], Tryz.f36.results.toList, PU, Tryz.f36.ntmps, []⟩ 2 (Tryz.f36.body.getD .skip) = f36 := by kernel_rfl
theorem f37_den : denF ⟨TT, [], [], [(0, []), (1, [.t 0, .t 1, .t 5])], [(0, [.t 0, .t 1, .t 5])], Tryz.f37.results.toList, PU, Tryz.f37.ntmps, []⟩ 2 (Tryz.f37.body.getD .skip) = f37 := by kernel_rfl
theorem f38_den : denF ⟨TT, [2, 3], [], [], [], Tryz.f38.results.toList, PU, Tryz.f38.ntmps, []⟩ 2 (Tryz.f38.body.getD .skip) = f38 := by kernel_rfl
theorem f39_den : denF ⟨TT, [2, 3], [], [], [], Tryz.f39.results.toList, PU, Tryz.f39.ntmps, []⟩ 2 (Tryz.f39.body.getD .skip) = f39 := by kernel_rfl
theorem f40_den : denF ⟨TT, [], [], [(0, [.t 1]), (1, [.t 0, .t 1, .t 5])], [(0, [.t 0, .t 1, .t 5])], Tryz.f40.results.toList, PU, Tryz.f40.ntmps, []⟩ 2 (Tryz.f40.body.getD .skip) = f40 := by kernel_rfl
theorem f41_den : denF ⟨TT, [], [], [(0, [.t 1]), (1, [.t 0, .t 1, .t 5])], [(0, [.t 0, .t 1, .t 5])], Tryz.f41.results.toList, PU, Tryz.f41.ntmps, []⟩ 2 (Tryz.f41.body.getD .skip) = f41 := by kernel_rfl
theorem f42_den : denF ⟨TT, [], [], [(0, [.t 3]), (1, [.t 0, .t 3])], [(0, [.t 0, .t 3])], Tryz.f42.results.toList, PU, Tryz.f42.ntmps, []⟩ 1 (Tryz.f42.body.getD .skip) = f42 := by kernel_rfl
theorem f43_den : denF ⟨TT, [], [], [(0, [.t 1]), (1, [.t 0, .t 1, .t 5])], [(0, [.t 0, .t 1, .t 5])], Tryz.f43.results.toList, PU, Tryz.f43.ntmps, []⟩ 2 (Tryz.f43.body.getD .skip) = f43 := by kernel_rfl
theorem f44_den : denF ⟨TT, [], [], [(0, [.t 1]), (1, [.t 0, .t 1, .t 5])], [(0, [.t 0, .t 1, .t 5])], Tryz.f44.results.toList, PU, Tryz.f44.ntmps, []⟩ 2 (Tryz.f44.body.getD .skip) = f44 := by kernel_rfl
theorem f45_den : denF ⟨TT, [], [], [(0, [.t 1]), (1, [.t 0, .t 1, .t 5])], [(0, [.t 0, .t 1, .t 5])], Tryz.f45.results.toList, PU, Tryz.f45.ntmps, []⟩ 2 (Tryz.f45.body.getD .skip) = f45 := by kernel_rfl
theorem f46_den : denF ⟨TT, [], [], [(0, [.t 1]), (1, [.t 0, .t 1, .t 5])], [(0, [.t 0, .t 1, .t 5])], Tryz.f46.results.toList, PU, Tryz.f46.ntmps, []⟩ 2 (Tryz.f46.body.getD .skip) = f46 := by kernel_rfl
theorem f47_den : denF ⟨TT, [], [], [(0, [.t 1]), (1, [.t 0, .t 1, .t 5])], [(0, [.t 0, .t 1, .t 5])], Tryz.f47.results.toList, PU, Tryz.f47.ntmps, []⟩ 2 (Tryz.f47.body.getD .skip) = f47 := by kernel_rfl
theorem f48_den : denF ⟨TT, [], [], [(0, [.t 1]), (1, [.t 0, .t 1, .t 5])], [(0, [.t 0, .t 1, .t 5])], Tryz.f48.results.toList, PU, Tryz.f48.ntmps, []⟩ 2 (Tryz.f48.body.getD .skip) = f48 := by kernel_rfl
theorem f49_den : denF ⟨TT, [], [], [(0, [.t 1]), (1, [.t 0, .t 1, .t 5])], [(0, [.t 0, .t 1, .t 5])], Tryz.f49.results.toList, PU, Tryz.f49.ntmps, []⟩ 2 (Tryz.f49.body.getD .skip) = f49 := by kernel_rfl
theorem f50_den : denF ⟨TT, [], [], [(0, [.t 1]), (1, [.t 0, .t 1, .t 5])], [(0, [.t 0, .t 1, .t 5])], Tryz.f50.results.toList, PU, Tryz.f50.ntmps, []⟩ 2 (Tryz.f50.body.getD .skip) = f50 := by kernel_rfl
theorem f51_den : denF ⟨TT, [], [], [(0, [.t 1]), (1, [.t 1, .t 7, .t 8, .t 9]), (2, [.t 1]), (3, [.t 1, .t 21, .t 22, .t 23])], [(0, [.t 1, .t 7, .t 8, .t 9]), (2, [.t 1, .t 21, .t 22, .t 23])], Tryz.f51.results.toList, PU, Tryz.f51.ntmps, []⟩ 0 (Tryz.f51.body.getD .skip) = f51 := by kernel_rfl
theorem f52_den : denF ⟨TT, [], [(45, [.t 0])], [(0, []), (1, [.t 0]), (2, [.t 0]), (3, [.t 0])], [(0, [.t 0]), (2, [.t 0])], Tryz.f52.results.toList, PU, Tryz.f52.ntmps, []⟩ 1 (Tryz.f52.body.getD .skip) = f52 := by kernel_rfl
theorem f53_den : denF ⟨TT, [2, 4], [], [(0, [.b 2 4, .t 0]), (1, [.b 2 4, .t 0, .t 3]), (2, [.b 2 4, .t 0, .t 3]), (3, [.b 2 4, .b 4 4, .c 4 0, .c 4 1, .c 4 2, .c 4 3, .t 0]), (4, [.b 2 4, .b 4 4, .c 4 0, .c 4 1, .c 4 2, .c 4 3, .t 0])], [(1, [.b 2 4, .t 0, .t 3]), (3, [.b 2 4, .b 4 4, .c 4 0, .c 4 1, .c 4 2, .c 4 3, .t 0])], Tryz.f53.results.toList, PU, Tryz.f53.ntmps, []⟩ 1 (Tryz.f53.body.getD .skip) = f53 := by kernel_rfl
theorem f54_den : denF ⟨TT, [5], [], [(0, [.t 3]), (1, [.t 3, .t 6, .t 7, .t 8])], [(0, [.t 3, .t 6, .t 7, .t 8])], Tryz.f54.results.toList, PU, Tryz.f54.ntmps, []⟩ 1 (Tryz.f54.body.getD .skip) = f54 := by kernel_rfl
theorem f55_den : denF ⟨TT, [4], [(9, [.b 4 8])], [], [], Tryz.f55.results.toList, PU, Tryz.f55.ntmps, []⟩ 2 (Tryz.f55.body.getD .skip) = f55 := by kernel_rfl
theorem f56_den : denF ⟨TT, [3, 4, 6, 8, 10], [], [(0, [.b 3 5, .b 4 3, .b 6 3, .c 3 4, .c 6 0, .c 6 1, .c 6 2]), (1, [.b 3 5, .b 4 3, .b 6 3, .c 3 4, .c 6 0, .c 6 1, .c 6 2, .t 43, .t 44, .t 45]), (2, [.b 4 3, .b 6 3, .c 6 0, .c 6 1, .c 6 2]), (3, [.b 4 3, .b 6 3, .c 6 0, .c 6 1, .c 6 2, .t 59, .t 60, .t 61])], [(0, [.b 3 5, .b 4 3, .b 6 3, .c 3 4, .c 6 0, .c 6 1, .c 6 2, .t 43, .t 44, .t 45]), (2, [.b 4 3, .b 6 3, .c 6 0, .c 6 1, .c 6 2, .t 59, .t 60, .t 61])], Tryz.f56.results.toList, PU, Tryz.f56.ntmps, []⟩ 2 (Tryz.f56.body.getD .skip) = f56 := by kernel_rfl
theorem f57_den : denF ⟨TT, [4, 5], [], [], [], Tryz.f57.results.toList, PU, Tryz.f57.ntmps, []⟩ 3 (Tryz.f57.body.getD .skip) = f57 := by kernel_rfl
theorem f58_den : denF ⟨TT, [3, 6, 7, 9], [(22, [.b 3 5, .b 6 5, .b 7 5, .c 3 4, .c 7 0, .c 7 1, .c 7 2, .c 7 3, .c 7 4, .t 1, .t 2]), (24, [.b 3 5, .b 6 5, .b 7 5, .c 3 4, .c 7 0, .c 7 1, .c 7 2, .c 7 3, .c 7 4, .t 1, .t 2]), (31, [.b 3 5, .b 6 5, .b 7 5, .c 3 4, .c 7 0, .c 7 1, .c 7 2, .c 7 3, .c 7 4, .t 1, .t 2]), (38, [.b 3 5, .b 6 5, .b 7 5, .c 3 4, .c 7 0, .c 7 1, .c 7 2, .c 7 3, .c 7 4, .t 1, .t 2])], [(0, [.b 3 5, .b 6 5, .b 7 5, .c 3 4, .c 7 0, .c 7 1, .c 7 2, .c 7 3, .c 7 4, .t 1, .t 2]), (1, [.b 6 5, .b 7 5, .c 7 0, .c 7 1, .c 7 2, .c 7 3, .c 7 4]), (2, [.b 6 5, .b 7 5, .c 7 0, .c 7 1, .c 7 2, .c 7 3, .c 7 4, .t 1, .t 2, .t 45, .t 46, .t 47])], [(1, [.b 6 5, .b 7 5, .c 7 0, .c 7 1, .c 7 2, .c 7 3, .c 7 4, .t 1, .t 2, .t 45, .t 46, .t 47])], Tryz.f58.results.toList, PU, Tryz.f58.ntmps, []⟩ 3 (Tryz.f58.body.getD .skip) = f58 := by kernel_rfl
theorem f59_den : denF ⟨TT, [], [], [(0, [.t 1]), (1, [.t 1, .t 6, .t 7, .t 8]), (2, [.t 1]), (3, [.t 1, .t 20, .t 21, .t 22])], [(0, [.t 1, .t 6, .t 7, .t 8]), (2, [.t 1, .t 20, .t 21, .t 22])], Tryz.f59.results.toList, PU, Tryz.f59.ntmps, []⟩ 0 (Tryz.f59.body.getD .skip) = f59 := by kernel_rfl
theorem f60_den : denF ⟨TT, [], [(21, [.t 0, .t 20, .t 21])], [(0, []), (1, [.t 0]), (2, [.t 0]), (3, [.t 0]), (4, [.t 0])], [(0, [.t 0]), (3, [.t 0])], Tryz.f60.results.toList, PU, Tryz.f60.ntmps, []⟩ 1 (Tryz.f60.body.getD .skip) = f60 := by kernel_rfl
theorem f61_den : denF ⟨TT, [2, 5, 7], [], [(0, [.b 2 4, .t 0]), (1, [.b 2 4, .t 0]), (2, [.b 2 4, .t 0, .t 4]), (3, [.b 2 4]), (4, [.b 2 4, .t 0, .t 9, .t 10]), (5, [.b 2 4, .t 0, .t 11]), (6, [.b 2 4, .t 0, .t 11])], [(1, [.b 2 4, .t 0, .t 4]), (3, [.b 2 4, .t 0, .t 9, .t 10]), (5, [.b 2 4, .t 0, .t 11])], Tryz.f61.results.toList, PU, Tryz.f61.ntmps, []⟩ 1 (Tryz.f61.body.getD .skip) = f61 := by kernel_rfl
theorem f62_den : denF ⟨TT, [5], [], [(0, []), (1, [.t 3, .t 6, .t 7, .t 8])], [(0, [.t 3, .t 6, .t 7, .t 8])], Tryz.f62.results.toList, PU, Tryz.f62.ntmps, []⟩ 1 (Tryz.f62.body.getD .skip) = f62 := by kernel_rfl
theorem f64_den : denF ⟨TT, [3, 5], [], [], [], Tryz.f64.results.toList, PU, Tryz.f64.ntmps, []⟩ 2 (Tryz.f64.body.getD .skip) = f64 := by kernel_rfl
theorem f65_den : denF ⟨TT, [5], [], [(0, [.t 3]), (1, [.t 3, .t 6, .t 7, .t 8])], [(0, [.t 3, .t 6, .t 7, .t 8])], Tryz.f65.results.toList, PU, Tryz.f65.ntmps, []⟩ 1 (Tryz.f65.body.getD .skip) = f65 := by kernel_rfl
theorem f66_den : denF ⟨TT, [1, 2], [], [], [], Tryz.f66.results.toList, PU, Tryz.f66.ntmps, []⟩ 1 (Tryz.f66.body.getD .skip) = f66 := by kernel_rfl
theorem f67_den : denF ⟨TT, [1, 5], [], [(0, [.t 3]), (1, [.b 1 3, .c 1 0, .c 1 2, .t 3, .t 34, .t 35, .t 36])], [(0, [.b 1 3, .c 1 0, .c 1 2, .t 3, .t 34, .t 35, .t 36])], Tryz.f67.results.toList, PU, Tryz.f67.ntmps, []⟩ 1 (Tryz.f67.body.getD .skip) = f67 := by kernel_rfl
theorem f68_den : denF ⟨TT, [8], [], [(0, []), (1, [.t 1, .t 2, .t 9, .t 10, .t 11])], [(0, [.t 1, .t 2, .t 9, .t 10, .t 11])], Tryz.f68.results.toList, PU, Tryz.f68.ntmps, []⟩ 3 (Tryz.f68.body.getD .skip) = f68 := by kernel_rfl
theorem f69_den : denF ⟨TT, [], [], [], [], Tryz.f69.results.toList, PU, Tryz.f69.ntmps, []⟩ 1 (Tryz.f69.body.getD .skip) = f69 := by kernel_rfl
theorem f70_den : denF ⟨TT, [1, 2], [], [], [], Tryz.f70.results.toList, PU, Tryz.f70.ntmps, []⟩ 1 (Tryz.f70.body.getD .skip) = f70 := by kernel_rfl
theorem f71_den : denF ⟨TT, [2, 3], [], [], [], Tryz.f71.results.toList, PU, Tryz.f71.ntmps, []⟩ 2 (Tryz.f71.body.getD .skip) = f71 := by kernel_rfl
theorem f72_den : denF ⟨TT, [2, 3], [], [], [], Tryz.f72.results.toList, PU, Tryz.f72.ntmps, []⟩ 2 (Tryz.f72.body.getD .skip) = f72 := by kernel_rfl
theorem f73_den : denF ⟨TT, [], [], [(0, []), (1, [.t 0, .t 1, .t 5])], [(0, [.t 0, .t 1, .t 5])], Tryz.f73.results.toList, PU, Tryz.f73.ntmps, []⟩ 2 (Tryz.f73.body.getD .skip) = f73 := by kernel_rfl
theorem f74_den : denF ⟨TT, [2, 3], [], [], [], Tryz.f74.results.toList, PU, Tryz.f74.ntmps, []⟩ 2 (Tryz.f74.body.getD .skip) = f74 := by kernel_rfl
theorem f75_den : denF ⟨TT, [], [], [(0, [.t 1]), (1, [.t 0, .t 1, .t 5])], [(0, [.t 0, .t 1, .t 5])], Tryz.f75.results.toList, PU, Tryz.f75.ntmps, []⟩ 2 (Tryz.f75.body.getD .skip) = f75 := by kernel_rfl
theorem f76_den : denF ⟨TT, [], [], [(0, [.t 1]), (1, [.t 0, .t 1, .t 5])], [(0, [.t 0, .t 1, .t 5])], Tryz.f76.results.toList, PU, Tryz.f76.ntmps, []⟩ 2 (Tryz.f76.body.getD .skip) = f76 := by kernel_rfl
theorem f77_den : denF ⟨TT, [], [], [], [], Tryz.f77.results.toList, PU, Tryz.f77.ntmps, []⟩ 0 (Tryz.f77.body.getD .skip) = f77 := by kernel_rfl
theorem f78_den : denF ⟨TT, [], [], [], [], Tryz.f78.results.toList, PU, Tryz.f78.ntmps, []⟩ 0 (Tryz.f78.body.getD .skip) = f78 := by kernel_rfl
theorem f79_den : denF ⟨TT, [], [], [], [], Tryz.f79.results.toList, PU, Tryz.f79.ntmps, []⟩ 1 (Tryz.f79.body.getD .skip) = f79 := by kernel_rfl
theorem f80_den : denF ⟨TT, [2], [], [], [], Tryz.f80.results.toList, PU, Tryz.f80.ntmps, []⟩ 1 (Tryz.f80.body.getD .skip) = f80 := by kernel_rfl
theorem f81_den : denF ⟨TT, [], [], [(0, [.t 0]), (1, [.t 0, .t 3])], [(0, [.t 0, .t 3])], Tryz.f81.results.toList, PU, Tryz.f81.ntmps, []⟩ 1 (Tryz.f81.body.getD .skip) = f81 := by kernel_rfl
theorem f82_den : denF ⟨TT, [2], [], [], [], Tryz.f82.results.toList, PU, Tryz.f82.ntmps, []⟩ 1 (Tryz.f82.body.getD .skip) = f82 := by kernel_rfl
theorem f83_den : denF ⟨TT, [2], [], [(0, [.b 2 4, .t 0, .t 3]), (1, [.b 2 4, .t 0, .t 3]), (2, [.b 2 4, .t 0])], [(0, [.b 2 4, .t 0, .t 3])], Tryz.f83.results.toList, PU, Tryz.f83.ntmps, []⟩ 1 (Tryz.f83.body.getD .skip) = f83 := by kernel_rfl
theorem f84_den : denF ⟨TT, [1], [], [], [], Tryz.f84.results.toList, PU, Tryz.f84.ntmps, []⟩ 1 (Tryz.f84.body.getD .skip) = f84 := by kernel_rfl
theorem f85_den : denF ⟨TT, [1, 5], [], [(0, [.t 3]), (1, [.t 3, .t 7, .t 8, .t 9])], [(0, [.t 3, .t 7, .t 8, .t 9])], Tryz.f85.results.toList, PU, Tryz.f85.ntmps, []⟩ 1 (Tryz.f85.body.getD .skip) = f85 := by kernel_rfl
theorem f86_den : denF ⟨TT, [4, 7], [], [], [], Tryz.f86.results.toList, PU, Tryz.f86.ntmps, []⟩ 3 (Tryz.f86.body.getD .skip) = f86 := by kernel_rfl
theorem f87_den : denF ⟨TT, [1, 2], [], [], [], Tryz.f87.results.toList, PU, Tryz.f87.ntmps, []⟩ 1 (Tryz.f87.body.getD .skip) = f87 := by kernel_rfl
theorem f88_den : denF ⟨TT, [1, 5], [], [(0, [.t 3]), (1, [.b 1 3, .c 1 0, .c 1 2, .t 3, .t 29, .t 30, .t 31])], [(0, [.b 1 3, .c 1 0, .c 1 2, .t 3, .t 29, .t 30, .t 31])], Tryz.f88.results.toList, PU, Tryz.f88.ntmps, [(9, [4, 0, 1, 2, 3, 5, 6, 7, 8, 9, 10])]⟩ 1 (Tryz.f88.body.getD .skip) = f88 := by kernel_rfl
theorem f89_den : denF ⟨TT, [5, 8], [(38, [.t 0, .t 9])], [], [], Tryz.f89.results.toList, PU, Tryz.f89.ntmps, []⟩ 4 (Tryz.f89.body.getD .skip) = f89 := by kernel_rfl
theorem f90_den : denF ⟨TT, [], [], [], [], Tryz.f90.results.toList, PU, Tryz.f90.ntmps, []⟩ 1 (Tryz.f90.body.getD .skip) = f90 := by kernel_rfl
theorem f91_den : denF ⟨TT, [], [(22, [.t 1, .t 5, .t 6, .t 8, .t 10, .t 11, .t 12]), (25, [.t 1, .t 5, .t 8, .t 10, .t 11, .t 12]), (36, [.t 5])], [(0, [.t 1, .t 5, .t 6]), (1, [.t 1, .t 5, .t 6, .t 10, .t 11, .t 12])], [(0, [.t 1, .t 5, .t 6, .t 10, .t 11, .t 12])], Tryz.f91.results.toList, PU, Tryz.f91.ntmps, []⟩ 2 (Tryz.f91.body.getD .skip) = f91 := by kernel_rfl
theorem f92_den : denF ⟨TT, [], [(24, [.t 1, .t 5, .t 16, .t 17, .t 18])], [(0, [.t 5]), (1, [.t 1, .t 5, .t 16, .t 17, .t 18])], [(0, [.t 1, .t 5, .t 16, .t 17, .t 18])], Tryz.f92.results.toList, PU, Tryz.f92.ntmps, []⟩ 2 (Tryz.f92.body.getD .skip) = f92 := by kernel_rfl
theorem f93_den : denF ⟨TT, [], [(15, [.t 3, .t 7, .t 8, .t 9])], [(0, [.t 3]), (1, [.t 3, .t 7, .t 8, .t 9])], [(0, [.t 3, .t 7, .t 8, .t 9])], Tryz.f93.results.toList, PU, Tryz.f93.ntmps, []⟩ 1 (Tryz.f93.body.getD .skip) = f93 := by kernel_rfl
theorem f94_den : denF ⟨TT, [], [], [], [], Tryz.f94.results.toList, PU, Tryz.f94.ntmps, []⟩ 0 (Tryz.f94.body.getD .skip) = f94 := by kernel_rfl
theorem f95_den : denF ⟨TT, [], [], [], [], Tryz.f95.results.toList, PU, Tryz.f95.ntmps, []⟩ 0 (Tryz.f95.body.getD .skip) = f95 := by kernel_rfl
theorem f96_den : denF ⟨TT, [], [], [(0, []), (1, [.t 0, .t 3])], [(0, [.t 0, .t 3])], Tryz.f96.results.toList, PU, Tryz.f96.ntmps, []⟩ 1 (Tryz.f96.body.getD .skip) = f96 := by kernel_rfl
theorem f97_den : denF ⟨TT, [], [(4, [.t 4])], [(0, [])], [], Tryz.f97.results.toList, PU, Tryz.f97.ntmps, []⟩ 1 (Tryz.f97.body.getD .skip) = f97 := by kernel_rfl
theorem f98_den : denF ⟨TT, [2], [], [(0, [.b 2 4])], [], Tryz.f98.results.toList, PU, Tryz.f98.ntmps, []⟩ 1 (Tryz.f98.body.getD .skip) = f98 := by kernel_rfl
theorem f99_den : denF ⟨TT, [3, 8], [], [(0, []), (1, [.t 1, .t 2, .t 36, .t 37, .t 38])], [(0, [.t 1, .t 2, .t 36, .t 37, .t 38])], Tryz.f99.results.toList, PU, Tryz.f99.ntmps, []⟩ 3 (Tryz.f99.body.getD .skip) = f99 := by kernel_rfl
theorem f103_den : denF ⟨TT, [3, 4, 8, 10], [(45, [.b 3 5, .b 4 4, .c 3 2, .c 3 3, .t 0, .t 6, .t 11, .t 12, .t 13])], [(0, [.b 3 5, .b 4 4, .c 3 2, .c 3 3, .t 0, .t 6]), (1, [.b 3 5, .b 4 4, .c 3 2, .c 3 3, .t 0, .t 6, .t 11, .t 12, .t 13]), (2, [.b 4 4, .t 0, .t 6]), (3, [.b 3 5, .b 4 4, .c 3 2, .c 3 3, .t 0, .t 6, .t 51, .t 52, .t 53])], [(0, [.b 3 5, .b 4 4, .c 3 2, .c 3 3, .t 0, .t 6, .t 11, .t 12, .t 13]), (2, [.b 3 5, .b 4 4, .c 3 2, .c 3 3, .t 0, .t 6, .t 51, .t 52, .t 53])], Tryz.f103.results.toList, PU, Tryz.f103.ntmps, []⟩ 2 (Tryz.f103.body.getD .skip) = f103 := by kernel_rfl
theorem f104_den : denF ⟨TT, [2, 4, 5, 7], [(20, [.b 2 5, .b 4 5, .b 5 5, .c 2 4, .c 5 0, .c 5 1, .c 5 2, .c 5 3, .c 5 4, .t 1])], [(0, [.b 4 5, .b 5 5, .c 5 0, .c 5 1, .c 5 2, .c 5 3, .c 5 4]), (1, [.b 4 5, .b 5 5, .c 5 0, .c 5 1, .c 5 2, .c 5 3, .c 5 4, .t 1, .t 27, .t 28, .t 29])], [(0, [.b 4 5, .b 5 5, .c 5 0, .c 5 1, .c 5 2, .c 5 3, .c 5 4, .t 1, .t 27, .t 28, .t 29])], Tryz.f104.results.toList, PU, Tryz.f104.ntmps, []⟩ 2 (Tryz.f104.body.getD .skip) = f104 := by kernel_rfl
theorem f105_den : denF ⟨TT, [4], [], [(0, []), (1, [.t 8, .t 9, .t 10])], [(0, [.t 8, .t 9, .t 10])], Tryz.f105.results.toList, PU, Tryz.f105.ntmps, []⟩ 1 (Tryz.f105.body.getD .skip) = f105 := by kernel_rfl
theorem f106_den : denF ⟨TT, [1], [], [], [], Tryz.f106.results.toList, PU, Tryz.f106.ntmps, []⟩ 1 (Tryz.f106.body.getD .skip) = f106 := by kernel_rfl
theorem f107_den : denF ⟨TT, [1], [], [], [], Tryz.f107.results.toList, PU, Tryz.f107.ntmps, []⟩ 1 (Tryz.f107.body.getD .skip) = f107 := by kernel_rfl
theorem f108_den : denF ⟨TT, [3], [], [], [], Tryz.f108.results.toList, PU, Tryz.f108.ntmps, []⟩ 2 (Tryz.f108.body.getD .skip) = f108 := by kernel_rfl
theorem f109_den : denF ⟨TT, [1, 2], [], [], [], Tryz.f109.results.toList, PU, Tryz.f109.ntmps, []⟩ 1 (Tryz.f109.body.getD .skip) = f109 := by kernel_rfl
theorem f110_den : denF ⟨TT, [3, 6], [], [(0, [.b 3 5, .c 3 0, .c 3 1, .c 3 2, .c 3 3, .c 3 4, .t 0]), (1, [.b 3 5, .c 3 0, .c 3 1, .c 3 2, .c 3 3, .c 3 4, .t 0, .t 7, .t 8, .t 9])], [(0, [.b 3 5, .c 3 0, .c 3 1, .c 3 2, .c 3 3, .c 3 4, .t 0, .t 7, .t 8, .t 9])], Tryz.f110.results.toList, PU, Tryz.f110.ntmps, []⟩ 2 (Tryz.f110.body.getD .skip) = f110 := by kernel_rfl
theorem f111_den : denF ⟨TT, [1, 5], [], [(0, [.t 3]), (1, [.t 3, .t 7, .t 8, .t 9])], [(0, [.t 3, .t 7, .t 8, .t 9])], Tryz.f111.results.toList, PU, Tryz.f111.ntmps, []⟩ 1 (Tryz.f111.body.getD .skip) = f111 := by kernel_rfl
theorem f112_den : denF ⟨TT, [], [], [(0, []), (1, [.t 0, .t 1, .t 12, .t 13])], [(0, [.t 0, .t 1, .t 12, .t 13])], Tryz.f112.results.toList, PU, Tryz.f112.ntmps, []⟩ 2 (Tryz.f112.body.getD .skip) = f112 := by kernel_rfl
theorem f113_den : denF ⟨TT, [], [], [(0, []), (1, [.t 0, .t 1, .t 5])], [(0, [.t 0, .t 1, .t 5])], Tryz.f113.results.toList, PU, Tryz.f113.ntmps, []⟩ 2 (Tryz.f113.body.getD .skip) = f113 := by kernel_rfl
theorem f114_den : denF ⟨TT, [2, 3], [], [], [], Tryz.f114.results.toList, PU, Tryz.f114.ntmps, []⟩ 2 (Tryz.f114.body.getD .skip) = f114 := by kernel_rfl
theorem f115_den : denF ⟨TT, [], [], [(0, []), (1, [.t 0, .t 1, .t 5])], [(0, [.t 0, .t 1, .t 5])], Tryz.f115.results.toList, PU, Tryz.f115.ntmps, []⟩ 2 (Tryz.f115.body.getD .skip) = f115 := by kernel_rfl
theorem f116_den : denF ⟨TT, [], [], [(0, []), (1, [.t 0, .t 3])], [(0, [.t 0, .t 3])], Tryz.f116.results.toList, PU, Tryz.f116.ntmps, []⟩ 1 (Tryz.f116.body.getD .skip) = f116 := by kernel_rfl
theorem f117_den : denF ⟨TT, [], [], [], [], Tryz.f117.results.toList, PU, Tryz.f117.ntmps, []⟩ 1 (Tryz.f117.body.getD .skip) = f117 := by kernel_rfl
theorem f118_den : denF ⟨TT, [], [(14, [.t 0, .t 4]), (47, [.t 0, .t 5])], [(0, [.t 0, .t 4, .t 5]), (1, [.t 0, .t 4, .t 5, .t 6])], [(0, [.t 0, .t 4, .t 5, .t 6])], Tryz.f118.results.toList, PU, Tryz.f118.ntmps, []⟩ 1 (Tryz.f118.body.getD .skip) = f118 := by kernel_rfl
theorem f119_den : denF ⟨TT, [2], [], [], [], Tryz.f119.results.toList, PU, Tryz.f119.ntmps, []⟩ 1 (Tryz.f119.body.getD .skip) = f119 := by kernel_rfl
theorem f120_den : denF ⟨TT, [2], [], [], [], Tryz.f120.results.toList, PU, Tryz.f120.ntmps, []⟩ 1 (Tryz.f120.body.getD .skip) = f120 := by kernel_rfl
theorem f121_den : denF ⟨TT, [2], [], [(0, [.t 1]), (1, [.b 2 4, .c 2 3, .t 1, .t 5])], [(0, [.b 2 4, .c 2 3, .t 1, .t 5])], Tryz.f121.results.toList, PU, Tryz.f121.ntmps, []⟩ 2 (Tryz.f121.body.getD .skip) = f121 := by kernel_rfl
theorem f122_den : denF ⟨TT, [1, 5], [], [(0, [.t 3]), (1, [.t 3, .t 7, .t 8, .t 9])], [(0, [.t 3, .t 7, .t 8, .t 9])], Tryz.f122.results.toList, PU, Tryz.f122.ntmps, []⟩ 1 (Tryz.f122.body.getD .skip) = f122 := by kernel_rfl
theorem f123_den : denF ⟨TT, [1, 4], [], [(0, [.b 1 4, .c 1 0, .c 1 1, .c 1 2, .c 1 3]), (1, [.b 1 4, .c 1 0, .c 1 1, .c 1 2, .c 1 3, .t 6, .t 7, .t 8])], [(0, [.b 1 4, .c 1 0, .c 1 1, .c 1 2, .c 1 3, .t 6, .t 7, .t 8])], Tryz.f123.results.toList, PU, Tryz.f123.ntmps, []⟩ 1 (Tryz.f123.body.getD .skip) = f123 := by kernel_rfl
theorem f124_den : denF ⟨TT, [3, 4, 7, 9, 11], [(34, [.b 4 4, .b 7 4, .c 7 0, .c 7 1, .c 7 2, .c 7 3, .t 6, .t 22, .t 23, .t 24])], [(0, [.b 4 4, .b 7 4, .c 7 0, .c 7 1, .c 7 2, .c 7 3, .t 6]), (1, [.b 4 4, .b 7 4, .c 7 0, .c 7 1, .c 7 2, .c 7 3, .t 6, .t 22, .t 23, .t 24]), (2, [.b 4 4, .b 7 4, .c 7 0, .c 7 1, .c 7 2, .c 7 3]), (3, [.b 4 4, .b 7 4, .c 7 0, .c 7 1, .c 7 2, .c 7 3, .t 37, .t 38, .t 39])], [(0, [.b 4 4, .b 7 4, .c 7 0, .c 7 1, .c 7 2, .c 7 3, .t 6, .t 22, .t 23, .t 24]), (2, [.b 4 4, .b 7 4, .c 7 0, .c 7 1, .c 7 2, .c 7 3, .t 37, .t 38, .t 39])], Tryz.f124.results.toList, PU, Tryz.f124.ntmps, []⟩ 2 (Tryz.f124.body.getD .skip) = f124 := by kernel_rfl
theorem f125_den : denF ⟨TT, [4], [], [(0, [.t 0]), (1, [.t 0, .t 5, .t 6, .t 7])], [(0, [.t 0, .t 5, .t 6, .t 7])], Tryz.f125.results.toList, PU, Tryz.f125.ntmps, []⟩ 1 (Tryz.f125.body.getD .skip) = f125 := by kernel_rfl
theorem f126_den : denF ⟨TT, [], [], [], [], Tryz.f126.results.toList, PU, Tryz.f126.ntmps, []⟩ 3 (Tryz.f126.body.getD .skip) = f126 := by kernel_rfl
theorem f127_den : denF ⟨TT, [1], [], [], [], Tryz.f127.results.toList, PU, Tryz.f127.ntmps, []⟩ 1 (Tryz.f127.body.getD .skip) = f127 := by kernel_rfl
theorem f128_den : denF ⟨TT, [1], [], [], [], Tryz.f128.results.toList, PU, Tryz.f128.ntmps, []⟩ 1 (Tryz.f128.body.getD .skip) = f128 := by kernel_rfl
theorem f129_den : denF ⟨TT, [5, 13], [(69, [.b 13 5, .c 13 0, .c 13 1, .c 13 2, .c 13 3, .c 13 4, .t 0, .t 2, .t 3, .t 10, .t 14, .t 53, .t 54, .t 55])], [(0, [.t 3, .t 11]), (1, [.t 0, .t 2, .t 3, .t 10, .t 11, .t 53, .t 54, .t 55])], [(0, [.t 0, .t 2, .t 3, .t 10, .t 11, .t 53, .t 54, .t 55])], Tryz.f129.results.toList, PU, Tryz.f129.ntmps, []⟩ 4 (Tryz.f129.body.getD .skip) = f129 := by kernel_rfl
theorem f130_den : denF ⟨TT, [1, 2], [], [], [], Tryz.f130.results.toList, PU, Tryz.f130.ntmps, []⟩ 1 (Tryz.f130.body.getD .skip) = f130 := by kernel_rfl
theorem f131_den : denF ⟨TT, [3, 6], [], [(0, [.b 3 5, .c 3 0, .c 3 1, .c 3 2, .c 3 3, .c 3 4, .t 0]), (1, [.b 3 5, .c 3 0, .c 3 1, .c 3 2, .c 3 3, .c 3 4, .t 0, .t 7, .t 8, .t 9])], [(0, [.b 3 5, .c 3 0, .c 3 1, .c 3 2, .c 3 3, .c 3 4, .t 0, .t 7, .t 8, .t 9])], Tryz.f131.results.toList, PU, Tryz.f131.ntmps, []⟩ 2 (Tryz.f131.body.getD .skip) = f131 := by kernel_rfl
theorem f132_den : denF ⟨TT, [1, 5], [], [(0, [.t 3]), (1, [.t 3, .t 7, .t 8, .t 9])], [(0, [.t 3, .t 7, .t 8, .t 9])], Tryz.f132.results.toList, PU, Tryz.f132.ntmps, []⟩ 1 (Tryz.f132.body.getD .skip) = f132 := by kernel_rfl
theorem f133_den : denF ⟨TT, [3, 6], [], [(0, []), (1, [.b 3 4, .c 3 0, .c 3 1, .t 7, .t 8, .t 9])], [(0, [.b 3 4, .c 3 0, .c 3 1, .t 7, .t 8, .t 9])], Tryz.f133.results.toList, PU, Tryz.f133.ntmps, []⟩ 2 (Tryz.f133.body.getD .skip) = f133 := by kernel_rfl
theorem f134_den : denF ⟨TT, [3], [], [], [], Tryz.f134.results.toList, PU, Tryz.f134.ntmps, [(3, [2, 3, 0, 1, 4, 5, 6, 7])]⟩ 2 (Tryz.f134.body.getD .skip) = f134 := by kernel_rfl
theorem f135_den : denF ⟨TT, [], [], [(0, []), (1, [.t 1, .t 7, .t 8, .t 9])], [(0, [.t 1, .t 7, .t 8, .t 9])], Tryz.f135.results.toList, PU, Tryz.f135.ntmps, []⟩ 2 (Tryz.f135.body.getD .skip) = f135 := by kernel_rfl
theorem f136_den : denF ⟨TT, [], [], [], [], Tryz.f136.results.toList, PU, Tryz.f136.ntmps, []⟩ 1 (Tryz.f136.body.getD .skip) = f136 := by kernel_rfl
theorem f137_den : denF ⟨TT, [], [], [], [], Tryz.f137.results.toList, PU, Tryz.f137.ntmps, []⟩ 1 (Tryz.f137.body.getD .skip) = f137 := by kernel_rfl
theorem f138_den : denF ⟨TT, [], [], [(0, []), (1, [.t 0, .t 3])], [(0, [.t 0, .t 3])], Tryz.f138.results.toList, PU, Tryz.f138.ntmps, []⟩ 1 (Tryz.f138.body.getD .skip) = f138 := by kernel_rfl
theorem f139_den : denF ⟨TT, [], [], [(0, [])], [], Tryz.f139.results.toList, PU, Tryz.f139.ntmps, []⟩ 4 (Tryz.f139.body.getD .skip) = f139 := by kernel_rfl
theorem f142_den : denF ⟨TT, [], [], [(0, []), (1, [.t 1, .t 7, .t 8, .t 9])], [(0, [.t 1, .t 7, .t 8, .t 9])], Tryz.f142.results.toList, PU, Tryz.f142.ntmps, []⟩ 2 (Tryz.f142.body.getD .skip) = f142 := by kernel_rfl
theorem f143_den : denF ⟨TT, [1, 2], [], [], [], Tryz.f143.results.toList, PU, Tryz.f143.ntmps, []⟩ 1 (Tryz.f143.body.getD .skip) = f143 := by kernel_rfl
theorem f144_den : denF ⟨TT, [1], [], [], [], Tryz.f144.results.toList, PU, Tryz.f144.ntmps, []⟩ 1 (Tryz.f144.body.getD .skip) = f144 := by kernel_rfl
theorem f145_den : denF ⟨TT, [1], [], [], [], Tryz.f145.results.toList, PU, Tryz.f145.ntmps, []⟩ 1 (Tryz.f145.body.getD .skip) = f145 := by kernel_rfl
theorem f146_den : denF ⟨TT, [3, 8], [], [(0, []), (1, [.t 1, .t 2, .t 51, .t 52, .t 53])], [(0, [.t 1, .t 2, .t 51, .t 52, .t 53])], Tryz.f146.results.toList, PU, Tryz.f146.ntmps, []⟩ 3 (Tryz.f146.body.getD .skip) = f146 := by kernel_rfl
theorem f147_den : denF ⟨TT, [5, 11, 14], [(77, [.b 14 5, .c 14 0, .c 14 1, .c 14 2, .c 14 3, .c 14 4, .t 0, .t 2, .t 3, .t 12, .t 15, .t 63, .t 64, .t 65])], [(0, [.b 5 5, .c 5 4, .t 0, .t 2, .t 3]), (1, [.b 5 5, .c 5 0, .c 5 1, .c 5 2, .c 5 3, .c 5 4, .t 2, .t 3]), (2, [.b 5 5, .c 5 0, .c 5 1, .c 5 2, .c 5 3, .c 5 4, .t 2, .t 3, .t 34, .t 35, .t 36]), (3, [.t 3]), (4, [.t 0, .t 2, .t 3, .t 12, .t 63, .t 64, .t 65])], [(1, [.b 5 5, .c 5 0, .c 5 1, .c 5 2, .c 5 3, .c 5 4, .t 2, .t 3, .t 34, .t 35, .t 36]), (3, [.t 0, .t 2, .t 3, .t 12, .t 63, .t 64, .t 65])], Tryz.f147.results.toList, PU, Tryz.f147.ntmps, []⟩ 4 (Tryz.f147.body.getD .skip) = f147 := by kernel_rfl
theorem f148_den : denF ⟨TT, [1, 4], [], [(0, []), (1, [.b 1 5, .c 1 4, .t 8, .t 9, .t 10])], [(0, [.b 1 5, .c 1 4, .t 8, .t 9, .t 10])], Tryz.f148.results.toList, PU, Tryz.f148.ntmps, []⟩ 1 (Tryz.f148.body.getD .skip) = f148 := by kernel_rfl
theorem f149_den : denF ⟨TT, [4, 9], [(48, [.b 4 5, .b 9 5, .c 4 4, .c 9 0, .c 9 1, .c 9 2, .c 9 3, .c 9 4, .t 0, .t 2, .t 10, .t 24, .t 25, .t 26])], [(0, []), (1, [.b 4 5, .c 4 4, .t 0, .t 2, .t 24, .t 25, .t 26])], [(0, [.b 4 5, .c 4 4, .t 0, .t 2, .t 24, .t 25, .t 26])], Tryz.f149.results.toList, PU, Tryz.f149.ntmps, []⟩ 3 (Tryz.f149.body.getD .skip) = f149 := by kernel_rfl
theorem f150_den : denF ⟨TT, [2, 3], [], [], [], Tryz.f150.results.toList, PU, Tryz.f150.ntmps, []⟩ 2 (Tryz.f150.body.getD .skip) = f150 := by kernel_rfl
theorem f151_den : denF ⟨TT, [], [], [(0, []), (1, [.t 0, .t 1, .t 5])], [(0, [.t 0, .t 1, .t 5])], Tryz.f151.results.toList, PU, Tryz.f151.ntmps, []⟩ 2 (Tryz.f151.body.getD .skip) = f151 := by kernel_rfl
theorem f152_den : denF ⟨TT, [], [], [], [], Tryz.f152.results.toList, PU, Tryz.f152.ntmps, []⟩ 1 (Tryz.f152.body.getD .skip) = f152 := by kernel_rfl
theorem f153_den : denF ⟨TT, [], [], [(0, []), (1, [.t 0, .t 3, .t 4])], [(0, [.t 0, .t 3, .t 4])], Tryz.f153.results.toList, PU, Tryz.f153.ntmps, []⟩ 1 (Tryz.f153.body.getD .skip) = f153 := by kernel_rfl
theorem f154_den : denF ⟨TT, [], [(16, [.t 0, .t 3, .t 4, .t 5]), (27, [.t 3])], [(0, [.t 0, .t 3]), (1, [.t 0, .t 3, .t 4])], [(0, [.t 0, .t 3, .t 4])], Tryz.f154.results.toList, PU, Tryz.f154.ntmps, []⟩ 1 (Tryz.f154.body.getD .skip) = f154 := by kernel_rfl
theorem f155_den : denF ⟨TT, [], [], [(0, [])], [], Tryz.f155.results.toList, PU, Tryz.f155.ntmps, []⟩ 4 (Tryz.f155.body.getD .skip) = f155 := by kernel_rfl
theorem f156_den : denF ⟨TT, [3, 7], [(26, [.b 3 5, .c 3 2, .c 3 3, .t 5, .t 9, .t 10, .t 11])], [(0, [.t 5]), (1, [.b 3 5, .c 3 2, .c 3 3, .t 5, .t 9, .t 10, .t 11])], [(0, [.b 3 5, .c 3 2, .c 3 3, .t 5, .t 9, .t 10, .t 11])], Tryz.f156.results.toList, PU, Tryz.f156.ntmps, []⟩ 2 (Tryz.f156.body.getD .skip) = f156 := by kernel_rfl
theorem f157_den : denF ⟨TT, [], [], [(0, []), (1, [.t 1, .t 7, .t 8, .t 9])], [(0, [.t 1, .t 7, .t 8, .t 9])], Tryz.f157.results.toList, PU, Tryz.f157.ntmps, []⟩ 2 (Tryz.f157.body.getD .skip) = f157 := by kernel_rfl
theorem f158_den : denF ⟨TT, [5], [], [(0, [.t 3]), (1, [.t 3, .t 7, .t 8, .t 9])], [(0, [.t 3, .t 7, .t 8, .t 9])], Tryz.f158.results.toList, PU, Tryz.f158.ntmps, []⟩ 1 (Tryz.f158.body.getD .skip) = f158 := by kernel_rfl
theorem f159_den : denF ⟨TT, [1], [], [], [], Tryz.f159.results.toList, PU, Tryz.f159.ntmps, []⟩ 1 (Tryz.f159.body.getD .skip) = f159 := by kernel_rfl
theorem f160_den : denF ⟨TT, [2], [], [(0, [.t 1]), (1, [.b 2 5, .c 2 4, .t 1, .t 5])], [(0, [.b 2 5, .c 2 4, .t 1, .t 5])], Tryz.f160.results.toList, PU, Tryz.f160.ntmps, []⟩ 2 (Tryz.f160.body.getD .skip) = f160 := by kernel_rfl
theorem f161_den : denF ⟨TT, [1, 5], [], [(0, [.t 3]), (1, [.t 3, .t 7, .t 8, .t 9])], [(0, [.t 3, .t 7, .t 8, .t 9])], Tryz.f161.results.toList, PU, Tryz.f161.ntmps, []⟩ 1 (Tryz.f161.body.getD .skip) = f161 := by kernel_rfl
theorem f162_den : denF ⟨TT, [1, 4], [], [(0, [.b 1 5, .c 1 0, .c 1 1, .c 1 2, .c 1 3, .c 1 4]), (1, [.b 1 5, .c 1 0, .c 1 1, .c 1 2, .c 1 3, .c 1 4, .t 6, .t 7, .t 8])], [(0, [.b 1 5, .c 1 0, .c 1 1, .c 1 2, .c 1 3, .c 1 4, .t 6, .t 7, .t 8])], Tryz.f162.results.toList, PU, Tryz.f162.ntmps, []⟩ 1 (Tryz.f162.body.getD .skip) = f162 := by kernel_rfl
theorem f163_den : denF ⟨TT, [3, 6], [], [(0, []), (1, [.b 3 5, .c 3 0, .c 3 1, .c 3 2, .c 3 3, .c 3 4, .t 7, .t 8, .t 9])], [(0, [.b 3 5, .c 3 0, .c 3 1, .c 3 2, .c 3 3, .c 3 4, .t 7, .t 8, .t 9])], Tryz.f163.results.toList, PU, Tryz.f163.ntmps, []⟩ 2 (Tryz.f163.body.getD .skip) = f163 := by kernel_rfl
theorem f164_den : denF ⟨TT, [3, 6], [], [(0, []), (1, [.b 3 5, .c 3 0, .c 3 1, .c 3 2, .c 3 3, .c 3 4, .t 7, .t 8, .t 9])], [(0, [.b 3 5, .c 3 0, .c 3 1, .c 3 2, .c 3 3, .c 3 4, .t 7, .t 8, .t 9])], Tryz.f164.results.toList, PU, Tryz.f164.ntmps, []⟩ 2 (Tryz.f164.body.getD .skip) = f164 := by kernel_rfl
theorem f165_den : denF ⟨TT, [6], [], [(0, [.t 4]), (1, [.t 4, .t 7, .t 8, .t 9])], [(0, [.t 4, .t 7, .t 8, .t 9])], Tryz.f165.results.toList, PU, Tryz.f165.ntmps, []⟩ 1 (Tryz.f165.body.getD .skip) = f165 := by kernel_rfl
theorem f166_den : denF ⟨TT, [4, 10], [(60, [.b 4 5, .b 10 5, .c 4 4, .c 10 0, .c 10 1, .c 10 2, .c 10 3, .c 10 4, .t 0, .t 2, .t 8, .t 9])], [(0, []), (1, [.b 4 5, .c 4 4, .t 0, .t 2, .t 8])], [(0, [.b 4 5, .c 4 4, .t 0, .t 2, .t 8])], Tryz.f166.results.toList, PU, Tryz.f166.ntmps, []⟩ 3 (Tryz.f166.body.getD .skip) = f166 := by kernel_rfl
theorem f167_den : denF ⟨TT, [], [], [(0, []), (1, [.t 0, .t 1, .t 12, .t 13])], [(0, [.t 0, .t 1, .t 12, .t 13])], Tryz.f167.results.toList, PU, Tryz.f167.ntmps, []⟩ 2 (Tryz.f167.body.getD .skip) = f167 := by kernel_rfl
theorem f169_den : denF ⟨TT, [], [], [], [], Tryz.f169.results.toList, PU, Tryz.f169.ntmps, []⟩ 1 (Tryz.f169.body.getD .skip) = f169 := by kernel_rfl
theorem f170_den : denF ⟨TT, [], [], [], [], Tryz.f170.results.toList, PU, Tryz.f170.ntmps, []⟩ 1 (Tryz.f170.body.getD .skip) = f170 := by kernel_rfl
theorem f171_den : denF ⟨TT, [], [(18, [.t 18])], [(0, [])], [], Tryz.f171.results.toList, PU, Tryz.f171.ntmps, []⟩ 1 (Tryz.f171.body.getD .skip) = f171 := by kernel_rfl
theorem f174_den : denF ⟨TT, [], [], [(0, []), (1, [.t 1, .t 7, .t 8, .t 9])], [(0, [.t 1, .t 7, .t 8, .t 9])], Tryz.f174.results.toList, PU, Tryz.f174.ntmps, []⟩ 2 (Tryz.f174.body.getD .skip) = f174 := by kernel_rfl
theorem f175_den : denF ⟨TT, [], [], [(0, []), (1, [.t 0, .t 5, .t 6, .t 7])], [(0, [.t 0, .t 5, .t 6, .t 7])], Tryz.f175.results.toList, PU, Tryz.f175.ntmps, []⟩ 1 (Tryz.f175.body.getD .skip) = f175 := by kernel_rfl
theorem f176_den : denF ⟨TT, [3, 6], [], [(0, []), (1, [.b 3 5, .c 3 0, .c 3 1, .c 3 2, .c 3 3, .c 3 4, .t 7, .t 8, .t 9])], [(0, [.b 3 5, .c 3 0, .c 3 1, .c 3 2, .c 3 3, .c 3 4, .t 7, .t 8, .t 9])], Tryz.f176.results.toList, PU, Tryz.f176.ntmps, []⟩ 2 (Tryz.f176.body.getD .skip) = f176 := by kernel_rfl
theorem f177_den : denF ⟨TT, [2, 3], [], [], [], Tryz.f177.results.toList, PU, Tryz.f177.ntmps, []⟩ 2 (Tryz.f177.body.getD .skip) = f177 := by kernel_rfl
theorem f178_den : denF ⟨TT, [4], [], [(0, []), (1, [.t 5, .t 6, .t 7])], [(0, [.t 5, .t 6, .t 7])], Tryz.f178.results.toList, PU, Tryz.f178.ntmps, []⟩ 1 (Tryz.f178.body.getD .skip) = f178 := by kernel_rfl
theorem f179_den : denF ⟨TT, [3, 6], [], [(0, []), (1, [.b 3 5, .c 3 0, .c 3 1, .c 3 2, .c 3 3, .c 3 4, .t 14, .t 15, .t 16])], [(0, [.b 3 5, .c 3 0, .c 3 1, .c 3 2, .c 3 3, .c 3 4, .t 14, .t 15, .t 16])], Tryz.f179.results.toList, PU, Tryz.f179.ntmps, []⟩ 2 (Tryz.f179.body.getD .skip) = f179 := by kernel_rfl
theorem f180_den : denF ⟨TT, [3, 8], [(13, [.b 3 5, .c 3 4, .t 0, .t 5])], [(0, [.t 5]), (1, [.t 0, .t 5, .t 20, .t 21, .t 22])], [(0, [.t 0, .t 5, .t 20, .t 21, .t 22])], Tryz.f180.results.toList, PU, Tryz.f180.ntmps, []⟩ 2 (Tryz.f180.body.getD .skip) = f180 := by kernel_rfl
theorem f181_den : denF ⟨TT, [], [], [(0, []), (1, [.t 0, .t 5, .t 6, .t 7])], [(0, [.t 0, .t 5, .t 6, .t 7])], Tryz.f181.results.toList, PU, Tryz.f181.ntmps, []⟩ 1 (Tryz.f181.body.getD .skip) = f181 := by kernel_rfl
theorem f182_den : denF ⟨TT, [2, 3], [], [], [], Tryz.f182.results.toList, PU, Tryz.f182.ntmps, []⟩ 2 (Tryz.f182.body.getD .skip) = f182 := by kernel_rfl
theorem f183_den : denF ⟨TT, [4, 9], [], [(0, []), (1, [.t 0, .t 2, .t 28, .t 29, .t 30])], [(0, [.t 0, .t 2, .t 28, .t 29, .t 30])], Tryz.f183.results.toList, PU, Tryz.f183.ntmps, []⟩ 3 (Tryz.f183.body.getD .skip) = f183 := by kernel_rfl
theorem f187_den : denF ⟨TT, [], [], [(0, [])], [], Tryz.f187.results.toList, PU, Tryz.f187.ntmps, []⟩ 1 (Tryz.f187.body.getD .skip) = f187 := by kernel_rfl
end Go.X1
