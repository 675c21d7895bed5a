/-
  The residual functions are what the code comes to.
-/
import Derived.Test.YtbdmleibanpfnaaGreatDoorLibB
import Derived.Test.YtbdmleibanpfnaaGreatDoorNDa
import Derived.Test.YtbdmleibanpfnaaGreatDoorNDb
import Derived.Test.YtbdmleibanpfnaaGreatDoorNDc
import Derived.Test.YtbdmleibanpfnaaGreatDoorRows
set_option linter.all false
set_option linter.all false
set_option maxRecDepth 100000
namespace Go.X1
open Go.Proofs
def TT : List TI := [⟨.other, 1, false, [(.nd (nat_lit 1) .nl)]⟩,
 ⟨.other, 1, false, [(.ref (nat_lit 9) (nat_lit 0) (nat_lit 0) (nat_lit 0))]⟩,
 ⟨.int .i64, 1, false, [(.int (nat_lit 9223372036854775808))]⟩,
 ⟨.int .i64, 1, false, [(.int (nat_lit 9223372036854775808))]⟩,
 ⟨.bool, 1, false, [(.bool false)]⟩,
 ⟨.int .u8, 1, false, [(.byt (nat_lit 0))]⟩,
 ⟨.int .u8, 1, false, [(.byt (nat_lit 0))]⟩,
 ⟨.struct [(0, 2), (1, 3), (2, 4), (3, 6)], 4, true, [(.int (nat_lit 9223372036854775808)), (.int (nat_lit 9223372036854775808)), (.bool false), (.byt (nat_lit 0))]⟩,
 ⟨.struct [(0, 2), (1, 3), (2, 4), (3, 6)], 4, true, [(.int (nat_lit 9223372036854775808)), (.int (nat_lit 9223372036854775808)), (.bool false), (.byt (nat_lit 0))]⟩,
 ⟨.str, 1, false, [(.str (nat_lit 0) (nat_lit 0))]⟩,
 ⟨.str, 1, false, [(.str (nat_lit 0) (nat_lit 0))]⟩,
 ⟨.str, 1, false, [(.str (nat_lit 0) (nat_lit 0))]⟩,
 ⟨.int .u64, 1, false, [junk]⟩,
 ⟨.struct [(0, 9), (1, 12)], 2, true, [(.str (nat_lit 0) (nat_lit 0)), junk]⟩,
 ⟨.struct [(0, 9), (1, 12)], 2, true, [(.str (nat_lit 0) (nat_lit 0)), junk]⟩,
 ⟨.ptr 441, 1, false, [(.ref (nat_lit 4) (nat_lit 0) (nat_lit 0) (nat_lit 0))]⟩,
 ⟨.ptr 444, 1, false, [(.ref (nat_lit 4) (nat_lit 0) (nat_lit 0) (nat_lit 0))]⟩,
 ⟨.ptr 451, 1, false, [(.ref (nat_lit 4) (nat_lit 0) (nat_lit 0) (nat_lit 0))]⟩,
 ⟨.struct [(0, 17)], 1, true, [(.ref (nat_lit 4) (nat_lit 0) (nat_lit 0) (nat_lit 0))]⟩,
 ⟨.struct [(0, 17)], 1, true, [(.ref (nat_lit 4) (nat_lit 0) (nat_lit 0) (nat_lit 0))]⟩,
 ⟨.iface, 1, false, [(.ref (nat_lit 6) (nat_lit 0) (nat_lit 0) (nat_lit 0))]⟩,
 ⟨.int .i32, 1, false, [junk]⟩,
 ⟨.slice 5, 1, false, [(.ref (nat_lit 3) (nat_lit 0) (nat_lit 0) (nat_lit 0))]⟩,
 ⟨.slice 3, 1, false, [(.ref (nat_lit 3) (nat_lit 0) (nat_lit 0) (nat_lit 0))]⟩,
 ⟨.slice 26, 1, false, [(.ref (nat_lit 3) (nat_lit 0) (nat_lit 0) (nat_lit 0))]⟩,
 ⟨.struct [(0, 3), (1, 3), (2, 9), (3, 24)], 4, true, [(.int (nat_lit 9223372036854775808)), (.int (nat_lit 9223372036854775808)), (.str (nat_lit 0) (nat_lit 0)), (.ref (nat_lit 3) (nat_lit 0) (nat_lit 0) (nat_lit 0))]⟩,
 ⟨.struct [(0, 3), (1, 3), (2, 9), (3, 24)], 4, true, [(.int (nat_lit 9223372036854775808)), (.int (nat_lit 9223372036854775808)), (.str (nat_lit 0) (nat_lit 0)), (.ref (nat_lit 3) (nat_lit 0) (nat_lit 0) (nat_lit 0))]⟩,
 ⟨.slice 29, 1, false, [(.ref (nat_lit 3) (nat_lit 0) (nat_lit 0) (nat_lit 0))]⟩,
 ⟨.struct [(0, 3), (1, 3), (2, 23), (3, 26), (7, 27)], 8, true, [(.int (nat_lit 9223372036854775808)), (.int (nat_lit 9223372036854775808)), (.ref (nat_lit 3) (nat_lit 0) (nat_lit 0) (nat_lit 0)), (.int (nat_lit 9223372036854775808)), (.int (nat_lit 9223372036854775808)), (.str (nat_lit 0) (nat_lit 0)), (.ref (nat_lit 3) (nat_lit 0) (nat_lit 0) (nat_lit 0)), (.ref (nat_lit 3) (nat_lit 0) (nat_lit 0) (nat_lit 0))]⟩,
 ⟨.struct [(0, 3), (1, 3), (2, 23), (3, 26), (7, 27)], 8, true, [(.int (nat_lit 9223372036854775808)), (.int (nat_lit 9223372036854775808)), (.ref (nat_lit 3) (nat_lit 0) (nat_lit 0) (nat_lit 0)), (.int (nat_lit 9223372036854775808)), (.int (nat_lit 9223372036854775808)), (.str (nat_lit 0) (nat_lit 0)), (.ref (nat_lit 3) (nat_lit 0) (nat_lit 0) (nat_lit 0)), (.ref (nat_lit 3) (nat_lit 0) (nat_lit 0) (nat_lit 0))]⟩,
 ⟨.slice 118, 1, false, [(.ref (nat_lit 3) (nat_lit 0) (nat_lit 0) (nat_lit 0))]⟩,
 ⟨.slice 114, 1, false, [(.ref (nat_lit 3) (nat_lit 0) (nat_lit 0) (nat_lit 0))]⟩,
 ⟨.struct [(0, 30), (1, 31), (2, 3), (3, 3), (4, 3)], 5, true, [(.ref (nat_lit 3) (nat_lit 0) (nat_lit 0) (nat_lit 0)), (.ref (nat_lit 3) (nat_lit 0) (nat_lit 0) (nat_lit 0)), (.int (nat_lit 9223372036854775808)), (.int (nat_lit 9223372036854775808)), (.int (nat_lit 9223372036854775808))]⟩,
 ⟨.struct [(0, 30), (1, 31), (2, 3), (3, 3), (4, 3)], 5, true, [(.ref (nat_lit 3) (nat_lit 0) (nat_lit 0) (nat_lit 0)), (.ref (nat_lit 3) (nat_lit 0) (nat_lit 0) (nat_lit 0)), (.int (nat_lit 9223372036854775808)), (.int (nat_lit 9223372036854775808)), (.int (nat_lit 9223372036854775808))]⟩,
 ⟨.other, 1, false, [(.nd (nat_lit 1) (.cn (.nd (nat_lit 0) (.cn (.int (nat_lit 9223372036854775808)) (.cn (.int (nat_lit 9223372036854775808)) (.cn (.ref (nat_lit 3) (nat_lit 0) (nat_lit 0) (nat_lit 0)) (.cn (.int (nat_lit 9223372036854775808)) (.cn (.int (nat_lit 9223372036854775808)) (.cn (.str (nat_lit 0) (nat_lit 0)) (.cn (.ref (nat_lit 3) (nat_lit 0) (nat_lit 0) (nat_lit 0)) (.cn (.ref (nat_lit 3) (nat_lit 0) (nat_lit 0) (nat_lit 0)) .nl))))))))) (.cn (.nd (nat_lit 0) (.cn (.ref (nat_lit 3) (nat_lit 0) (nat_lit 0) (nat_lit 0)) (.cn (.ref (nat_lit 3) (nat_lit 0) (nat_lit 0) (nat_lit 0)) (.cn (.int (nat_lit 9223372036854775808)) (.cn (.int (nat_lit 9223372036854775808)) (.cn (.int (nat_lit 9223372036854775808)) .nl)))))) (.cn (.int (nat_lit 9223372036854775808)) .nl))))]⟩,
 ⟨.other, 1, false, [(.ref (nat_lit 9) (nat_lit 0) (nat_lit 0) (nat_lit 0))]⟩,
 ⟨.other, 1, false, [(.ref (nat_lit 9) (nat_lit 0) (nat_lit 0) (nat_lit 0))]⟩,
 ⟨.slice 39, 1, false, [(.ref (nat_lit 3) (nat_lit 0) (nat_lit 0) (nat_lit 0))]⟩,
 ⟨.struct [(0, 3), (1, 3), (2, 9), (3, 23), (4, 37)], 5, true, [(.int (nat_lit 9223372036854775808)), (.int (nat_lit 9223372036854775808)), (.str (nat_lit 0) (nat_lit 0)), (.ref (nat_lit 3) (nat_lit 0) (nat_lit 0) (nat_lit 0)), (.ref (nat_lit 3) (nat_lit 0) (nat_lit 0) (nat_lit 0))]⟩,
 ⟨.struct [(0, 3), (1, 3), (2, 9), (3, 23), (4, 37)], 5, true, [(.int (nat_lit 9223372036854775808)), (.int (nat_lit 9223372036854775808)), (.str (nat_lit 0) (nat_lit 0)), (.ref (nat_lit 3) (nat_lit 0) (nat_lit 0) (nat_lit 0)), (.ref (nat_lit 3) (nat_lit 0) (nat_lit 0) (nat_lit 0))]⟩,
 ⟨.other, 1, false, [(.ref (nat_lit 9) (nat_lit 0) (nat_lit 0) (nat_lit 0))]⟩,
 ⟨.other, 1, false, [(.ref (nat_lit 9) (nat_lit 0) (nat_lit 0) (nat_lit 0))]⟩,
 ⟨.slice 9, 1, false, [(.ref (nat_lit 3) (nat_lit 0) (nat_lit 0) (nat_lit 0))]⟩,
 ⟨.other, 1, false, [(.ref (nat_lit 9) (nat_lit 0) (nat_lit 0) (nat_lit 0))]⟩,
 ⟨.other, 1, false, [(.ref (nat_lit 9) (nat_lit 0) (nat_lit 0) (nat_lit 0))]⟩,
 ⟨.slice 152, 1, false, [(.ref (nat_lit 3) (nat_lit 0) (nat_lit 0) (nat_lit 0))]⟩,
 ⟨.struct [(0, 45), (1, 3)], 2, true, [(.ref (nat_lit 3) (nat_lit 0) (nat_lit 0) (nat_lit 0)), (.int (nat_lit 9223372036854775808))]⟩,
 ⟨.struct [(0, 45), (1, 3)], 2, true, [(.ref (nat_lit 3) (nat_lit 0) (nat_lit 0) (nat_lit 0)), (.int (nat_lit 9223372036854775808))]⟩,
 ⟨.other, 1, false, [(.nd (nat_lit 1) (.cn (.nd (nat_lit 0) (.cn (.ref (nat_lit 3) (nat_lit 0) (nat_lit 0) (nat_lit 0)) (.cn (.int (nat_lit 9223372036854775808)) .nl))) (.cn (.bool false) .nl)))]⟩,
 ⟨.other, 1, false, [(.ref (nat_lit 9) (nat_lit 0) (nat_lit 0) (nat_lit 0))]⟩,
 ⟨.struct [(0, 3), (1, 9), (2, 42), (3, 3), (4, 3)], 5, true, [(.int (nat_lit 9223372036854775808)), (.str (nat_lit 0) (nat_lit 0)), (.ref (nat_lit 3) (nat_lit 0) (nat_lit 0) (nat_lit 0)), (.int (nat_lit 9223372036854775808)), (.int (nat_lit 9223372036854775808))]⟩,
 ⟨.struct [(0, 3), (1, 9), (2, 42), (3, 3), (4, 3)], 5, true, [(.int (nat_lit 9223372036854775808)), (.str (nat_lit 0) (nat_lit 0)), (.ref (nat_lit 3) (nat_lit 0) (nat_lit 0) (nat_lit 0)), (.int (nat_lit 9223372036854775808)), (.int (nat_lit 9223372036854775808))]⟩,
 ⟨.other, 1, false, [(.ref (nat_lit 9) (nat_lit 0) (nat_lit 0) (nat_lit 0))]⟩,
 ⟨.other, 1, false, [(.ref (nat_lit 9) (nat_lit 0) (nat_lit 0) (nat_lit 0))]⟩,
 ⟨.other, 1, false, [(.ref (nat_lit 9) (nat_lit 0) (nat_lit 0) (nat_lit 0))]⟩,
 ⟨.other, 1, false, [(.ref (nat_lit 9) (nat_lit 0) (nat_lit 0) (nat_lit 0))]⟩,
 ⟨.slice 184, 1, false, [(.ref (nat_lit 3) (nat_lit 0) (nat_lit 0) (nat_lit 0))]⟩,
 ⟨.slice 258, 1, false, [(.ref (nat_lit 3) (nat_lit 0) (nat_lit 0) (nat_lit 0))]⟩,
 ⟨.struct [(0, 33), (5, 56), (6, 57)], 7, true, [(.ref (nat_lit 3) (nat_lit 0) (nat_lit 0) (nat_lit 0)), (.ref (nat_lit 3) (nat_lit 0) (nat_lit 0) (nat_lit 0)), (.int (nat_lit 9223372036854775808)), (.int (nat_lit 9223372036854775808)), (.int (nat_lit 9223372036854775808)), (.ref (nat_lit 3) (nat_lit 0) (nat_lit 0) (nat_lit 0)), (.ref (nat_lit 3) (nat_lit 0) (nat_lit 0) (nat_lit 0))]⟩,
 ⟨.struct [(0, 33), (5, 56), (6, 57)], 7, true, [(.ref (nat_lit 3) (nat_lit 0) (nat_lit 0) (nat_lit 0)), (.ref (nat_lit 3) (nat_lit 0) (nat_lit 0) (nat_lit 0)), (.int (nat_lit 9223372036854775808)), (.int (nat_lit 9223372036854775808)), (.int (nat_lit 9223372036854775808)), (.ref (nat_lit 3) (nat_lit 0) (nat_lit 0) (nat_lit 0)), (.ref (nat_lit 3) (nat_lit 0) (nat_lit 0) (nat_lit 0))]⟩,
 ⟨.other, 1, false, [(.nd (nat_lit 1) (.cn (.nd (nat_lit 0) (.cn (.ref (nat_lit 3) (nat_lit 0) (nat_lit 0) (nat_lit 0)) (.cn (.ref (nat_lit 3) (nat_lit 0) (nat_lit 0) (nat_lit 0)) (.cn (.int (nat_lit 9223372036854775808)) (.cn (.int (nat_lit 9223372036854775808)) (.cn (.int (nat_lit 9223372036854775808)) (.cn (.ref (nat_lit 3) (nat_lit 0) (nat_lit 0) (nat_lit 0)) (.cn (.ref (nat_lit 3) (nat_lit 0) (nat_lit 0) (nat_lit 0)) .nl)))))))) (.cn (.int (nat_lit 9223372036854775808)) .nl)))]⟩,
 ⟨.other, 1, false, [(.ref (nat_lit 9) (nat_lit 0) (nat_lit 0) (nat_lit 0))]⟩,
 ⟨.other, 1, false, [(.ref (nat_lit 9) (nat_lit 0) (nat_lit 0) (nat_lit 0))]⟩,
 ⟨.other, 1, false, [(.ref (nat_lit 9) (nat_lit 0) (nat_lit 0) (nat_lit 0))]⟩,
 ⟨.other, 1, false, [(.ref (nat_lit 9) (nat_lit 0) (nat_lit 0) (nat_lit 0))]⟩,
 ⟨.other, 1, false, [(.ref (nat_lit 9) (nat_lit 0) (nat_lit 0) (nat_lit 0))]⟩,
 ⟨.other, 1, false, [(.ref (nat_lit 9) (nat_lit 0) (nat_lit 0) (nat_lit 0))]⟩,
 ⟨.other, 1, false, [(.ref (nat_lit 9) (nat_lit 0) (nat_lit 0) (nat_lit 0))]⟩,
 ⟨.other, 1, false, [(.ref (nat_lit 9) (nat_lit 0) (nat_lit 0) (nat_lit 0))]⟩,
 ⟨.other, 1, false, [(.ref (nat_lit 9) (nat_lit 0) (nat_lit 0) (nat_lit 0))]⟩,
 ⟨.other, 1, false, [(.ref (nat_lit 9) (nat_lit 0) (nat_lit 0) (nat_lit 0))]⟩,
 ⟨.ptr 73, 1, false, [(.ref (nat_lit 4) (nat_lit 0) (nat_lit 0) (nat_lit 0))]⟩,
 ⟨.struct [(0, 33), (5, 3), (6, 3)], 7, true, [(.ref (nat_lit 3) (nat_lit 0) (nat_lit 0) (nat_lit 0)), (.ref (nat_lit 3) (nat_lit 0) (nat_lit 0) (nat_lit 0)), (.int (nat_lit 9223372036854775808)), (.int (nat_lit 9223372036854775808)), (.int (nat_lit 9223372036854775808)), (.int (nat_lit 9223372036854775808)), (.int (nat_lit 9223372036854775808))]⟩,
 ⟨.struct [(0, 33), (5, 3), (6, 3)], 7, true, [(.ref (nat_lit 3) (nat_lit 0) (nat_lit 0) (nat_lit 0)), (.ref (nat_lit 3) (nat_lit 0) (nat_lit 0) (nat_lit 0)), (.int (nat_lit 9223372036854775808)), (.int (nat_lit 9223372036854775808)), (.int (nat_lit 9223372036854775808)), (.int (nat_lit 9223372036854775808)), (.int (nat_lit 9223372036854775808))]⟩,
 ⟨.other, 1, false, [(.ref (nat_lit 9) (nat_lit 0) (nat_lit 0) (nat_lit 0))]⟩,
 ⟨.other, 1, false, [(.ref (nat_lit 9) (nat_lit 0) (nat_lit 0) (nat_lit 0))]⟩,
 ⟨.other, 1, false, [(.nd (nat_lit 1) (.cn (.ref (nat_lit 3) (nat_lit 0) (nat_lit 0) (nat_lit 0)) (.cn (.bool false) .nl)))]⟩,
 ⟨.other, 1, false, [(.ref (nat_lit 9) (nat_lit 0) (nat_lit 0) (nat_lit 0))]⟩,
 ⟨.other, 1, false, [(.ref (nat_lit 9) (nat_lit 0) (nat_lit 0) (nat_lit 0))]⟩,
 ⟨.other, 1, false, [(.ref (nat_lit 9) (nat_lit 0) (nat_lit 0) (nat_lit 0))]⟩,
 ⟨.other, 1, false, [(.ref (nat_lit 9) (nat_lit 0) (nat_lit 0) (nat_lit 0))]⟩,
 ⟨.other, 1, false, [(.ref (nat_lit 9) (nat_lit 0) (nat_lit 0) (nat_lit 0))]⟩,
 ⟨.other, 1, false, [(.ref (nat_lit 9) (nat_lit 0) (nat_lit 0) (nat_lit 0))]⟩,
 ⟨.map 3 3, 1, false, [(.ref (nat_lit 5) (nat_lit 0) (nat_lit 0) (nat_lit 0))]⟩,
 ⟨.other, 1, false, [(.ref (nat_lit 9) (nat_lit 0) (nat_lit 0) (nat_lit 0))]⟩,
 ⟨.other, 1, false, [(.ref (nat_lit 9) (nat_lit 0) (nat_lit 0) (nat_lit 0))]⟩,
 ⟨.other, 1, false, [(.ref (nat_lit 9) (nat_lit 0) (nat_lit 0) (nat_lit 0))]⟩,
 ⟨.ptr 99, 1, false, [(.ref (nat_lit 4) (nat_lit 0) (nat_lit 0) (nat_lit 0))]⟩,
 ⟨.other, 1, false, [(.nd (nat_lit 1) (.cn (.ref (nat_lit 4) (nat_lit 0) (nat_lit 0) (nat_lit 0)) (.cn (.bool false) .nl)))]⟩,
 ⟨.other, 1, false, [(.ref (nat_lit 9) (nat_lit 0) (nat_lit 0) (nat_lit 0))]⟩,
 ⟨.slice 398, 1, false, [(.ref (nat_lit 3) (nat_lit 0) (nat_lit 0) (nat_lit 0))]⟩,
 ⟨.slice 354, 1, false, [(.ref (nat_lit 3) (nat_lit 0) (nat_lit 0) (nat_lit 0))]⟩,
 ⟨.slice 396, 1, false, [(.ref (nat_lit 3) (nat_lit 0) (nat_lit 0) (nat_lit 0))]⟩,
 ⟨.struct [(0, 3), (1, 51), (6, 90), (7, 91), (8, 92)], 9, true, [(.int (nat_lit 9223372036854775808)), (.int (nat_lit 9223372036854775808)), (.str (nat_lit 0) (nat_lit 0)), (.ref (nat_lit 3) (nat_lit 0) (nat_lit 0) (nat_lit 0)), (.int (nat_lit 9223372036854775808)), (.int (nat_lit 9223372036854775808)), (.ref (nat_lit 3) (nat_lit 0) (nat_lit 0) (nat_lit 0)), (.ref (nat_lit 3) (nat_lit 0) (nat_lit 0) (nat_lit 0)), (.ref (nat_lit 3) (nat_lit 0) (nat_lit 0) (nat_lit 0))]⟩,
 ⟨.struct [(0, 3), (1, 51), (6, 90), (7, 91), (8, 92)], 9, true, [(.int (nat_lit 9223372036854775808)), (.int (nat_lit 9223372036854775808)), (.str (nat_lit 0) (nat_lit 0)), (.ref (nat_lit 3) (nat_lit 0) (nat_lit 0) (nat_lit 0)), (.int (nat_lit 9223372036854775808)), (.int (nat_lit 9223372036854775808)), (.ref (nat_lit 3) (nat_lit 0) (nat_lit 0) (nat_lit 0)), (.ref (nat_lit 3) (nat_lit 0) (nat_lit 0) (nat_lit 0)), (.ref (nat_lit 3) (nat_lit 0) (nat_lit 0) (nat_lit 0))]⟩,
 ⟨.slice 241, 1, false, [(.ref (nat_lit 3) (nat_lit 0) (nat_lit 0) (nat_lit 0))]⟩,
 ⟨.slice 323, 1, false, [(.ref (nat_lit 3) (nat_lit 0) (nat_lit 0) (nat_lit 0))]⟩,
 ⟨.slice 95, 1, false, [(.ref (nat_lit 3) (nat_lit 0) (nat_lit 0) (nat_lit 0))]⟩,
 ⟨.struct [(0, 94), (9, 47), (11, 95), (12, 96), (13, 97), (14, 3), (15, 42), (16, 3)], 17, true, [(.int (nat_lit 9223372036854775808)), (.int (nat_lit 9223372036854775808)), (.str (nat_lit 0) (nat_lit 0)), (.ref (nat_lit 3) (nat_lit 0) (nat_lit 0) (nat_lit 0)), (.int (nat_lit 9223372036854775808)), (.int (nat_lit 9223372036854775808)), (.ref (nat_lit 3) (nat_lit 0) (nat_lit 0) (nat_lit 0)), (.ref (nat_lit 3) (nat_lit 0) (nat_lit 0) (nat_lit 0)), (.ref (nat_lit 3) (nat_lit 0) (nat_lit 0) (nat_lit 0)), (.ref (nat_lit 3) (nat_lit 0) (nat_lit 0) (nat_lit 0)), (.int (nat_lit 9223372036854775808)), (.ref (nat_lit 3) (nat_lit 0) (nat_lit 0) (nat_lit 0)), (.ref (nat_lit 3) (nat_lit 0) (nat_lit 0) (nat_lit 0)), (.ref (nat_lit 3) (nat_lit 0) (nat_lit 0) (nat_lit 0)), (.int (nat_lit 9223372036854775808)), (.ref (nat_lit 3) (nat_lit 0) (nat_lit 0) (nat_lit 0)), (.int (nat_lit 9223372036854775808))]⟩,
 ⟨.struct [(0, 94), (9, 47), (11, 95), (12, 96), (13, 97), (14, 3), (15, 42), (16, 3)], 17, true, [(.int (nat_lit 9223372036854775808)), (.int (nat_lit 9223372036854775808)), (.str (nat_lit 0) (nat_lit 0)), (.ref (nat_lit 3) (nat_lit 0) (nat_lit 0) (nat_lit 0)), (.int (nat_lit 9223372036854775808)), (.int (nat_lit 9223372036854775808)), (.ref (nat_lit 3) (nat_lit 0) (nat_lit 0) (nat_lit 0)), (.ref (nat_lit 3) (nat_lit 0) (nat_lit 0) (nat_lit 0)), (.ref (nat_lit 3) (nat_lit 0) (nat_lit 0) (nat_lit 0)), (.ref (nat_lit 3) (nat_lit 0) (nat_lit 0) (nat_lit 0)), (.int (nat_lit 9223372036854775808)), (.ref (nat_lit 3) (nat_lit 0) (nat_lit 0) (nat_lit 0)), (.ref (nat_lit 3) (nat_lit 0) (nat_lit 0) (nat_lit 0)), (.ref (nat_lit 3) (nat_lit 0) (nat_lit 0) (nat_lit 0)), (.int (nat_lit 9223372036854775808)), (.ref (nat_lit 3) (nat_lit 0) (nat_lit 0) (nat_lit 0)), (.int (nat_lit 9223372036854775808))]⟩,
 ⟨.other, 1, false, [(.ref (nat_lit 9) (nat_lit 0) (nat_lit 0) (nat_lit 0))]⟩,
 ⟨.struct [(0, 9), (1, 42), (2, 42), (3, 24)], 4, true, [(.str (nat_lit 0) (nat_lit 0)), (.ref (nat_lit 3) (nat_lit 0) (nat_lit 0) (nat_lit 0)), (.ref (nat_lit 3) (nat_lit 0) (nat_lit 0) (nat_lit 0)), (.ref (nat_lit 3) (nat_lit 0) (nat_lit 0) (nat_lit 0))]⟩,
 ⟨.struct [(0, 9), (1, 42), (2, 42), (3, 24)], 4, true, [(.str (nat_lit 0) (nat_lit 0)), (.ref (nat_lit 3) (nat_lit 0) (nat_lit 0) (nat_lit 0)), (.ref (nat_lit 3) (nat_lit 0) (nat_lit 0) (nat_lit 0)), (.ref (nat_lit 3) (nat_lit 0) (nat_lit 0) (nat_lit 0))]⟩,
 ⟨.other, 1, false, [(.nd (nat_lit 1) (.cn (.nd (nat_lit 0) (.cn (.str (nat_lit 0) (nat_lit 0)) (.cn (.ref (nat_lit 3) (nat_lit 0) (nat_lit 0) (nat_lit 0)) (.cn (.ref (nat_lit 3) (nat_lit 0) (nat_lit 0) (nat_lit 0)) (.cn (.ref (nat_lit 3) (nat_lit 0) (nat_lit 0) (nat_lit 0)) .nl))))) (.cn (.bool false) .nl)))]⟩,
 ⟨.other, 1, false, [(.ref (nat_lit 9) (nat_lit 0) (nat_lit 0) (nat_lit 0))]⟩,
 ⟨.other, 1, false, [(.ref (nat_lit 9) (nat_lit 0) (nat_lit 0) (nat_lit 0))]⟩,
 ⟨.other, 1, false, [(.nd (nat_lit 1) (.cn (.nd (nat_lit 0) (.cn (.int (nat_lit 9223372036854775808)) (.cn (.int (nat_lit 9223372036854775808)) (.cn (.ref (nat_lit 3) (nat_lit 0) (nat_lit 0) (nat_lit 0)) (.cn (.int (nat_lit 9223372036854775808)) (.cn (.int (nat_lit 9223372036854775808)) (.cn (.str (nat_lit 0) (nat_lit 0)) (.cn (.ref (nat_lit 3) (nat_lit 0) (nat_lit 0) (nat_lit 0)) (.cn (.ref (nat_lit 3) (nat_lit 0) (nat_lit 0) (nat_lit 0)) .nl))))))))) (.cn (.bool false) .nl)))]⟩,
 ⟨.other, 1, false, [(.ref (nat_lit 9) (nat_lit 0) (nat_lit 0) (nat_lit 0))]⟩,
 ⟨.other, 1, false, [(.ref (nat_lit 9) (nat_lit 0) (nat_lit 0) (nat_lit 0))]⟩,
 ⟨.other, 1, false, [(.nd (nat_lit 1) (.cn (.nd (nat_lit 0) (.cn (.int (nat_lit 9223372036854775808)) (.cn (.str (nat_lit 0) (nat_lit 0)) (.cn (.ref (nat_lit 3) (nat_lit 0) (nat_lit 0) (nat_lit 0)) (.cn (.int (nat_lit 9223372036854775808)) (.cn (.int (nat_lit 9223372036854775808)) .nl)))))) (.cn (.int (nat_lit 9223372036854775808)) .nl)))]⟩,
 ⟨.other, 1, false, [(.ref (nat_lit 9) (nat_lit 0) (nat_lit 0) (nat_lit 0))]⟩,
 ⟨.other, 1, false, [(.ref (nat_lit 9) (nat_lit 0) (nat_lit 0) (nat_lit 0))]⟩,
 ⟨.other, 1, false, [(.ref (nat_lit 9) (nat_lit 0) (nat_lit 0) (nat_lit 0))]⟩,
 ⟨.struct [(0, 37), (1, 37), (2, 37)], 3, true, [(.ref (nat_lit 3) (nat_lit 0) (nat_lit 0) (nat_lit 0)), (.ref (nat_lit 3) (nat_lit 0) (nat_lit 0) (nat_lit 0)), (.ref (nat_lit 3) (nat_lit 0) (nat_lit 0) (nat_lit 0))]⟩,
 ⟨.struct [(0, 37), (1, 37), (2, 37)], 3, true, [(.ref (nat_lit 3) (nat_lit 0) (nat_lit 0) (nat_lit 0)), (.ref (nat_lit 3) (nat_lit 0) (nat_lit 0) (nat_lit 0)), (.ref (nat_lit 3) (nat_lit 0) (nat_lit 0) (nat_lit 0))]⟩,
 ⟨.other, 1, false, [(.ref (nat_lit 9) (nat_lit 0) (nat_lit 0) (nat_lit 0))]⟩,
 ⟨.other, 1, false, [(.ref (nat_lit 9) (nat_lit 0) (nat_lit 0) (nat_lit 0))]⟩,
 ⟨.struct [(0, 9), (1, 23), (2, 3), (3, 3)], 4, true, [(.str (nat_lit 0) (nat_lit 0)), (.ref (nat_lit 3) (nat_lit 0) (nat_lit 0) (nat_lit 0)), (.int (nat_lit 9223372036854775808)), (.int (nat_lit 9223372036854775808))]⟩,
 ⟨.struct [(0, 9), (1, 23), (2, 3), (3, 3)], 4, true, [(.str (nat_lit 0) (nat_lit 0)), (.ref (nat_lit 3) (nat_lit 0) (nat_lit 0) (nat_lit 0)), (.int (nat_lit 9223372036854775808)), (.int (nat_lit 9223372036854775808))]⟩,
 ⟨.other, 1, false, [(.ref (nat_lit 9) (nat_lit 0) (nat_lit 0) (nat_lit 0))]⟩,
 ⟨.ptr 3, 1, false, [(.ref (nat_lit 4) (nat_lit 0) (nat_lit 0) (nat_lit 0))]⟩,
 ⟨.other, 1, false, [(.ref (nat_lit 9) (nat_lit 0) (nat_lit 0) (nat_lit 0))]⟩,
 ⟨.other, 1, false, [(.ref (nat_lit 9) (nat_lit 0) (nat_lit 0) (nat_lit 0))]⟩,
 ⟨.other, 1, false, [(.ref (nat_lit 9) (nat_lit 0) (nat_lit 0) (nat_lit 0))]⟩,
 ⟨.other, 1, false, [(.ref (nat_lit 9) (nat_lit 0) (nat_lit 0) (nat_lit 0))]⟩,
 ⟨.other, 1, false, [(.ref (nat_lit 9) (nat_lit 0) (nat_lit 0) (nat_lit 0))]⟩,
 ⟨.other, 1, false, [(.ref (nat_lit 9) (nat_lit 0) (nat_lit 0) (nat_lit 0))]⟩,
 ⟨.other, 1, false, [(.ref (nat_lit 9) (nat_lit 0) (nat_lit 0) (nat_lit 0))]⟩,
 ⟨.other, 1, false, [(.ref (nat_lit 9) (nat_lit 0) (nat_lit 0) (nat_lit 0))]⟩,
 ⟨.other, 1, false, [(.nd (nat_lit 1) (.cn (.nd (nat_lit 0) (.cn (.str (nat_lit 0) (nat_lit 0)) (.cn (.ref (nat_lit 3) (nat_lit 0) (nat_lit 0) (nat_lit 0)) (.cn (.int (nat_lit 9223372036854775808)) (.cn (.int (nat_lit 9223372036854775808)) .nl))))) (.cn (.bool false) .nl)))]⟩,
 ⟨.other, 1, false, [(.ref (nat_lit 9) (nat_lit 0) (nat_lit 0) (nat_lit 0))]⟩,
 ⟨.other, 1, false, [(.ref (nat_lit 9) (nat_lit 0) (nat_lit 0) (nat_lit 0))]⟩,
 ⟨.other, 1, false, [(.ref (nat_lit 9) (nat_lit 0) (nat_lit 0) (nat_lit 0))]⟩,
 ⟨.other, 1, false, [(.ref (nat_lit 9) (nat_lit 0) (nat_lit 0) (nat_lit 0))]⟩,
 ⟨.other, 1, false, [(.ref (nat_lit 9) (nat_lit 0) (nat_lit 0) (nat_lit 0))]⟩,
 ⟨.ptr 137, 1, false, [(.ref (nat_lit 4) (nat_lit 0) (nat_lit 0) (nat_lit 0))]⟩,
 ⟨.struct [(0, 9), (1, 3), (2, 4)], 3, true, [(.str (nat_lit 0) (nat_lit 0)), (.int (nat_lit 9223372036854775808)), (.bool false)]⟩,
 ⟨.struct [(0, 9), (1, 3), (2, 4)], 3, true, [(.str (nat_lit 0) (nat_lit 0)), (.int (nat_lit 9223372036854775808)), (.bool false)]⟩,
 ⟨.other, 1, false, [(.ref (nat_lit 9) (nat_lit 0) (nat_lit 0) (nat_lit 0))]⟩,
 ⟨.other, 1, false, [(.ref (nat_lit 9) (nat_lit 0) (nat_lit 0) (nat_lit 0))]⟩,
 ⟨.other, 1, false, [(.ref (nat_lit 9) (nat_lit 0) (nat_lit 0) (nat_lit 0))]⟩,
 ⟨.other, 1, false, [(.nd (nat_lit 1) (.cn (.nd (nat_lit 0) (.cn (.ref (nat_lit 3) (nat_lit 0) (nat_lit 0) (nat_lit 0)) (.cn (.ref (nat_lit 3) (nat_lit 0) (nat_lit 0) (nat_lit 0)) (.cn (.ref (nat_lit 3) (nat_lit 0) (nat_lit 0) (nat_lit 0)) .nl)))) (.cn (.bool false) .nl)))]⟩,
 ⟨.other, 1, false, [(.ref (nat_lit 9) (nat_lit 0) (nat_lit 0) (nat_lit 0))]⟩,
 ⟨.other, 1, false, [(.ref (nat_lit 9) (nat_lit 0) (nat_lit 0) (nat_lit 0))]⟩,
 ⟨.other, 1, false, [(.ref (nat_lit 9) (nat_lit 0) (nat_lit 0) (nat_lit 0))]⟩,
 ⟨.other, 1, false, [(.ref (nat_lit 9) (nat_lit 0) (nat_lit 0) (nat_lit 0))]⟩,
 ⟨.other, 1, false, [(.ref (nat_lit 9) (nat_lit 0) (nat_lit 0) (nat_lit 0))]⟩,
 ⟨.other, 1, false, [(.ref (nat_lit 9) (nat_lit 0) (nat_lit 0) (nat_lit 0))]⟩,
 ⟨.other, 1, false, [(.ref (nat_lit 9) (nat_lit 0) (nat_lit 0) (nat_lit 0))]⟩,
 ⟨.ptr 47, 1, false, [(.ref (nat_lit 4) (nat_lit 0) (nat_lit 0) (nat_lit 0))]⟩,
 ⟨.slice 166, 1, false, [(.ref (nat_lit 3) (nat_lit 0) (nat_lit 0) (nat_lit 0))]⟩,
 ⟨.struct [(0, 3), (1, 3), (2, 3), (3, 150)], 4, true, [(.int (nat_lit 9223372036854775808)), (.int (nat_lit 9223372036854775808)), (.int (nat_lit 9223372036854775808)), (.ref (nat_lit 3) (nat_lit 0) (nat_lit 0) (nat_lit 0))]⟩,
 ⟨.struct [(0, 3), (1, 3), (2, 3), (3, 150)], 4, true, [(.int (nat_lit 9223372036854775808)), (.int (nat_lit 9223372036854775808)), (.int (nat_lit 9223372036854775808)), (.ref (nat_lit 3) (nat_lit 0) (nat_lit 0) (nat_lit 0))]⟩,
 ⟨.struct [(0, 149), (1, 83), (2, 83), (3, 83), (4, 152)], 8, true, [(.ref (nat_lit 4) (nat_lit 0) (nat_lit 0) (nat_lit 0)), (.ref (nat_lit 5) (nat_lit 0) (nat_lit 0) (nat_lit 0)), (.ref (nat_lit 5) (nat_lit 0) (nat_lit 0) (nat_lit 0)), (.ref (nat_lit 5) (nat_lit 0) (nat_lit 0) (nat_lit 0)), (.int (nat_lit 9223372036854775808)), (.int (nat_lit 9223372036854775808)), (.int (nat_lit 9223372036854775808)), (.ref (nat_lit 3) (nat_lit 0) (nat_lit 0) (nat_lit 0))]⟩,
 ⟨.struct [(0, 149), (1, 83), (2, 83), (3, 83), (4, 152)], 8, true, [(.ref (nat_lit 4) (nat_lit 0) (nat_lit 0) (nat_lit 0)), (.ref (nat_lit 5) (nat_lit 0) (nat_lit 0) (nat_lit 0)), (.ref (nat_lit 5) (nat_lit 0) (nat_lit 0) (nat_lit 0)), (.ref (nat_lit 5) (nat_lit 0) (nat_lit 0) (nat_lit 0)), (.int (nat_lit 9223372036854775808)), (.int (nat_lit 9223372036854775808)), (.int (nat_lit 9223372036854775808)), (.ref (nat_lit 3) (nat_lit 0) (nat_lit 0) (nat_lit 0))]⟩,
 ⟨.other, 1, false, [(.ref (nat_lit 9) (nat_lit 0) (nat_lit 0) (nat_lit 0))]⟩,
 ⟨.other, 1, false, [(.ref (nat_lit 9) (nat_lit 0) (nat_lit 0) (nat_lit 0))]⟩,
 ⟨.other, 1, false, [(.ref (nat_lit 9) (nat_lit 0) (nat_lit 0) (nat_lit 0))]⟩,
 ⟨.slice 23, 1, false, [(.ref (nat_lit 3) (nat_lit 0) (nat_lit 0) (nat_lit 0))]⟩,
 ⟨.struct [(0, 23), (1, 83)], 2, true, [(.ref (nat_lit 3) (nat_lit 0) (nat_lit 0) (nat_lit 0)), (.ref (nat_lit 5) (nat_lit 0) (nat_lit 0) (nat_lit 0))]⟩,
 ⟨.struct [(0, 23), (1, 83)], 2, true, [(.ref (nat_lit 3) (nat_lit 0) (nat_lit 0) (nat_lit 0)), (.ref (nat_lit 5) (nat_lit 0) (nat_lit 0) (nat_lit 0))]⟩,
 ⟨.other, 1, false, [(.ref (nat_lit 9) (nat_lit 0) (nat_lit 0) (nat_lit 0))]⟩,
 ⟨.ptr 160, 1, false, [(.ref (nat_lit 4) (nat_lit 0) (nat_lit 0) (nat_lit 0))]⟩,
 ⟨.other, 1, false, [(.nd (nat_lit 1) (.cn (.ref (nat_lit 3) (nat_lit 0) (nat_lit 0) (nat_lit 0)) (.cn (.bool false) .nl)))]⟩,
 ⟨.other, 1, false, [(.ref (nat_lit 9) (nat_lit 0) (nat_lit 0) (nat_lit 0))]⟩,
 ⟨.struct [(0, 3), (1, 3), (2, 26)], 6, true, [(.int (nat_lit 9223372036854775808)), (.int (nat_lit 9223372036854775808)), (.int (nat_lit 9223372036854775808)), (.int (nat_lit 9223372036854775808)), (.str (nat_lit 0) (nat_lit 0)), (.ref (nat_lit 3) (nat_lit 0) (nat_lit 0) (nat_lit 0))]⟩,
 ⟨.struct [(0, 3), (1, 3), (2, 26)], 6, true, [(.int (nat_lit 9223372036854775808)), (.int (nat_lit 9223372036854775808)), (.int (nat_lit 9223372036854775808)), (.int (nat_lit 9223372036854775808)), (.str (nat_lit 0) (nat_lit 0)), (.ref (nat_lit 3) (nat_lit 0) (nat_lit 0) (nat_lit 0))]⟩,
 ⟨.other, 1, false, [(.ref (nat_lit 9) (nat_lit 0) (nat_lit 0) (nat_lit 0))]⟩,
 ⟨.other, 1, false, [(.ref (nat_lit 9) (nat_lit 0) (nat_lit 0) (nat_lit 0))]⟩,
 ⟨.struct [(0, 9), (1, 3), (2, 3)], 3, true, [(.str (nat_lit 0) (nat_lit 0)), (.int (nat_lit 9223372036854775808)), (.int (nat_lit 9223372036854775808))]⟩,
 ⟨.struct [(0, 9), (1, 3), (2, 3)], 3, true, [(.str (nat_lit 0) (nat_lit 0)), (.int (nat_lit 9223372036854775808)), (.int (nat_lit 9223372036854775808))]⟩,
 ⟨.other, 1, false, [(.nd (nat_lit 1) (.cn (.nd (nat_lit 0) (.cn (.int (nat_lit 9223372036854775808)) (.cn (.int (nat_lit 9223372036854775808)) (.cn (.str (nat_lit 0) (nat_lit 0)) (.cn (.ref (nat_lit 3) (nat_lit 0) (nat_lit 0) (nat_lit 0)) .nl))))) (.cn (.bool false) .nl)))]⟩,
 ⟨.other, 1, false, [(.ref (nat_lit 9) (nat_lit 0) (nat_lit 0) (nat_lit 0))]⟩,
 ⟨.other, 1, false, [(.nd (nat_lit 1) (.cn (.ref (nat_lit 3) (nat_lit 0) (nat_lit 0) (nat_lit 0)) (.cn (.bool false) .nl)))]⟩,
 ⟨.other, 1, false, [(.ref (nat_lit 9) (nat_lit 0) (nat_lit 0) (nat_lit 0))]⟩,
 ⟨.other, 1, false, [(.ref (nat_lit 9) (nat_lit 0) (nat_lit 0) (nat_lit 0))]⟩,
 ⟨.other, 1, false, [(.ref (nat_lit 9) (nat_lit 0) (nat_lit 0) (nat_lit 0))]⟩,
 ⟨.other, 1, false, [(.ref (nat_lit 9) (nat_lit 0) (nat_lit 0) (nat_lit 0))]⟩,
 ⟨.other, 1, false, [(.ref (nat_lit 9) (nat_lit 0) (nat_lit 0) (nat_lit 0))]⟩,
 ⟨.other, 1, false, [(.ref (nat_lit 9) (nat_lit 0) (nat_lit 0) (nat_lit 0))]⟩,
 ⟨.other, 1, false, [(.ref (nat_lit 9) (nat_lit 0) (nat_lit 0) (nat_lit 0))]⟩,
 ⟨.ptr 59, 1, false, [(.ref (nat_lit 4) (nat_lit 0) (nat_lit 0) (nat_lit 0))]⟩,
 ⟨.other, 1, false, [(.ref (nat_lit 9) (nat_lit 0) (nat_lit 0) (nat_lit 0))]⟩,
 ⟨.struct [(0, 9), (1, 23), (2, 29)], 10, true, [(.str (nat_lit 0) (nat_lit 0)), (.ref (nat_lit 3) (nat_lit 0) (nat_lit 0) (nat_lit 0)), (.int (nat_lit 9223372036854775808)), (.int (nat_lit 9223372036854775808)), (.ref (nat_lit 3) (nat_lit 0) (nat_lit 0) (nat_lit 0)), (.int (nat_lit 9223372036854775808)), (.int (nat_lit 9223372036854775808)), (.str (nat_lit 0) (nat_lit 0)), (.ref (nat_lit 3) (nat_lit 0) (nat_lit 0) (nat_lit 0)), (.ref (nat_lit 3) (nat_lit 0) (nat_lit 0) (nat_lit 0))]⟩,
 ⟨.struct [(0, 9), (1, 23), (2, 29)], 10, true, [(.str (nat_lit 0) (nat_lit 0)), (.ref (nat_lit 3) (nat_lit 0) (nat_lit 0) (nat_lit 0)), (.int (nat_lit 9223372036854775808)), (.int (nat_lit 9223372036854775808)), (.ref (nat_lit 3) (nat_lit 0) (nat_lit 0) (nat_lit 0)), (.int (nat_lit 9223372036854775808)), (.int (nat_lit 9223372036854775808)), (.str (nat_lit 0) (nat_lit 0)), (.ref (nat_lit 3) (nat_lit 0) (nat_lit 0) (nat_lit 0)), (.ref (nat_lit 3) (nat_lit 0) (nat_lit 0) (nat_lit 0))]⟩,
 ⟨.other, 1, false, [(.ref (nat_lit 9) (nat_lit 0) (nat_lit 0) (nat_lit 0))]⟩,
 ⟨.other, 1, false, [(.ref (nat_lit 9) (nat_lit 0) (nat_lit 0) (nat_lit 0))]⟩,
 ⟨.other, 1, false, [(.nd (nat_lit 1) (.cn (.nd (nat_lit 0) (.cn (.int (nat_lit 9223372036854775808)) (.cn (.int (nat_lit 9223372036854775808)) (.cn (.ref (nat_lit 3) (nat_lit 0) (nat_lit 0) (nat_lit 0)) (.cn (.int (nat_lit 9223372036854775808)) (.cn (.int (nat_lit 9223372036854775808)) (.cn (.str (nat_lit 0) (nat_lit 0)) (.cn (.ref (nat_lit 3) (nat_lit 0) (nat_lit 0) (nat_lit 0)) (.cn (.ref (nat_lit 3) (nat_lit 0) (nat_lit 0) (nat_lit 0)) .nl))))))))) (.cn (.int (nat_lit 9223372036854775808)) .nl)))]⟩,
 ⟨.other, 1, false, [(.ref (nat_lit 9) (nat_lit 0) (nat_lit 0) (nat_lit 0))]⟩,
 ⟨.other, 1, false, [(.ref (nat_lit 9) (nat_lit 0) (nat_lit 0) (nat_lit 0))]⟩,
 ⟨.ptr 29, 1, false, [(.ref (nat_lit 4) (nat_lit 0) (nat_lit 0) (nat_lit 0))]⟩,
 ⟨.other, 1, false, [(.ref (nat_lit 9) (nat_lit 0) (nat_lit 0) (nat_lit 0))]⟩,
 ⟨.slice 194, 1, false, [(.ref (nat_lit 3) (nat_lit 0) (nat_lit 0) (nat_lit 0))]⟩,
 ⟨.struct [(0, 9), (1, 23), (2, 23), (3, 47)], 5, true, [(.str (nat_lit 0) (nat_lit 0)), (.ref (nat_lit 3) (nat_lit 0) (nat_lit 0) (nat_lit 0)), (.ref (nat_lit 3) (nat_lit 0) (nat_lit 0) (nat_lit 0)), (.ref (nat_lit 3) (nat_lit 0) (nat_lit 0) (nat_lit 0)), (.int (nat_lit 9223372036854775808))]⟩,
 ⟨.struct [(0, 9), (1, 23), (2, 23), (3, 47)], 5, true, [(.str (nat_lit 0) (nat_lit 0)), (.ref (nat_lit 3) (nat_lit 0) (nat_lit 0) (nat_lit 0)), (.ref (nat_lit 3) (nat_lit 0) (nat_lit 0) (nat_lit 0)), (.ref (nat_lit 3) (nat_lit 0) (nat_lit 0) (nat_lit 0)), (.int (nat_lit 9223372036854775808))]⟩,
 ⟨.other, 1, false, [(.nd (nat_lit 1) (.cn (.nd (nat_lit 0) (.cn (.str (nat_lit 0) (nat_lit 0)) (.cn (.ref (nat_lit 3) (nat_lit 0) (nat_lit 0) (nat_lit 0)) (.cn (.ref (nat_lit 3) (nat_lit 0) (nat_lit 0) (nat_lit 0)) (.cn (.ref (nat_lit 3) (nat_lit 0) (nat_lit 0) (nat_lit 0)) (.cn (.int (nat_lit 9223372036854775808)) .nl)))))) (.cn (.bool false) .nl)))]⟩,
 ⟨.other, 1, false, [(.ref (nat_lit 9) (nat_lit 0) (nat_lit 0) (nat_lit 0))]⟩,
 ⟨.other, 1, false, [(.ref (nat_lit 9) (nat_lit 0) (nat_lit 0) (nat_lit 0))]⟩,
 ⟨.other, 1, false, [(.ref (nat_lit 9) (nat_lit 0) (nat_lit 0) (nat_lit 0))]⟩,
 ⟨.other, 1, false, [(.ref (nat_lit 9) (nat_lit 0) (nat_lit 0) (nat_lit 0))]⟩,
 ⟨.other, 1, false, [(.ref (nat_lit 9) (nat_lit 0) (nat_lit 0) (nat_lit 0))]⟩,
 ⟨.slice 289, 1, false, [(.ref (nat_lit 3) (nat_lit 0) (nat_lit 0) (nat_lit 0))]⟩,
 ⟨.other, 1, false, [(.nd (nat_lit 1) (.cn (.ref (nat_lit 3) (nat_lit 0) (nat_lit 0) (nat_lit 0)) (.cn (.bool false) .nl)))]⟩,
 ⟨.other, 1, false, [(.ref (nat_lit 9) (nat_lit 0) (nat_lit 0) (nat_lit 0))]⟩,
 ⟨.other, 1, false, [(.ref (nat_lit 9) (nat_lit 0) (nat_lit 0) (nat_lit 0))]⟩,
 ⟨.other, 1, false, [(.ref (nat_lit 9) (nat_lit 0) (nat_lit 0) (nat_lit 0))]⟩,
 ⟨.slice 37, 1, false, [(.ref (nat_lit 3) (nat_lit 0) (nat_lit 0) (nat_lit 0))]⟩,
 ⟨.other, 1, false, [(.ref (nat_lit 9) (nat_lit 0) (nat_lit 0) (nat_lit 0))]⟩,
 ⟨.other, 1, false, [(.ref (nat_lit 9) (nat_lit 0) (nat_lit 0) (nat_lit 0))]⟩,
 ⟨.other, 1, false, [(.ref (nat_lit 9) (nat_lit 0) (nat_lit 0) (nat_lit 0))]⟩,
 ⟨.other, 1, false, [(.nd (nat_lit 1) (.cn (.nd (nat_lit 0) (.cn (.str (nat_lit 0) (nat_lit 0)) (.cn (.ref (nat_lit 3) (nat_lit 0) (nat_lit 0) (nat_lit 0)) (.cn (.int (nat_lit 9223372036854775808)) (.cn (.int (nat_lit 9223372036854775808)) .nl))))) (.cn (.int (nat_lit 9223372036854775808)) .nl)))]⟩,
 ⟨.other, 1, false, [(.ref (nat_lit 9) (nat_lit 0) (nat_lit 0) (nat_lit 0))]⟩,
 ⟨.other, 1, false, [(.ref (nat_lit 9) (nat_lit 0) (nat_lit 0) (nat_lit 0))]⟩,
 ⟨.other, 1, false, [(.nd (nat_lit 1) (.cn (.nd (nat_lit 0) (.cn (.int (nat_lit 9223372036854775808)) (.cn (.int (nat_lit 9223372036854775808)) (.cn (.str (nat_lit 0) (nat_lit 0)) (.cn (.ref (nat_lit 3) (nat_lit 0) (nat_lit 0) (nat_lit 0)) (.cn (.ref (nat_lit 3) (nat_lit 0) (nat_lit 0) (nat_lit 0)) .nl)))))) (.cn (.bool false) .nl)))]⟩,
 ⟨.other, 1, false, [(.ref (nat_lit 9) (nat_lit 0) (nat_lit 0) (nat_lit 0))]⟩,
 ⟨.other, 1, false, [(.ref (nat_lit 9) (nat_lit 0) (nat_lit 0) (nat_lit 0))]⟩,
 ⟨.other, 1, false, [(.ref (nat_lit 9) (nat_lit 0) (nat_lit 0) (nat_lit 0))]⟩,
 ⟨.other, 1, false, [(.ref (nat_lit 9) (nat_lit 0) (nat_lit 0) (nat_lit 0))]⟩,
 ⟨.other, 1, false, [(.nd (nat_lit 1) (.cn (.ref (nat_lit 3) (nat_lit 0) (nat_lit 0) (nat_lit 0)) (.cn (.ref (nat_lit 3) (nat_lit 0) (nat_lit 0) (nat_lit 0)) .nl)))]⟩,
 ⟨.other, 1, false, [(.ref (nat_lit 9) (nat_lit 0) (nat_lit 0) (nat_lit 0))]⟩,
 ⟨.other, 1, false, [(.ref (nat_lit 9) (nat_lit 0) (nat_lit 0) (nat_lit 0))]⟩,
 ⟨.other, 1, false, [(.ref (nat_lit 9) (nat_lit 0) (nat_lit 0) (nat_lit 0))]⟩,
 ⟨.other, 1, false, [(.ref (nat_lit 9) (nat_lit 0) (nat_lit 0) (nat_lit 0))]⟩,
 ⟨.other, 1, false, [(.ref (nat_lit 9) (nat_lit 0) (nat_lit 0) (nat_lit 0))]⟩,
 ⟨.other, 1, false, [(.ref (nat_lit 9) (nat_lit 0) (nat_lit 0) (nat_lit 0))]⟩,
 ⟨.other, 1, false, [(.ref (nat_lit 9) (nat_lit 0) (nat_lit 0) (nat_lit 0))]⟩,
 ⟨.other, 1, false, [(.ref (nat_lit 9) (nat_lit 0) (nat_lit 0) (nat_lit 0))]⟩,
 ⟨.other, 1, false, [(.ref (nat_lit 9) (nat_lit 0) (nat_lit 0) (nat_lit 0))]⟩,
 ⟨.other, 1, false, [(.ref (nat_lit 9) (nat_lit 0) (nat_lit 0) (nat_lit 0))]⟩,
 ⟨.other, 1, false, [(.ref (nat_lit 9) (nat_lit 0) (nat_lit 0) (nat_lit 0))]⟩,
 ⟨.ptr 154, 1, false, [(.ref (nat_lit 4) (nat_lit 0) (nat_lit 0) (nat_lit 0))]⟩,
 ⟨.other, 1, false, [(.ref (nat_lit 9) (nat_lit 0) (nat_lit 0) (nat_lit 0))]⟩,
 ⟨.other, 1, false, [(.ref (nat_lit 9) (nat_lit 0) (nat_lit 0) (nat_lit 0))]⟩,
 ⟨.other, 1, false, [(.ref (nat_lit 9) (nat_lit 0) (nat_lit 0) (nat_lit 0))]⟩,
 ⟨.other, 1, false, [(.ref (nat_lit 9) (nat_lit 0) (nat_lit 0) (nat_lit 0))]⟩,
 ⟨.other, 1, false, [(.ref (nat_lit 9) (nat_lit 0) (nat_lit 0) (nat_lit 0))]⟩,
 ⟨.other, 1, false, [(.ref (nat_lit 9) (nat_lit 0) (nat_lit 0) (nat_lit 0))]⟩,
 ⟨.other, 1, false, [(.ref (nat_lit 9) (nat_lit 0) (nat_lit 0) (nat_lit 0))]⟩,
 ⟨.other, 1, false, [(.nd (nat_lit 1) (.cn (.int (nat_lit 9223372036854775808)) (.cn (.int (nat_lit 9223372036854775808)) .nl)))]⟩,
 ⟨.other, 1, false, [(.ref (nat_lit 9) (nat_lit 0) (nat_lit 0) (nat_lit 0))]⟩,
 ⟨.slice 316, 1, false, [(.ref (nat_lit 3) (nat_lit 0) (nat_lit 0) (nat_lit 0))]⟩,
 ⟨.ptr 243, 1, false, [(.ref (nat_lit 4) (nat_lit 0) (nat_lit 0) (nat_lit 0))]⟩,
 ⟨.struct [(0, 3), (1, 3), (2, 240), (3, 240), (4, 240), (5, 4)], 6, true, [(.int (nat_lit 9223372036854775808)), (.int (nat_lit 9223372036854775808)), (.ref (nat_lit 3) (nat_lit 0) (nat_lit 0) (nat_lit 0)), (.ref (nat_lit 3) (nat_lit 0) (nat_lit 0) (nat_lit 0)), (.ref (nat_lit 3) (nat_lit 0) (nat_lit 0) (nat_lit 0)), (.bool false)]⟩,
 ⟨.struct [(0, 3), (1, 3), (2, 240), (3, 240), (4, 240), (5, 4)], 6, true, [(.int (nat_lit 9223372036854775808)), (.int (nat_lit 9223372036854775808)), (.ref (nat_lit 3) (nat_lit 0) (nat_lit 0) (nat_lit 0)), (.ref (nat_lit 3) (nat_lit 0) (nat_lit 0) (nat_lit 0)), (.ref (nat_lit 3) (nat_lit 0) (nat_lit 0) (nat_lit 0)), (.bool false)]⟩,
 ⟨.other, 1, false, [(.ref (nat_lit 9) (nat_lit 0) (nat_lit 0) (nat_lit 0))]⟩,
 ⟨.other, 1, false, [(.ref (nat_lit 9) (nat_lit 0) (nat_lit 0) (nat_lit 0))]⟩,
 ⟨.other, 1, false, [(.ref (nat_lit 9) (nat_lit 0) (nat_lit 0) (nat_lit 0))]⟩,
 ⟨.other, 1, false, [(.ref (nat_lit 9) (nat_lit 0) (nat_lit 0) (nat_lit 0))]⟩,
 ⟨.ptr 170, 1, false, [(.ref (nat_lit 4) (nat_lit 0) (nat_lit 0) (nat_lit 0))]⟩,
 ⟨.other, 1, false, [(.ref (nat_lit 9) (nat_lit 0) (nat_lit 0) (nat_lit 0))]⟩,
 ⟨.other, 1, false, [(.ref (nat_lit 9) (nat_lit 0) (nat_lit 0) (nat_lit 0))]⟩,
 ⟨.struct [(0, 33), (5, 3)], 6, true, [(.ref (nat_lit 3) (nat_lit 0) (nat_lit 0) (nat_lit 0)), (.ref (nat_lit 3) (nat_lit 0) (nat_lit 0) (nat_lit 0)), (.int (nat_lit 9223372036854775808)), (.int (nat_lit 9223372036854775808)), (.int (nat_lit 9223372036854775808)), (.int (nat_lit 9223372036854775808))]⟩,
 ⟨.struct [(0, 33), (5, 3)], 6, true, [(.ref (nat_lit 3) (nat_lit 0) (nat_lit 0) (nat_lit 0)), (.ref (nat_lit 3) (nat_lit 0) (nat_lit 0) (nat_lit 0)), (.int (nat_lit 9223372036854775808)), (.int (nat_lit 9223372036854775808)), (.int (nat_lit 9223372036854775808)), (.int (nat_lit 9223372036854775808))]⟩,
 ⟨.other, 1, false, [(.ref (nat_lit 9) (nat_lit 0) (nat_lit 0) (nat_lit 0))]⟩,
 ⟨.map 9 3, 1, false, [(.ref (nat_lit 5) (nat_lit 0) (nat_lit 0) (nat_lit 0))]⟩,
 ⟨.other, 1, false, [(.ref (nat_lit 9) (nat_lit 0) (nat_lit 0) (nat_lit 0))]⟩,
 ⟨.map 259 3, 1, false, [(.ref (nat_lit 5) (nat_lit 0) (nat_lit 0) (nat_lit 0))]⟩,
 ⟨.struct [(0, 9), (1, 9), (2, 3), (3, 3)], 4, true, [(.str (nat_lit 0) (nat_lit 0)), (.str (nat_lit 0) (nat_lit 0)), (.int (nat_lit 9223372036854775808)), (.int (nat_lit 9223372036854775808))]⟩,
 ⟨.struct [(0, 9), (1, 9), (2, 3), (3, 3)], 4, true, [(.str (nat_lit 0) (nat_lit 0)), (.str (nat_lit 0) (nat_lit 0)), (.int (nat_lit 9223372036854775808)), (.int (nat_lit 9223372036854775808))]⟩,
 ⟨.arr 2 9, 2, true, [(.str (nat_lit 0) (nat_lit 0)), (.str (nat_lit 0) (nat_lit 0))]⟩,
 ⟨.other, 1, false, [(.ref (nat_lit 9) (nat_lit 0) (nat_lit 0) (nat_lit 0))]⟩,
 ⟨.other, 1, false, [(.ref (nat_lit 9) (nat_lit 0) (nat_lit 0) (nat_lit 0))]⟩,
 ⟨.other, 1, false, [(.ref (nat_lit 9) (nat_lit 0) (nat_lit 0) (nat_lit 0))]⟩,
 ⟨.ptr 252, 1, false, [(.ref (nat_lit 4) (nat_lit 0) (nat_lit 0) (nat_lit 0))]⟩,
 ⟨.other, 1, false, [(.ref (nat_lit 9) (nat_lit 0) (nat_lit 0) (nat_lit 0))]⟩,
 ⟨.slice 345, 1, false, [(.ref (nat_lit 3) (nat_lit 0) (nat_lit 0) (nat_lit 0))]⟩,
 ⟨.other, 1, false, [(.nd (nat_lit 1) (.cn (.ref (nat_lit 3) (nat_lit 0) (nat_lit 0) (nat_lit 0)) (.cn (.int (nat_lit 9223372036854775808)) .nl)))]⟩,
 ⟨.other, 1, false, [(.ref (nat_lit 9) (nat_lit 0) (nat_lit 0) (nat_lit 0))]⟩,
 ⟨.other, 1, false, [(.nd (nat_lit 1) (.cn (.ref (nat_lit 3) (nat_lit 0) (nat_lit 0) (nat_lit 0)) (.cn (.ref (nat_lit 3) (nat_lit 0) (nat_lit 0) (nat_lit 0)) (.cn (.int (nat_lit 9223372036854775808)) .nl))))]⟩,
 ⟨.other, 1, false, [(.ref (nat_lit 9) (nat_lit 0) (nat_lit 0) (nat_lit 0))]⟩,
 ⟨.other, 1, false, [(.ref (nat_lit 9) (nat_lit 0) (nat_lit 0) (nat_lit 0))]⟩,
 ⟨.ptr 94, 1, false, [(.ref (nat_lit 4) (nat_lit 0) (nat_lit 0) (nat_lit 0))]⟩,
 ⟨.ptr 356, 1, false, [(.ref (nat_lit 4) (nat_lit 0) (nat_lit 0) (nat_lit 0))]⟩,
 ⟨.struct [(0, 3), (1, 3), (2, 9)], 3, true, [(.int (nat_lit 9223372036854775808)), (.int (nat_lit 9223372036854775808)), (.str (nat_lit 0) (nat_lit 0))]⟩,
 ⟨.struct [(0, 3), (1, 3), (2, 9)], 3, true, [(.int (nat_lit 9223372036854775808)), (.int (nat_lit 9223372036854775808)), (.str (nat_lit 0) (nat_lit 0))]⟩,
 ⟨.ptr 359, 1, false, [(.ref (nat_lit 4) (nat_lit 0) (nat_lit 0) (nat_lit 0))]⟩,
 ⟨.struct [(0, 190), (1, 272), (2, 274), (5, 275)], 6, true, [(.ref (nat_lit 4) (nat_lit 0) (nat_lit 0) (nat_lit 0)), (.ref (nat_lit 4) (nat_lit 0) (nat_lit 0) (nat_lit 0)), (.int (nat_lit 9223372036854775808)), (.int (nat_lit 9223372036854775808)), (.str (nat_lit 0) (nat_lit 0)), (.ref (nat_lit 4) (nat_lit 0) (nat_lit 0) (nat_lit 0))]⟩,
 ⟨.struct [(0, 190), (1, 272), (2, 274), (5, 275)], 6, true, [(.ref (nat_lit 4) (nat_lit 0) (nat_lit 0) (nat_lit 0)), (.ref (nat_lit 4) (nat_lit 0) (nat_lit 0) (nat_lit 0)), (.int (nat_lit 9223372036854775808)), (.int (nat_lit 9223372036854775808)), (.str (nat_lit 0) (nat_lit 0)), (.ref (nat_lit 4) (nat_lit 0) (nat_lit 0) (nat_lit 0))]⟩,
 ⟨.other, 1, false, [(.ref (nat_lit 9) (nat_lit 0) (nat_lit 0) (nat_lit 0))]⟩,
 ⟨.ptr 277, 1, false, [(.ref (nat_lit 4) (nat_lit 0) (nat_lit 0) (nat_lit 0))]⟩,
 ⟨.other, 1, false, [(.ref (nat_lit 9) (nat_lit 0) (nat_lit 0) (nat_lit 0))]⟩,
 ⟨.other, 1, false, [(.ref (nat_lit 9) (nat_lit 0) (nat_lit 0) (nat_lit 0))]⟩,
 ⟨.other, 1, false, [(.ref (nat_lit 9) (nat_lit 0) (nat_lit 0) (nat_lit 0))]⟩,
 ⟨.other, 1, false, [(.ref (nat_lit 9) (nat_lit 0) (nat_lit 0) (nat_lit 0))]⟩,
 ⟨.other, 1, false, [(.nd (nat_lit 1) (.cn (.int (nat_lit 9223372036854775808)) (.cn (.bool false) .nl)))]⟩,
 ⟨.other, 1, false, [(.ref (nat_lit 9) (nat_lit 0) (nat_lit 0) (nat_lit 0))]⟩,
 ⟨.other, 1, false, [(.ref (nat_lit 9) (nat_lit 0) (nat_lit 0) (nat_lit 0))]⟩,
 ⟨.other, 1, false, [(.ref (nat_lit 9) (nat_lit 0) (nat_lit 0) (nat_lit 0))]⟩,
 ⟨.struct [(0, 39), (5, 3), (6, 39), (11, 201)], 12, true, [(.int (nat_lit 9223372036854775808)), (.int (nat_lit 9223372036854775808)), (.str (nat_lit 0) (nat_lit 0)), (.ref (nat_lit 3) (nat_lit 0) (nat_lit 0) (nat_lit 0)), (.ref (nat_lit 3) (nat_lit 0) (nat_lit 0) (nat_lit 0)), (.int (nat_lit 9223372036854775808)), (.int (nat_lit 9223372036854775808)), (.int (nat_lit 9223372036854775808)), (.str (nat_lit 0) (nat_lit 0)), (.ref (nat_lit 3) (nat_lit 0) (nat_lit 0) (nat_lit 0)), (.ref (nat_lit 3) (nat_lit 0) (nat_lit 0) (nat_lit 0)), (.ref (nat_lit 3) (nat_lit 0) (nat_lit 0) (nat_lit 0))]⟩,
 ⟨.struct [(0, 39), (5, 3), (6, 39), (11, 201)], 12, true, [(.int (nat_lit 9223372036854775808)), (.int (nat_lit 9223372036854775808)), (.str (nat_lit 0) (nat_lit 0)), (.ref (nat_lit 3) (nat_lit 0) (nat_lit 0) (nat_lit 0)), (.ref (nat_lit 3) (nat_lit 0) (nat_lit 0) (nat_lit 0)), (.int (nat_lit 9223372036854775808)), (.int (nat_lit 9223372036854775808)), (.int (nat_lit 9223372036854775808)), (.str (nat_lit 0) (nat_lit 0)), (.ref (nat_lit 3) (nat_lit 0) (nat_lit 0) (nat_lit 0)), (.ref (nat_lit 3) (nat_lit 0) (nat_lit 0) (nat_lit 0)), (.ref (nat_lit 3) (nat_lit 0) (nat_lit 0) (nat_lit 0))]⟩,
 ⟨.other, 1, false, [(.ref (nat_lit 9) (nat_lit 0) (nat_lit 0) (nat_lit 0))]⟩,
 ⟨.other, 1, false, [(.ref (nat_lit 9) (nat_lit 0) (nat_lit 0) (nat_lit 0))]⟩,
 ⟨.other, 1, false, [(.ref (nat_lit 9) (nat_lit 0) (nat_lit 0) (nat_lit 0))]⟩,
 ⟨.other, 1, false, [(.ref (nat_lit 9) (nat_lit 0) (nat_lit 0) (nat_lit 0))]⟩,
 ⟨.other, 1, false, [(.ref (nat_lit 9) (nat_lit 0) (nat_lit 0) (nat_lit 0))]⟩,
 ⟨.other, 1, false, [(.ref (nat_lit 9) (nat_lit 0) (nat_lit 0) (nat_lit 0))]⟩,
 ⟨.slice 300, 1, false, [(.ref (nat_lit 3) (nat_lit 0) (nat_lit 0) (nat_lit 0))]⟩,
 ⟨.other, 1, false, [(.ref (nat_lit 9) (nat_lit 0) (nat_lit 0) (nat_lit 0))]⟩,
 ⟨.other, 1, false, [(.ref (nat_lit 9) (nat_lit 0) (nat_lit 0) (nat_lit 0))]⟩,
 ⟨.struct [(0, 3), (1, 4), (2, 37), (3, 37)], 4, true, [(.int (nat_lit 9223372036854775808)), (.bool false), (.ref (nat_lit 3) (nat_lit 0) (nat_lit 0) (nat_lit 0)), (.ref (nat_lit 3) (nat_lit 0) (nat_lit 0) (nat_lit 0))]⟩,
 ⟨.struct [(0, 3), (1, 4), (2, 37), (3, 37)], 4, true, [(.int (nat_lit 9223372036854775808)), (.bool false), (.ref (nat_lit 3) (nat_lit 0) (nat_lit 0) (nat_lit 0)), (.ref (nat_lit 3) (nat_lit 0) (nat_lit 0) (nat_lit 0))]⟩,
 ⟨.other, 1, false, [(.nd (nat_lit 1) (.cn (.ref (nat_lit 3) (nat_lit 0) (nat_lit 0) (nat_lit 0)) (.cn (.ref (nat_lit 3) (nat_lit 0) (nat_lit 0) (nat_lit 0)) .nl)))]⟩,
 ⟨.other, 1, false, [(.ref (nat_lit 9) (nat_lit 0) (nat_lit 0) (nat_lit 0))]⟩,
 ⟨.other, 1, false, [(.ref (nat_lit 9) (nat_lit 0) (nat_lit 0) (nat_lit 0))]⟩,
 ⟨.other, 1, false, [(.ref (nat_lit 9) (nat_lit 0) (nat_lit 0) (nat_lit 0))]⟩,
 ⟨.other, 1, false, [(.ref (nat_lit 9) (nat_lit 0) (nat_lit 0) (nat_lit 0))]⟩,
 ⟨.other, 1, false, [(.nd (nat_lit 1) (.cn (.ref (nat_lit 3) (nat_lit 0) (nat_lit 0) (nat_lit 0)) (.cn (.bool false) .nl)))]⟩,
 ⟨.other, 1, false, [(.ref (nat_lit 9) (nat_lit 0) (nat_lit 0) (nat_lit 0))]⟩,
 ⟨.other, 1, false, [(.ref (nat_lit 9) (nat_lit 0) (nat_lit 0) (nat_lit 0))]⟩,
 ⟨.other, 1, false, [(.ref (nat_lit 9) (nat_lit 0) (nat_lit 0) (nat_lit 0))]⟩,
 ⟨.other, 1, false, [(.ref (nat_lit 9) (nat_lit 0) (nat_lit 0) (nat_lit 0))]⟩,
 ⟨.other, 1, false, [(.nd (nat_lit 1) (.cn (.nd (nat_lit 0) (.cn (.int (nat_lit 9223372036854775808)) (.cn (.int (nat_lit 9223372036854775808)) (.cn (.str (nat_lit 0) (nat_lit 0)) .nl)))) (.cn (.bool false) .nl)))]⟩,
 ⟨.other, 1, false, [(.ref (nat_lit 9) (nat_lit 0) (nat_lit 0) (nat_lit 0))]⟩,
 ⟨.other, 1, false, [(.ref (nat_lit 9) (nat_lit 0) (nat_lit 0) (nat_lit 0))]⟩,
 ⟨.ptr 319, 1, false, [(.ref (nat_lit 4) (nat_lit 0) (nat_lit 0) (nat_lit 0))]⟩,
 ⟨.struct [(0, 274), (3, 314)], 4, true, [(.int (nat_lit 9223372036854775808)), (.int (nat_lit 9223372036854775808)), (.str (nat_lit 0) (nat_lit 0)), (.ref (nat_lit 4) (nat_lit 0) (nat_lit 0) (nat_lit 0))]⟩,
 ⟨.struct [(0, 274), (3, 314)], 4, true, [(.int (nat_lit 9223372036854775808)), (.int (nat_lit 9223372036854775808)), (.str (nat_lit 0) (nat_lit 0)), (.ref (nat_lit 4) (nat_lit 0) (nat_lit 0) (nat_lit 0))]⟩,
 ⟨.other, 1, false, [(.ref (nat_lit 9) (nat_lit 0) (nat_lit 0) (nat_lit 0))]⟩,
 ⟨.struct [(0, 274), (3, 4)], 4, true, [(.int (nat_lit 9223372036854775808)), (.int (nat_lit 9223372036854775808)), (.str (nat_lit 0) (nat_lit 0)), (.bool false)]⟩,
 ⟨.struct [(0, 274), (3, 4)], 4, true, [(.int (nat_lit 9223372036854775808)), (.int (nat_lit 9223372036854775808)), (.str (nat_lit 0) (nat_lit 0)), (.bool false)]⟩,
 ⟨.other, 1, false, [(.ref (nat_lit 9) (nat_lit 0) (nat_lit 0) (nat_lit 0))]⟩,
 ⟨.other, 1, false, [(.ref (nat_lit 9) (nat_lit 0) (nat_lit 0) (nat_lit 0))]⟩,
 ⟨.struct [(0, 3), (1, 240)], 2, true, [(.int (nat_lit 9223372036854775808)), (.ref (nat_lit 3) (nat_lit 0) (nat_lit 0) (nat_lit 0))]⟩,
 ⟨.struct [(0, 3), (1, 240)], 2, true, [(.int (nat_lit 9223372036854775808)), (.ref (nat_lit 3) (nat_lit 0) (nat_lit 0) (nat_lit 0))]⟩,
 ⟨.other, 1, false, [(.ref (nat_lit 9) (nat_lit 0) (nat_lit 0) (nat_lit 0))]⟩,
 ⟨.other, 1, false, [(.ref (nat_lit 9) (nat_lit 0) (nat_lit 0) (nat_lit 0))]⟩,
 ⟨.other, 1, false, [(.ref (nat_lit 9) (nat_lit 0) (nat_lit 0) (nat_lit 0))]⟩,
 ⟨.other, 1, false, [(.ref (nat_lit 9) (nat_lit 0) (nat_lit 0) (nat_lit 0))]⟩,
 ⟨.arr 24 5, 24, true, [(.byt (nat_lit 0)), (.byt (nat_lit 0)), (.byt (nat_lit 0)), (.byt (nat_lit 0)), (.byt (nat_lit 0)), (.byt (nat_lit 0)), (.byt (nat_lit 0)), (.byt (nat_lit 0)), (.byt (nat_lit 0)), (.byt (nat_lit 0)), (.byt (nat_lit 0)), (.byt (nat_lit 0)), (.byt (nat_lit 0)), (.byt (nat_lit 0)), (.byt (nat_lit 0)), (.byt (nat_lit 0)), (.byt (nat_lit 0)), (.byt (nat_lit 0)), (.byt (nat_lit 0)), (.byt (nat_lit 0)), (.byt (nat_lit 0)), (.byt (nat_lit 0)), (.byt (nat_lit 0)), (.byt (nat_lit 0))]⟩,
 ⟨.int .u64, 1, false, [junk]⟩,
 ⟨.other, 1, false, [(.ref (nat_lit 9) (nat_lit 0) (nat_lit 0) (nat_lit 0))]⟩,
 ⟨.other, 1, false, [(.ref (nat_lit 9) (nat_lit 0) (nat_lit 0) (nat_lit 0))]⟩,
 ⟨.other, 1, false, [(.nd (nat_lit 1) (.cn (.ref (nat_lit 3) (nat_lit 0) (nat_lit 0) (nat_lit 0)) (.cn (.str (nat_lit 0) (nat_lit 0)) .nl)))]⟩,
 ⟨.other, 1, false, [(.ref (nat_lit 9) (nat_lit 0) (nat_lit 0) (nat_lit 0))]⟩,
 ⟨.other, 1, false, [(.ref (nat_lit 9) (nat_lit 0) (nat_lit 0) (nat_lit 0))]⟩,
 ⟨.other, 1, false, [(.ref (nat_lit 9) (nat_lit 0) (nat_lit 0) (nat_lit 0))]⟩,
 ⟨.other, 1, false, [(.ref (nat_lit 9) (nat_lit 0) (nat_lit 0) (nat_lit 0))]⟩,
 ⟨.other, 1, false, [(.ref (nat_lit 9) (nat_lit 0) (nat_lit 0) (nat_lit 0))]⟩,
 ⟨.other, 1, false, [(.ref (nat_lit 9) (nat_lit 0) (nat_lit 0) (nat_lit 0))]⟩,
 ⟨.other, 1, false, [(.ref (nat_lit 9) (nat_lit 0) (nat_lit 0) (nat_lit 0))]⟩,
 ⟨.other, 1, false, [(.ref (nat_lit 9) (nat_lit 0) (nat_lit 0) (nat_lit 0))]⟩,
 ⟨.other, 1, false, [(.ref (nat_lit 9) (nat_lit 0) (nat_lit 0) (nat_lit 0))]⟩,
 ⟨.other, 1, false, [(.nd (nat_lit 1) (.cn (.nd (nat_lit 0) (.cn (.int (nat_lit 9223372036854775808)) (.cn (.int (nat_lit 9223372036854775808)) (.cn (.str (nat_lit 0) (nat_lit 0)) (.cn (.ref (nat_lit 3) (nat_lit 0) (nat_lit 0) (nat_lit 0)) (.cn (.ref (nat_lit 3) (nat_lit 0) (nat_lit 0) (nat_lit 0)) .nl)))))) (.cn (.int (nat_lit 9223372036854775808)) .nl)))]⟩,
 ⟨.other, 1, false, [(.ref (nat_lit 9) (nat_lit 0) (nat_lit 0) (nat_lit 0))]⟩,
 ⟨.struct [(0, 4), (1, 3), (2, 39), (7, 37), (8, 37)], 9, true, [(.bool false), (.int (nat_lit 9223372036854775808)), (.int (nat_lit 9223372036854775808)), (.int (nat_lit 9223372036854775808)), (.str (nat_lit 0) (nat_lit 0)), (.ref (nat_lit 3) (nat_lit 0) (nat_lit 0) (nat_lit 0)), (.ref (nat_lit 3) (nat_lit 0) (nat_lit 0) (nat_lit 0)), (.ref (nat_lit 3) (nat_lit 0) (nat_lit 0) (nat_lit 0)), (.ref (nat_lit 3) (nat_lit 0) (nat_lit 0) (nat_lit 0))]⟩,
 ⟨.struct [(0, 4), (1, 3), (2, 39), (7, 37), (8, 37)], 9, true, [(.bool false), (.int (nat_lit 9223372036854775808)), (.int (nat_lit 9223372036854775808)), (.int (nat_lit 9223372036854775808)), (.str (nat_lit 0) (nat_lit 0)), (.ref (nat_lit 3) (nat_lit 0) (nat_lit 0) (nat_lit 0)), (.ref (nat_lit 3) (nat_lit 0) (nat_lit 0) (nat_lit 0)), (.ref (nat_lit 3) (nat_lit 0) (nat_lit 0) (nat_lit 0)), (.ref (nat_lit 3) (nat_lit 0) (nat_lit 0) (nat_lit 0))]⟩,
 ⟨.other, 1, false, [(.nd (nat_lit 1) (.cn (.nd (nat_lit 0) (.cn (.bool false) (.cn (.int (nat_lit 9223372036854775808)) (.cn (.int (nat_lit 9223372036854775808)) (.cn (.int (nat_lit 9223372036854775808)) (.cn (.str (nat_lit 0) (nat_lit 0)) (.cn (.ref (nat_lit 3) (nat_lit 0) (nat_lit 0) (nat_lit 0)) (.cn (.ref (nat_lit 3) (nat_lit 0) (nat_lit 0) (nat_lit 0)) (.cn (.ref (nat_lit 3) (nat_lit 0) (nat_lit 0) (nat_lit 0)) (.cn (.ref (nat_lit 3) (nat_lit 0) (nat_lit 0) (nat_lit 0)) .nl)))))))))) (.cn (.int (nat_lit 9223372036854775808)) .nl)))]⟩,
 ⟨.other, 1, false, [(.ref (nat_lit 9) (nat_lit 0) (nat_lit 0) (nat_lit 0))]⟩,
 ⟨.other, 1, false, [(.ref (nat_lit 9) (nat_lit 0) (nat_lit 0) (nat_lit 0))]⟩,
 ⟨.other, 1, false, [(.ref (nat_lit 9) (nat_lit 0) (nat_lit 0) (nat_lit 0))]⟩,
 ⟨.other, 1, false, [(.ref (nat_lit 9) (nat_lit 0) (nat_lit 0) (nat_lit 0))]⟩,
 ⟨.other, 1, false, [(.ref (nat_lit 9) (nat_lit 0) (nat_lit 0) (nat_lit 0))]⟩,
 ⟨.other, 1, false, [(.ref (nat_lit 9) (nat_lit 0) (nat_lit 0) (nat_lit 0))]⟩,
 ⟨.struct [(0, 190), (1, 272)], 2, true, [(.ref (nat_lit 4) (nat_lit 0) (nat_lit 0) (nat_lit 0)), (.ref (nat_lit 4) (nat_lit 0) (nat_lit 0) (nat_lit 0))]⟩,
 ⟨.struct [(0, 190), (1, 272)], 2, true, [(.ref (nat_lit 4) (nat_lit 0) (nat_lit 0) (nat_lit 0)), (.ref (nat_lit 4) (nat_lit 0) (nat_lit 0) (nat_lit 0))]⟩,
 ⟨.struct [(0, 3), (1, 314), (2, 272)], 3, true, [(.int (nat_lit 9223372036854775808)), (.ref (nat_lit 4) (nat_lit 0) (nat_lit 0) (nat_lit 0)), (.ref (nat_lit 4) (nat_lit 0) (nat_lit 0) (nat_lit 0))]⟩,
 ⟨.struct [(0, 3), (1, 314), (2, 272)], 3, true, [(.int (nat_lit 9223372036854775808)), (.ref (nat_lit 4) (nat_lit 0) (nat_lit 0) (nat_lit 0)), (.ref (nat_lit 4) (nat_lit 0) (nat_lit 0) (nat_lit 0))]⟩,
 ⟨.slice 274, 1, false, [(.ref (nat_lit 3) (nat_lit 0) (nat_lit 0) (nat_lit 0))]⟩,
 ⟨.struct [(0, 190), (1, 3), (2, 357), (3, 272), (4, 4), (5, 275)], 6, true, [(.ref (nat_lit 4) (nat_lit 0) (nat_lit 0) (nat_lit 0)), (.int (nat_lit 9223372036854775808)), (.ref (nat_lit 3) (nat_lit 0) (nat_lit 0) (nat_lit 0)), (.ref (nat_lit 4) (nat_lit 0) (nat_lit 0) (nat_lit 0)), (.bool false), (.ref (nat_lit 4) (nat_lit 0) (nat_lit 0) (nat_lit 0))]⟩,
 ⟨.struct [(0, 190), (1, 3), (2, 357), (3, 272), (4, 4), (5, 275)], 6, true, [(.ref (nat_lit 4) (nat_lit 0) (nat_lit 0) (nat_lit 0)), (.int (nat_lit 9223372036854775808)), (.ref (nat_lit 3) (nat_lit 0) (nat_lit 0) (nat_lit 0)), (.ref (nat_lit 4) (nat_lit 0) (nat_lit 0) (nat_lit 0)), (.bool false), (.ref (nat_lit 4) (nat_lit 0) (nat_lit 0) (nat_lit 0))]⟩,
 ⟨.other, 1, false, [(.ref (nat_lit 9) (nat_lit 0) (nat_lit 0) (nat_lit 0))]⟩,
 ⟨.other, 1, false, [(.ref (nat_lit 9) (nat_lit 0) (nat_lit 0) (nat_lit 0))]⟩,
 ⟨.other, 1, false, [(.ref (nat_lit 9) (nat_lit 0) (nat_lit 0) (nat_lit 0))]⟩,
 ⟨.other, 1, false, [(.ref (nat_lit 9) (nat_lit 0) (nat_lit 0) (nat_lit 0))]⟩,
 ⟨.other, 1, false, [(.ref (nat_lit 9) (nat_lit 0) (nat_lit 0) (nat_lit 0))]⟩,
 ⟨.other, 1, false, [(.ref (nat_lit 9) (nat_lit 0) (nat_lit 0) (nat_lit 0))]⟩,
 ⟨.other, 1, false, [(.ref (nat_lit 9) (nat_lit 0) (nat_lit 0) (nat_lit 0))]⟩,
 ⟨.arr 20 9, 20, true, [(.str (nat_lit 0) (nat_lit 0)), (.str (nat_lit 0) (nat_lit 0)), (.str (nat_lit 0) (nat_lit 0)), (.str (nat_lit 0) (nat_lit 0)), (.str (nat_lit 0) (nat_lit 0)), (.str (nat_lit 0) (nat_lit 0)), (.str (nat_lit 0) (nat_lit 0)), (.str (nat_lit 0) (nat_lit 0)), (.str (nat_lit 0) (nat_lit 0)), (.str (nat_lit 0) (nat_lit 0)), (.str (nat_lit 0) (nat_lit 0)), (.str (nat_lit 0) (nat_lit 0)), (.str (nat_lit 0) (nat_lit 0)), (.str (nat_lit 0) (nat_lit 0)), (.str (nat_lit 0) (nat_lit 0)), (.str (nat_lit 0) (nat_lit 0)), (.str (nat_lit 0) (nat_lit 0)), (.str (nat_lit 0) (nat_lit 0)), (.str (nat_lit 0) (nat_lit 0)), (.str (nat_lit 0) (nat_lit 0))]⟩,
 ⟨.other, 1, false, [(.ref (nat_lit 9) (nat_lit 0) (nat_lit 0) (nat_lit 0))]⟩,
 ⟨.other, 1, false, [(.nd (nat_lit 1) (.cn (.nd (nat_lit 0) (.cn (.int (nat_lit 9223372036854775808)) (.cn (.int (nat_lit 9223372036854775808)) (.cn (.str (nat_lit 0) (nat_lit 0)) .nl)))) (.cn (.ref (nat_lit 3) (nat_lit 0) (nat_lit 0) (nat_lit 0)) .nl)))]⟩,
 ⟨.other, 1, false, [(.ref (nat_lit 9) (nat_lit 0) (nat_lit 0) (nat_lit 0))]⟩,
 ⟨.other, 1, false, [(.ref (nat_lit 9) (nat_lit 0) (nat_lit 0) (nat_lit 0))]⟩,
 ⟨.other, 1, false, [(.ref (nat_lit 9) (nat_lit 0) (nat_lit 0) (nat_lit 0))]⟩,
 ⟨.arr 20 329, 20, true, [junk, junk, junk, junk, junk, junk, junk, junk, junk, junk, junk, junk, junk, junk, junk, junk, junk, junk, junk, junk]⟩,
 ⟨.int .u32, 1, false, [junk]⟩,
 ⟨.arr 65 5, 65, true, [(.byt (nat_lit 0)), (.byt (nat_lit 0)), (.byt (nat_lit 0)), (.byt (nat_lit 0)), (.byt (nat_lit 0)), (.byt (nat_lit 0)), (.byt (nat_lit 0)), (.byt (nat_lit 0)), (.byt (nat_lit 0)), (.byt (nat_lit 0)), (.byt (nat_lit 0)), (.byt (nat_lit 0)), (.byt (nat_lit 0)), (.byt (nat_lit 0)), (.byt (nat_lit 0)), (.byt (nat_lit 0)), (.byt (nat_lit 0)), (.byt (nat_lit 0)), (.byt (nat_lit 0)), (.byt (nat_lit 0)), (.byt (nat_lit 0)), (.byt (nat_lit 0)), (.byt (nat_lit 0)), (.byt (nat_lit 0)), (.byt (nat_lit 0)), (.byt (nat_lit 0)), (.byt (nat_lit 0)), (.byt (nat_lit 0)), (.byt (nat_lit 0)), (.byt (nat_lit 0)), (.byt (nat_lit 0)), (.byt (nat_lit 0)), (.byt (nat_lit 0)), (.byt (nat_lit 0)), (.byt (nat_lit 0)), (.byt (nat_lit 0)), (.byt (nat_lit 0)), (.byt (nat_lit 0)), (.byt (nat_lit 0)), (.byt (nat_lit 0)), (.byt (nat_lit 0)), (.byt (nat_lit 0)), (.byt (nat_lit 0)), (.byt (nat_lit 0)), (.byt (nat_lit 0)), (.byt (nat_lit 0)), (.byt (nat_lit 0)), (.byt (nat_lit 0)), (.byt (nat_lit 0)), (.byt (nat_lit 0)), (.byt (nat_lit 0)), (.byt (nat_lit 0)), (.byt (nat_lit 0)), (.byt (nat_lit 0)), (.byt (nat_lit 0)), (.byt (nat_lit 0)), (.byt (nat_lit 0)), (.byt (nat_lit 0)), (.byt (nat_lit 0)), (.byt (nat_lit 0)), (.byt (nat_lit 0)), (.byt (nat_lit 0)), (.byt (nat_lit 0)), (.byt (nat_lit 0)), (.byt (nat_lit 0))]⟩,
 ⟨.int .u64, 1, false, [junk]⟩,
 ⟨.other, 1, false, [(.ref (nat_lit 9) (nat_lit 0) (nat_lit 0) (nat_lit 0))]⟩,
 ⟨.iface, 1, false, [(.ref (nat_lit 6) (nat_lit 0) (nat_lit 0) (nat_lit 0))]⟩,
 ⟨.iface, 1, false, [(.ref (nat_lit 6) (nat_lit 0) (nat_lit 0) (nat_lit 0))]⟩,
 ⟨.other, 1, false, [(.nd (nat_lit 1) (.cn (.int (nat_lit 9223372036854775808)) (.cn (.ref (nat_lit 6) (nat_lit 0) (nat_lit 0) (nat_lit 0)) .nl)))]⟩,
 ⟨.other, 1, false, [(.ref (nat_lit 9) (nat_lit 0) (nat_lit 0) (nat_lit 0))]⟩,
 ⟨.ptr 384, 1, false, [(.ref (nat_lit 4) (nat_lit 0) (nat_lit 0) (nat_lit 0))]⟩,
 ⟨.struct [(0, 382), (1, 22)], 2, true, [(.ref (nat_lit 4) (nat_lit 0) (nat_lit 0) (nat_lit 0)), (.ref (nat_lit 3) (nat_lit 0) (nat_lit 0) (nat_lit 0))]⟩,
 ⟨.struct [(0, 382), (1, 22)], 2, true, [(.ref (nat_lit 4) (nat_lit 0) (nat_lit 0) (nat_lit 0)), (.ref (nat_lit 3) (nat_lit 0) (nat_lit 0) (nat_lit 0))]⟩,
 ⟨.other, 1, false, [(.ref (nat_lit 9) (nat_lit 0) (nat_lit 0) (nat_lit 0))]⟩,
 ⟨.map 9 23, 1, false, [(.ref (nat_lit 5) (nat_lit 0) (nat_lit 0) (nat_lit 0))]⟩,
 ⟨.other, 1, false, [(.ref (nat_lit 9) (nat_lit 0) (nat_lit 0) (nat_lit 0))]⟩,
 ⟨.other, 1, false, [(.ref (nat_lit 9) (nat_lit 0) (nat_lit 0) (nat_lit 0))]⟩,
 ⟨.other, 1, false, [(.nd (nat_lit 1) (.cn (.ref (nat_lit 3) (nat_lit 0) (nat_lit 0) (nat_lit 0)) (.cn (.ref (nat_lit 3) (nat_lit 0) (nat_lit 0) (nat_lit 0)) (.cn (.int (nat_lit 9223372036854775808)) .nl))))]⟩,
 ⟨.other, 1, false, [(.ref (nat_lit 9) (nat_lit 0) (nat_lit 0) (nat_lit 0))]⟩,
 ⟨.other, 1, false, [(.ref (nat_lit 9) (nat_lit 0) (nat_lit 0) (nat_lit 0))]⟩,
 ⟨.other, 1, false, [(.ref (nat_lit 9) (nat_lit 0) (nat_lit 0) (nat_lit 0))]⟩,
 ⟨.other, 1, false, [(.ref (nat_lit 9) (nat_lit 0) (nat_lit 0) (nat_lit 0))]⟩,
 ⟨.other, 1, false, [(.nd (nat_lit 1) (.cn (.ref (nat_lit 3) (nat_lit 0) (nat_lit 0) (nat_lit 0)) (.cn (.int (nat_lit 9223372036854775808)) .nl)))]⟩,
 ⟨.other, 1, false, [(.ref (nat_lit 9) (nat_lit 0) (nat_lit 0) (nat_lit 0))]⟩,
 ⟨.slice 275, 1, false, [(.ref (nat_lit 3) (nat_lit 0) (nat_lit 0) (nat_lit 0))]⟩,
 ⟨.struct [(0, 274), (3, 274)], 6, true, [(.int (nat_lit 9223372036854775808)), (.int (nat_lit 9223372036854775808)), (.str (nat_lit 0) (nat_lit 0)), (.int (nat_lit 9223372036854775808)), (.int (nat_lit 9223372036854775808)), (.str (nat_lit 0) (nat_lit 0))]⟩,
 ⟨.struct [(0, 274), (3, 274)], 6, true, [(.int (nat_lit 9223372036854775808)), (.int (nat_lit 9223372036854775808)), (.str (nat_lit 0) (nat_lit 0)), (.int (nat_lit 9223372036854775808)), (.int (nat_lit 9223372036854775808)), (.str (nat_lit 0) (nat_lit 0))]⟩,
 ⟨.other, 1, false, [(.ref (nat_lit 9) (nat_lit 0) (nat_lit 0) (nat_lit 0))]⟩,
 ⟨.other, 1, false, [(.ref (nat_lit 9) (nat_lit 0) (nat_lit 0) (nat_lit 0))]⟩,
 ⟨.other, 1, false, [(.nd (nat_lit 1) (.cn (.nd (nat_lit 0) (.cn (.int (nat_lit 9223372036854775808)) (.cn (.int (nat_lit 9223372036854775808)) (.cn (.str (nat_lit 0) (nat_lit 0)) .nl)))) (.cn (.str (nat_lit 0) (nat_lit 0)) .nl)))]⟩,
 ⟨.other, 1, false, [(.ref (nat_lit 9) (nat_lit 0) (nat_lit 0) (nat_lit 0))]⟩,
 ⟨.other, 1, false, [(.ref (nat_lit 9) (nat_lit 0) (nat_lit 0) (nat_lit 0))]⟩,
 ⟨.other, 1, false, [(.ref (nat_lit 9) (nat_lit 0) (nat_lit 0) (nat_lit 0))]⟩,
 ⟨.ptr 5, 1, false, [(.ref (nat_lit 4) (nat_lit 0) (nat_lit 0) (nat_lit 0))]⟩,
 ⟨.other, 1, false, [(.ref (nat_lit 9) (nat_lit 0) (nat_lit 0) (nat_lit 0))]⟩,
 ⟨.struct [(0, 30), (1, 37)], 2, true, [(.ref (nat_lit 3) (nat_lit 0) (nat_lit 0) (nat_lit 0)), (.ref (nat_lit 3) (nat_lit 0) (nat_lit 0) (nat_lit 0))]⟩,
 ⟨.struct [(0, 30), (1, 37)], 2, true, [(.ref (nat_lit 3) (nat_lit 0) (nat_lit 0) (nat_lit 0)), (.ref (nat_lit 3) (nat_lit 0) (nat_lit 0) (nat_lit 0))]⟩,
 ⟨.other, 1, false, [(.ref (nat_lit 9) (nat_lit 0) (nat_lit 0) (nat_lit 0))]⟩,
 ⟨.other, 1, false, [(.ref (nat_lit 9) (nat_lit 0) (nat_lit 0) (nat_lit 0))]⟩,
 ⟨.other, 1, false, [(.ref (nat_lit 9) (nat_lit 0) (nat_lit 0) (nat_lit 0))]⟩,
 ⟨.other, 1, false, [(.ref (nat_lit 9) (nat_lit 0) (nat_lit 0) (nat_lit 0))]⟩,
 ⟨.arr 32 5, 32, true, [(.byt (nat_lit 0)), (.byt (nat_lit 0)), (.byt (nat_lit 0)), (.byt (nat_lit 0)), (.byt (nat_lit 0)), (.byt (nat_lit 0)), (.byt (nat_lit 0)), (.byt (nat_lit 0)), (.byt (nat_lit 0)), (.byt (nat_lit 0)), (.byt (nat_lit 0)), (.byt (nat_lit 0)), (.byt (nat_lit 0)), (.byt (nat_lit 0)), (.byt (nat_lit 0)), (.byt (nat_lit 0)), (.byt (nat_lit 0)), (.byt (nat_lit 0)), (.byt (nat_lit 0)), (.byt (nat_lit 0)), (.byt (nat_lit 0)), (.byt (nat_lit 0)), (.byt (nat_lit 0)), (.byt (nat_lit 0)), (.byt (nat_lit 0)), (.byt (nat_lit 0)), (.byt (nat_lit 0)), (.byt (nat_lit 0)), (.byt (nat_lit 0)), (.byt (nat_lit 0)), (.byt (nat_lit 0)), (.byt (nat_lit 0))]⟩,
 ⟨.arr 64 5, 64, true, [(.byt (nat_lit 0)), (.byt (nat_lit 0)), (.byt (nat_lit 0)), (.byt (nat_lit 0)), (.byt (nat_lit 0)), (.byt (nat_lit 0)), (.byt (nat_lit 0)), (.byt (nat_lit 0)), (.byt (nat_lit 0)), (.byt (nat_lit 0)), (.byt (nat_lit 0)), (.byt (nat_lit 0)), (.byt (nat_lit 0)), (.byt (nat_lit 0)), (.byt (nat_lit 0)), (.byt (nat_lit 0)), (.byt (nat_lit 0)), (.byt (nat_lit 0)), (.byt (nat_lit 0)), (.byt (nat_lit 0)), (.byt (nat_lit 0)), (.byt (nat_lit 0)), (.byt (nat_lit 0)), (.byt (nat_lit 0)), (.byt (nat_lit 0)), (.byt (nat_lit 0)), (.byt (nat_lit 0)), (.byt (nat_lit 0)), (.byt (nat_lit 0)), (.byt (nat_lit 0)), (.byt (nat_lit 0)), (.byt (nat_lit 0)), (.byt (nat_lit 0)), (.byt (nat_lit 0)), (.byt (nat_lit 0)), (.byt (nat_lit 0)), (.byt (nat_lit 0)), (.byt (nat_lit 0)), (.byt (nat_lit 0)), (.byt (nat_lit 0)), (.byt (nat_lit 0)), (.byt (nat_lit 0)), (.byt (nat_lit 0)), (.byt (nat_lit 0)), (.byt (nat_lit 0)), (.byt (nat_lit 0)), (.byt (nat_lit 0)), (.byt (nat_lit 0)), (.byt (nat_lit 0)), (.byt (nat_lit 0)), (.byt (nat_lit 0)), (.byt (nat_lit 0)), (.byt (nat_lit 0)), (.byt (nat_lit 0)), (.byt (nat_lit 0)), (.byt (nat_lit 0)), (.byt (nat_lit 0)), (.byt (nat_lit 0)), (.byt (nat_lit 0)), (.byt (nat_lit 0)), (.byt (nat_lit 0)), (.byt (nat_lit 0)), (.byt (nat_lit 0)), (.byt (nat_lit 0))]⟩,
 ⟨.int .i64, 1, false, [(.int (nat_lit 9223372036854775808))]⟩,
 ⟨.other, 1, false, [(.nd (nat_lit 1) (.cn (.int (nat_lit 9223372036854775808)) (.cn (.ref (nat_lit 6) (nat_lit 0) (nat_lit 0) (nat_lit 0)) .nl)))]⟩,
 ⟨.other, 1, false, [(.ref (nat_lit 9) (nat_lit 0) (nat_lit 0) (nat_lit 0))]⟩,
 ⟨.ptr 432, 1, false, [(.ref (nat_lit 4) (nat_lit 0) (nat_lit 0) (nat_lit 0))]⟩,
 ⟨.other, 1, false, [(.ref (nat_lit 9) (nat_lit 0) (nat_lit 0) (nat_lit 0))]⟩,
 ⟨.other, 1, false, [(.ref (nat_lit 9) (nat_lit 0) (nat_lit 0) (nat_lit 0))]⟩,
 ⟨.other, 1, false, [(.ref (nat_lit 4) (nat_lit 0) (nat_lit 0) (nat_lit 0))]⟩,
 ⟨.other, 1, false, [(.ref (nat_lit 9) (nat_lit 0) (nat_lit 0) (nat_lit 0))]⟩,
 ⟨.other, 1, false, [(.ref (nat_lit 9) (nat_lit 0) (nat_lit 0) (nat_lit 0))]⟩,
 ⟨.other, 1, false, [(.ref (nat_lit 9) (nat_lit 0) (nat_lit 0) (nat_lit 0))]⟩,
 ⟨.other, 1, false, [(.ref (nat_lit 9) (nat_lit 0) (nat_lit 0) (nat_lit 0))]⟩,
 ⟨.struct [(0, 3)], 1, true, [(.int (nat_lit 9223372036854775808))]⟩,
 ⟨.struct [(0, 3)], 1, true, [(.int (nat_lit 9223372036854775808))]⟩,
 ⟨.other, 1, false, [(.nd (nat_lit 1) (.cn junk (.cn (.ref (nat_lit 6) (nat_lit 0) (nat_lit 0) (nat_lit 0)) .nl)))]⟩,
 ⟨.other, 1, false, [(.ref (nat_lit 9) (nat_lit 0) (nat_lit 0) (nat_lit 0))]⟩,
 ⟨.other, 1, false, [(.ref (nat_lit 9) (nat_lit 0) (nat_lit 0) (nat_lit 0))]⟩,
 ⟨.struct [(0, 9), (1, 9), (2, 379)], 3, true, [(.str (nat_lit 0) (nat_lit 0)), (.str (nat_lit 0) (nat_lit 0)), (.ref (nat_lit 6) (nat_lit 0) (nat_lit 0) (nat_lit 0))]⟩,
 ⟨.struct [(0, 9), (1, 9), (2, 379)], 3, true, [(.str (nat_lit 0) (nat_lit 0)), (.str (nat_lit 0) (nat_lit 0)), (.ref (nat_lit 6) (nat_lit 0) (nat_lit 0) (nat_lit 0))]⟩,
 ⟨.other, 1, false, [(.ref (nat_lit 9) (nat_lit 0) (nat_lit 0) (nat_lit 0))]⟩,
 ⟨.ptr 427, 1, false, [(.ref (nat_lit 4) (nat_lit 0) (nat_lit 0) (nat_lit 0))]⟩,
 ⟨.other, 1, false, [(.ref (nat_lit 9) (nat_lit 0) (nat_lit 0) (nat_lit 0))]⟩,
 ⟨.other, 1, false, [(.ref (nat_lit 9) (nat_lit 0) (nat_lit 0) (nat_lit 0))]⟩,
 ⟨.ptr 439, 1, false, [(.ref (nat_lit 4) (nat_lit 0) (nat_lit 0) (nat_lit 0))]⟩,
 ⟨.struct [(0, 9)], 1, true, [(.str (nat_lit 0) (nat_lit 0))]⟩,
 ⟨.struct [(0, 9)], 1, true, [(.str (nat_lit 0) (nat_lit 0))]⟩,
 ⟨.struct [(0, 17), (1, 17), (2, 17), (3, 9)], 4, true, [(.ref (nat_lit 4) (nat_lit 0) (nat_lit 0) (nat_lit 0)), (.ref (nat_lit 4) (nat_lit 0) (nat_lit 0) (nat_lit 0)), (.ref (nat_lit 4) (nat_lit 0) (nat_lit 0) (nat_lit 0)), (.str (nat_lit 0) (nat_lit 0))]⟩,
 ⟨.struct [(0, 17), (1, 17), (2, 17), (3, 9)], 4, true, [(.ref (nat_lit 4) (nat_lit 0) (nat_lit 0) (nat_lit 0)), (.ref (nat_lit 4) (nat_lit 0) (nat_lit 0) (nat_lit 0)), (.ref (nat_lit 4) (nat_lit 0) (nat_lit 0) (nat_lit 0)), (.str (nat_lit 0) (nat_lit 0))]⟩,
 ⟨.arr 0 16, 0, true, []⟩,
 ⟨.struct [(0, 442)], 0, true, []⟩,
 ⟨.struct [(0, 442)], 0, true, []⟩,
 ⟨.int .u8, 1, false, [(.byt (nat_lit 0))]⟩,
 ⟨.int .u8, 1, false, [(.byt (nat_lit 0))]⟩,
 ⟨.other, 1, false, [(.ref (nat_lit 9) (nat_lit 0) (nat_lit 0) (nat_lit 0))]⟩,
 ⟨.int .i32, 1, false, [junk]⟩,
 ⟨.int .i32, 1, false, [junk]⟩,
 ⟨.struct [(0, 12), (1, 12), (2, 374), (3, 445), (4, 5), (5, 5), (6, 446), (7, 447), (8, 405), (9, 448), (10, 449)], 11, true, [junk, junk, junk, (.byt (nat_lit 0)), (.byt (nat_lit 0)), (.byt (nat_lit 0)), (.byt (nat_lit 0)), (.ref (nat_lit 9) (nat_lit 0) (nat_lit 0) (nat_lit 0)), (.ref (nat_lit 4) (nat_lit 0) (nat_lit 0) (nat_lit 0)), junk, junk]⟩,
 ⟨.struct [(0, 12), (1, 12), (2, 374), (3, 445), (4, 5), (5, 5), (6, 446), (7, 447), (8, 405), (9, 448), (10, 449)], 11, true, [junk, junk, junk, (.byt (nat_lit 0)), (.byt (nat_lit 0)), (.byt (nat_lit 0)), (.byt (nat_lit 0)), (.ref (nat_lit 9) (nat_lit 0) (nat_lit 0) (nat_lit 0)), (.ref (nat_lit 4) (nat_lit 0) (nat_lit 0) (nat_lit 0)), junk, junk]⟩]

def PU : List Nat := [5, 6, 7, 8, 15, 16, 18, 20, 23, 28, 35, 38, 40, 43, 44, 46, 53, 56, 57, 60, 61, 77, 82, 83, 86, 92, 93, 95, 103, 106, 107, 109, 111, 120, 121, 122, 125, 126, 127, 128, 142, 143, 147, 148, 154, 163, 164, 165, 179, 180, 182, 187, 192, 193, 194, 195, 198, 200, 201, 202, 203, 204, 205, 206, 207, 208, 211, 220, 221, 222, 223, 226, 227, 228, 236, 243, 249, 252, 255, 256, 258, 259, 260, 261, 262, 263, 265, 270, 272, 278, 285, 286, 287, 288, 294, 296, 297, 300, 311, 312, 313, 316, 317, 318, 319, 320, 321, 324, 326, 330, 335, 342, 343, 346, 347, 348, 364, 365, 366, 367, 368, 369]
theorem f6_den : denF ⟨TT, [3, 4, 5], [], [], [], Tryz.f6.results.toList, PU, Tryz.f6.ntmps, []⟩ 1 (Tryz.f6.body.getD .skip) = f6 := by kernel_rfl
theorem f8_den : denF ⟨TT, [3, 4, 5], [], [], [], Tryz.f8.results.toList, PU, Tryz.f8.ntmps, []⟩ 1 (Tryz.f8.body.getD .skip) = f8 := by kernel_rfl
theorem f12_den : denF ⟨TT, [0, 5], [], [(0, [.b 0 5, .t 1]), (1, [.b 0 5, .t 1, .t 14, .t 15, .t 16])], [(0, [.b 0 5, .t 1, .t 14, .t 15, .t 16])], Tryz.f12.results.toList, PU, Tryz.f12.ntmps, []⟩ 0 (Tryz.f12.body.getD .skip) = f12 := by kernel_rfl
theorem f14_den : denF ⟨TT, [6], [], [], [], Tryz.f14.results.toList, PU, Tryz.f14.ntmps, []⟩ 3 (Tryz.f14.body.getD .skip) = f14 := by kernel_rfl
theorem f15_den : denF ⟨TT, [2], [], [], [], Tryz.f15.results.toList, PU, Tryz.f15.ntmps, []⟩ 1 (Tryz.f15.body.getD .skip) = f15 := by kernel_rfl
theorem f16_den : denF ⟨TT, [], [], [], [], Tryz.f16.results.toList, PU, Tryz.f16.ntmps, []⟩ 2 (Tryz.f16.body.getD .skip) = f16 := by kernel_rfl
theorem f18_den : denF ⟨TT, [2, 4], [], [], [], Tryz.f18.results.toList, PU, Tryz.f18.ntmps, []⟩ 2 (Tryz.f18.body.getD .skip) = f18 := by kernel_rfl
theorem f20_den : denF ⟨TT, [], [], [], [], Tryz.f20.results.toList, PU, Tryz.f20.ntmps, []⟩ 1 (Tryz.f20.body.getD .skip) = f20 := by kernel_rfl
theorem f23_den : denF ⟨TT, [1, 2, 3], [], [], [], Tryz.f23.results.toList, PU, Tryz.f23.ntmps, []⟩ 1 (Tryz.f23.body.getD .skip) = f23 := by kernel_rfl
theorem f28_den : denF ⟨TT, [1], [], [], [], Tryz.f28.results.toList, PU, Tryz.f28.ntmps, []⟩ 1 (Tryz.f28.body.getD .skip) = f28 := by kernel_rfl
theorem f33_den : denF ⟨TT, [0], [], [], [], Tryz.f33.results.toList, PU, Tryz.f33.ntmps, []⟩ 0 (Tryz.f33.body.getD .skip) = f33 := by kernel_rfl
theorem f34_den : denF ⟨TT, [], [], [(0, [.t 4, .t 5]), (1, [.t 4, .t 5])], [(0, [.t 4, .t 5])], Tryz.f34.results.toList, PU, Tryz.f34.ntmps, []⟩ 1 (Tryz.f34.body.getD .skip) = f34 := by kernel_rfl
theorem f35_den : denF ⟨TT, [], [], [], [], Tryz.f35.results.toList, PU, Tryz.f35.ntmps, []⟩ 0 (Tryz.f35.body.getD .skip) = f35 := by kernel_rfl
theorem f36_den : denF ⟨TT, [3, 4], [], [], [], Tryz.f36.results.toList, PU, Tryz.f36.ntmps, []⟩ 2 (Tryz.f36.body.getD .skip) = f36 := by kernel_rfl
theorem f37_den : denF ⟨TT, [1, 2, 3, 5], [], [(0, [.b 2 5, .b 3 5, .c 3 0, .c 3 1, .c 3 2, .c 3 3, .c 3 4]), (1, [.b 2 5, .b 3 5, .c 3 0, .c 3 1, .c 3 2, .c 3 3, .c 3 4, .t 14, .t 15, .t 16])], [(0, [.b 2 5, .b 3 5, .c 3 0, .c 3 1, .c 3 2, .c 3 3, .c 3 4, .t 14, .t 15, .t 16])], Tryz.f37.results.toList, PU, Tryz.f37.ntmps, []⟩ 1 (Tryz.f37.body.getD .skip) = f37 := by kernel_rfl
theorem f38_den : denF ⟨TT, [1], [], [], [], Tryz.f38.results.toList, PU, Tryz.f38.ntmps, []⟩ 1 (Tryz.f38.body.getD .skip) = f38 := by kernel_rfl
theorem f39_den : denF ⟨TT, [6], [], [], [], Tryz.f39.results.toList, PU, Tryz.f39.ntmps, []⟩ 3 (Tryz.f39.body.getD .skip) = f39 := by kernel_rfl
theorem f40_den : denF ⟨TT, [2], [], [(0, [.b 2 8, .c 2 0, .c 2 1, .c 2 2, .c 2 3, .c 2 4, .c 2 5, .c 2 6, .c 2 7, .t 6]), (1, [.b 2 8, .c 2 0, .c 2 1, .c 2 2, .c 2 3, .c 2 4, .c 2 5, .c 2 6, .c 2 7, .t 6, .t 23, .t 24, .t 25]), (2, []), (3, [.t 6, .t 33, .t 34, .t 35])], [(0, [.b 2 8, .c 2 0, .c 2 1, .c 2 2, .c 2 3, .c 2 4, .c 2 5, .c 2 6, .c 2 7, .t 6, .t 23, .t 24, .t 25]), (2, [.t 6, .t 33, .t 34, .t 35])], Tryz.f40.results.toList, PU, Tryz.f40.ntmps, []⟩ 2 (Tryz.f40.body.getD .skip) = f40 := by kernel_rfl
theorem f41_den : denF ⟨TT, [9], [(6200019, [.b 9 8, .c 9 0, .c 9 1, .c 9 2, .c 9 3, .c 9 4, .c 9 5, .c 9 6, .c 9 7, .t 0, .t 1, .t 11, .t 52, .t 53, .t 54])], [(0, [.b 9 8, .c 9 0, .c 9 1, .c 9 2, .c 9 3, .c 9 4, .c 9 5, .c 9 6, .c 9 7, .t 0, .t 1, .t 2, .t 11]), (1, [.b 9 8, .c 9 0, .c 9 1, .c 9 2, .c 9 3, .c 9 4, .c 9 5, .c 9 6, .c 9 7, .t 0, .t 1, .t 2, .t 11, .t 31, .t 32, .t 33]), (2, [.b 9 8, .c 9 0, .c 9 1, .c 9 2, .c 9 3, .c 9 4, .c 9 5, .c 9 6, .c 9 7, .t 0, .t 1, .t 2, .t 11]), (3, [.b 9 8, .c 9 0, .c 9 1, .c 9 2, .c 9 3, .c 9 4, .c 9 5, .c 9 6, .c 9 7, .t 0, .t 1, .t 2, .t 11, .t 43, .t 44, .t 45]), (4, [.b 9 8, .c 9 0, .c 9 1, .c 9 2, .c 9 3, .c 9 4, .c 9 5, .c 9 6, .c 9 7, .t 0, .t 11]), (5, [.b 9 8, .c 9 0, .c 9 1, .c 9 2, .c 9 3, .c 9 4, .c 9 5, .c 9 6, .c 9 7, .t 0, .t 1, .t 11, .t 52, .t 53, .t 54])], [(0, [.b 9 8, .c 9 0, .c 9 1, .c 9 2, .c 9 3, .c 9 4, .c 9 5, .c 9 6, .c 9 7, .t 0, .t 1, .t 2, .t 11, .t 31, .t 32, .t 33]), (2, [.b 9 8, .c 9 0, .c 9 1, .c 9 2, .c 9 3, .c 9 4, .c 9 5, .c 9 6, .c 9 7, .t 0, .t 1, .t 2, .t 11, .t 43, .t 44, .t 45]), (4, [.b 9 8, .c 9 0, .c 9 1, .c 9 2, .c 9 3, .c 9 4, .c 9 5, .c 9 6, .c 9 7, .t 0, .t 1, .t 11, .t 52, .t 53, .t 54])], Tryz.f41.results.toList, PU, Tryz.f41.ntmps, []⟩ 5 (Tryz.f41.body.getD .skip) = f41 := by kernel_rfl
theorem f42_den : denF ⟨TT, [], [], [(0, [.t 3]), (1, [.t 3, .t 9, .t 10, .t 11]), (2, [.t 3, .t 9, .t 10, .t 11]), (3, [.t 3, .t 9, .t 10, .t 11, .t 15, .t 16, .t 17])], [(0, [.t 3, .t 9, .t 10, .t 11]), (2, [.t 3, .t 9, .t 10, .t 11, .t 15, .t 16, .t 17])], Tryz.f42.results.toList, PU, Tryz.f42.ntmps, []⟩ 1 (Tryz.f42.body.getD .skip) = f42 := by kernel_rfl
theorem f43_den : denF ⟨TT, [1], [], [], [], Tryz.f43.results.toList, PU, Tryz.f43.ntmps, []⟩ 1 (Tryz.f43.body.getD .skip) = f43 := by kernel_rfl
theorem f44_den : denF ⟨TT, [2, 9, 13], [(8900020, [.b 2 2, .c 2 0, .c 2 1, .t 5, .t 6, .t 7, .t 56, .t 57, .t 58, .t 81, .t 82, .t 83])], [(0, [.t 5, .t 6, .t 7]), (1, [.b 2 2, .c 2 0, .c 2 1, .t 5, .t 6, .t 7, .t 56, .t 57, .t 58]), (2, [.b 2 2, .c 2 0, .c 2 1, .t 5, .t 6, .t 7, .t 56, .t 57, .t 58]), (3, [.b 2 2, .c 2 0, .c 2 1, .t 5, .t 6, .t 7, .t 56, .t 57, .t 58, .t 81, .t 82, .t 83]), (4, [.t 6]), (5, [.t 6, .t 102, .t 103, .t 104])], [(0, [.b 2 2, .c 2 0, .c 2 1, .t 5, .t 6, .t 7, .t 56, .t 57, .t 58]), (2, [.b 2 2, .c 2 0, .c 2 1, .t 5, .t 6, .t 7, .t 56, .t 57, .t 58, .t 81, .t 82, .t 83]), (4, [.t 6, .t 102, .t 103, .t 104])], Tryz.f44.results.toList, PU, Tryz.f44.ntmps, []⟩ 2 (Tryz.f44.body.getD .skip) = f44 := by kernel_rfl
theorem f45_den : denF ⟨TT, [3], [], [], [], Tryz.f45.results.toList, PU, Tryz.f45.ntmps, []⟩ 3 (Tryz.f45.body.getD .skip) = f45 := by kernel_rfl
theorem f50_den : denF ⟨TT, [2, 3, 4], [], [(0, [.b 2 7, .b 3 4, .b 4 7, .c 2 0, .c 2 1, .c 2 2, .c 2 3, .c 2 4, .c 2 5, .c 2 6, .c 3 0, .c 3 1, .c 3 2, .c 3 3]), (1, [.b 2 7, .b 3 4, .b 4 7, .c 2 0, .c 2 1, .c 2 2, .c 2 3, .c 2 4, .c 2 5, .c 2 6, .c 3 0, .c 3 1, .c 3 2, .c 3 3, .t 27, .t 28, .t 29])], [(0, [.b 2 7, .b 3 4, .b 4 7, .c 2 0, .c 2 1, .c 2 2, .c 2 3, .c 2 4, .c 2 5, .c 2 6, .c 3 0, .c 3 1, .c 3 2, .c 3 3, .t 27, .t 28, .t 29])], Tryz.f50.results.toList, PU, Tryz.f50.ntmps, []⟩ 2 (Tryz.f50.body.getD .skip) = f50 := by kernel_rfl
theorem f53_den : denF ⟨TT, [3, 4, 6, 8, 12, 13, 15], [], [(0, [.b 6 5, .t 2, .t 10]), (1, [.b 6 5, .t 2, .t 10, .t 28, .t 29, .t 30])], [(0, [.b 6 5, .t 2, .t 10, .t 28, .t 29, .t 30])], Tryz.f53.results.toList, PU, Tryz.f53.ntmps, []⟩ 3 (Tryz.f53.body.getD .skip) = f53 := by kernel_rfl
theorem f54_den : denF ⟨TT, [0], [], [], [], Tryz.f54.results.toList, PU, Tryz.f54.ntmps, []⟩ 0 (Tryz.f54.body.getD .skip) = f54 := by kernel_rfl
theorem f56_den : denF ⟨TT, [], [], [], [], Tryz.f56.results.toList, PU, Tryz.f56.ntmps, []⟩ 3 (Tryz.f56.body.getD .skip) = f56 := by kernel_rfl
theorem f57_den : denF ⟨TT, [1, 5], [], [(0, [.t 3]), (1, [.b 1 3, .c 1 0, .c 1 2, .t 3, .t 29, .t 30, .t 31])], [(0, [.b 1 3, .c 1 0, .c 1 2, .t 3, .t 29, .t 30, .t 31])], Tryz.f57.results.toList, PU, Tryz.f57.ntmps, [(9, [4, 0, 1, 2, 3, 5, 6, 7, 8, 9, 10])]⟩ 1 (Tryz.f57.body.getD .skip) = f57 := by kernel_rfl
theorem f59_den : denF ⟨TT, [2], [], [(0, [.t 1]), (1, [.b 2 5, .c 2 4, .t 1, .t 5])], [(0, [.b 2 5, .c 2 4, .t 1, .t 5])], Tryz.f59.results.toList, PU, Tryz.f59.ntmps, []⟩ 2 (Tryz.f59.body.getD .skip) = f59 := by kernel_rfl
theorem f60_den : denF ⟨TT, [1, 5], [], [(0, [.t 3]), (1, [.t 3, .t 7, .t 8, .t 9])], [(0, [.t 3, .t 7, .t 8, .t 9])], Tryz.f60.results.toList, PU, Tryz.f60.ntmps, []⟩ 1 (Tryz.f60.body.getD .skip) = f60 := by kernel_rfl
theorem f61_den : denF ⟨TT, [1, 4], [], [(0, [.b 1 5, .c 1 0, .c 1 1, .c 1 2, .c 1 3, .c 1 4]), (1, [.b 1 5, .c 1 0, .c 1 1, .c 1 2, .c 1 3, .c 1 4, .t 6, .t 7, .t 8])], [(0, [.b 1 5, .c 1 0, .c 1 1, .c 1 2, .c 1 3, .c 1 4, .t 6, .t 7, .t 8])], Tryz.f61.results.toList, PU, Tryz.f61.ntmps, []⟩ 1 (Tryz.f61.body.getD .skip) = f61 := by kernel_rfl
theorem f62_den : denF ⟨TT, [5], [], [(0, [.t 3]), (1, [.t 3, .t 7, .t 8, .t 9])], [(0, [.t 3, .t 7, .t 8, .t 9])], Tryz.f62.results.toList, PU, Tryz.f62.ntmps, []⟩ 1 (Tryz.f62.body.getD .skip) = f62 := by kernel_rfl
theorem f68_den : denF ⟨TT, [4], [(900003, [.b 4 8])], [], [], Tryz.f68.results.toList, PU, Tryz.f68.ntmps, []⟩ 2 (Tryz.f68.body.getD .skip) = f68 := by kernel_rfl
theorem f74_den : denF ⟨TT, [], [], [(0, [.t 1]), (1, [.t 1, .t 7, .t 8, .t 9]), (2, [.t 1]), (3, [.t 1, .t 21, .t 22, .t 23])], [(0, [.t 1, .t 7, .t 8, .t 9]), (2, [.t 1, .t 21, .t 22, .t 23])], Tryz.f74.results.toList, PU, Tryz.f74.ntmps, []⟩ 0 (Tryz.f74.body.getD .skip) = f74 := by kernel_rfl
theorem f75_den : denF ⟨TT, [], [(4500003, [.t 0])], [(0, []), (1, [.t 0]), (2, [.t 0]), (3, [.t 0])], [(0, [.t 0]), (2, [.t 0])], Tryz.f75.results.toList, PU, Tryz.f75.ntmps, []⟩ 1 (Tryz.f75.body.getD .skip) = f75 := by kernel_rfl
theorem f76_den : denF ⟨TT, [2, 4], [], [(0, [.b 2 4, .t 0]), (1, [.b 2 4, .t 0, .t 3]), (2, [.b 2 4, .t 0, .t 3]), (3, [.b 2 4, .b 4 4, .c 4 0, .c 4 1, .c 4 2, .c 4 3, .t 0]), (4, [.b 2 4, .b 4 4, .c 4 0, .c 4 1, .c 4 2, .c 4 3, .t 0])], [(1, [.b 2 4, .t 0, .t 3]), (3, [.b 2 4, .b 4 4, .c 4 0, .c 4 1, .c 4 2, .c 4 3, .t 0])], Tryz.f76.results.toList, PU, Tryz.f76.ntmps, []⟩ 1 (Tryz.f76.body.getD .skip) = f76 := by kernel_rfl
theorem f77_den : denF ⟨TT, [5], [], [(0, [.t 3]), (1, [.t 3, .t 6, .t 7, .t 8])], [(0, [.t 3, .t 6, .t 7, .t 8])], Tryz.f77.results.toList, PU, Tryz.f77.ntmps, []⟩ 1 (Tryz.f77.body.getD .skip) = f77 := by kernel_rfl
theorem f78_den : denF ⟨TT, [3, 4, 6, 8, 10], [], [(0, [.b 3 5, .b 4 3, .b 6 3, .c 3 4, .c 6 0, .c 6 1, .c 6 2]), (1, [.b 3 5, .b 4 3, .b 6 3, .c 3 4, .c 6 0, .c 6 1, .c 6 2, .t 43, .t 44, .t 45]), (2, [.b 4 3, .b 6 3, .c 6 0, .c 6 1, .c 6 2]), (3, [.b 4 3, .b 6 3, .c 6 0, .c 6 1, .c 6 2, .t 59, .t 60, .t 61])], [(0, [.b 3 5, .b 4 3, .b 6 3, .c 3 4, .c 6 0, .c 6 1, .c 6 2, .t 43, .t 44, .t 45]), (2, [.b 4 3, .b 6 3, .c 6 0, .c 6 1, .c 6 2, .t 59, .t 60, .t 61])], Tryz.f78.results.toList, PU, Tryz.f78.ntmps, []⟩ 2 (Tryz.f78.body.getD .skip) = f78 := by kernel_rfl
theorem f79_den : denF ⟨TT, [4, 5], [], [], [], Tryz.f79.results.toList, PU, Tryz.f79.ntmps, []⟩ 3 (Tryz.f79.body.getD .skip) = f79 := by kernel_rfl
theorem f80_den : denF ⟨TT, [3, 6, 7, 9], [(2200004, [.b 3 5, .b 6 5, .b 7 5, .c 3 4, .c 7 0, .c 7 1, .c 7 2, .c 7 3, .c 7 4, .t 1, .t 2]), (2400006, [.b 3 5, .b 6 5, .b 7 5, .c 3 4, .c 7 0, .c 7 1, .c 7 2, .c 7 3, .c 7 4, .t 1, .t 2]), (3100008, [.b 3 5, .b 6 5, .b 7 5, .c 3 4, .c 7 0, .c 7 1, .c 7 2, .c 7 3, .c 7 4, .t 1, .t 2]), (3800010, [.b 3 5, .b 6 5, .b 7 5, .c 3 4, .c 7 0, .c 7 1, .c 7 2, .c 7 3, .c 7 4, .t 1, .t 2])], [(0, [.b 3 5, .b 6 5, .b 7 5, .c 3 4, .c 7 0, .c 7 1, .c 7 2, .c 7 3, .c 7 4, .t 1, .t 2]), (1, [.b 6 5, .b 7 5, .c 7 0, .c 7 1, .c 7 2, .c 7 3, .c 7 4]), (2, [.b 6 5, .b 7 5, .c 7 0, .c 7 1, .c 7 2, .c 7 3, .c 7 4, .t 1, .t 2, .t 45, .t 46, .t 47])], [(1, [.b 6 5, .b 7 5, .c 7 0, .c 7 1, .c 7 2, .c 7 3, .c 7 4, .t 1, .t 2, .t 45, .t 46, .t 47])], Tryz.f80.results.toList, PU, Tryz.f80.ntmps, []⟩ 3 (Tryz.f80.body.getD .skip) = f80 := by kernel_rfl
theorem f81_den : denF ⟨TT, [2], [], [(0, [.t 1]), (1, [.b 2 4, .c 2 3, .t 1, .t 5])], [(0, [.b 2 4, .c 2 3, .t 1, .t 5])], Tryz.f81.results.toList, PU, Tryz.f81.ntmps, []⟩ 2 (Tryz.f81.body.getD .skip) = f81 := by kernel_rfl
theorem f82_den : denF ⟨TT, [1, 5], [], [(0, [.t 3]), (1, [.t 3, .t 7, .t 8, .t 9])], [(0, [.t 3, .t 7, .t 8, .t 9])], Tryz.f82.results.toList, PU, Tryz.f82.ntmps, []⟩ 1 (Tryz.f82.body.getD .skip) = f82 := by kernel_rfl
theorem f83_den : denF ⟨TT, [1, 4], [], [(0, [.b 1 4, .c 1 0, .c 1 1, .c 1 2, .c 1 3]), (1, [.b 1 4, .c 1 0, .c 1 1, .c 1 2, .c 1 3, .t 6, .t 7, .t 8])], [(0, [.b 1 4, .c 1 0, .c 1 1, .c 1 2, .c 1 3, .t 6, .t 7, .t 8])], Tryz.f83.results.toList, PU, Tryz.f83.ntmps, []⟩ 1 (Tryz.f83.body.getD .skip) = f83 := by kernel_rfl
theorem f84_den : denF ⟨TT, [6], [], [], [], Tryz.f84.results.toList, PU, Tryz.f84.ntmps, []⟩ 3 (Tryz.f84.body.getD .skip) = f84 := by kernel_rfl
theorem f85_den : denF ⟨TT, [3, 8], [], [(0, []), (1, [.t 1, .t 2, .t 28, .t 29, .t 30])], [(0, [.t 1, .t 2, .t 28, .t 29, .t 30])], Tryz.f85.results.toList, PU, Tryz.f85.ntmps, []⟩ 3 (Tryz.f85.body.getD .skip) = f85 := by kernel_rfl
theorem f86_den : denF ⟨TT, [], [], [(0, []), (1, [.t 3, .t 9, .t 10, .t 11]), (2, [.t 3, .t 9, .t 10, .t 11]), (3, [.t 3, .t 9, .t 10, .t 11, .t 15, .t 16, .t 17])], [(0, [.t 3, .t 9, .t 10, .t 11]), (2, [.t 3, .t 9, .t 10, .t 11, .t 15, .t 16, .t 17])], Tryz.f86.results.toList, PU, Tryz.f86.ntmps, []⟩ 1 (Tryz.f86.body.getD .skip) = f86 := by kernel_rfl
theorem f87_den : denF ⟨TT, [1], [], [], [], Tryz.f87.results.toList, PU, Tryz.f87.ntmps, []⟩ 1 (Tryz.f87.body.getD .skip) = f87 := by kernel_rfl
theorem f88_den : denF ⟨TT, [1], [], [], [], Tryz.f88.results.toList, PU, Tryz.f88.ntmps, []⟩ 1 (Tryz.f88.body.getD .skip) = f88 := by kernel_rfl
theorem f89_den : denF ⟨TT, [], [], [], [], Tryz.f89.results.toList, PU, Tryz.f89.ntmps, []⟩ 2 (Tryz.f89.body.getD .skip) = f89 := by kernel_rfl
theorem f90_den : denF ⟨TT, [], [], [], [], Tryz.f90.results.toList, PU, Tryz.f90.ntmps, []⟩ 3 (Tryz.f90.body.getD .skip) = f90 := by kernel_rfl
theorem f91_den : denF ⟨TT, [4, 7], [(2500010, []), (7100024, [.t 0, .t 2]), (8800026, [.t 0, .t 2]), (9400028, [.t 0, .t 2]), (10300029, [.t 0, .t 2]), (11200032, [.t 0, .t 2]), (12400035, [.t 0, .t 2]), (13400037, [.t 0, .t 2]), (14200039, [.t 0, .t 2]), (15200041, [])], [(0, [.t 0, .t 2]), (1, [.b 4 8, .c 4 7, .t 0, .t 2]), (2, [.b 4 8, .c 4 7, .t 0, .t 2, .t 15, .t 16, .t 17]), (3, [.b 4 8, .c 4 7, .t 0, .t 2]), (4, [.b 4 8, .c 4 7, .t 0, .t 2, .t 54, .t 55, .t 56])], [(1, [.b 4 8, .c 4 7, .t 0, .t 2, .t 15, .t 16, .t 17]), (3, [.b 4 8, .c 4 7, .t 0, .t 2, .t 54, .t 55, .t 56])], Tryz.f91.results.toList, PU, Tryz.f91.ntmps, []⟩ 3 (Tryz.f91.body.getD .skip) = f91 := by kernel_rfl
theorem f92_den : denF ⟨TT, [2, 7], [(1000004, [.b 2 8, .c 2 7, .t 1]), (1600006, [.b 2 8, .c 2 7, .t 1])], [(0, [.b 2 8, .c 2 7, .t 1]), (1, [.b 2 8, .c 2 7, .t 1]), (2, [.b 2 8, .c 2 7, .t 1, .t 19, .t 20, .t 21]), (3, []), (4, [.t 1, .t 30, .t 31, .t 32])], [(1, [.b 2 8, .c 2 7, .t 1, .t 19, .t 20, .t 21]), (3, [.t 1, .t 30, .t 31, .t 32])], Tryz.f92.results.toList, PU, Tryz.f92.ntmps, []⟩ 2 (Tryz.f92.body.getD .skip) = f92 := by kernel_rfl
theorem f93_den : denF ⟨TT, [2, 5, 7], [], [(0, []), (1, [.b 2 2, .b 5 4, .c 2 0, .c 2 1, .c 5 0, .c 5 1, .c 5 2, .c 5 3, .t 1, .t 56, .t 57, .t 58])], [(0, [.b 2 2, .b 5 4, .c 2 0, .c 2 1, .c 5 0, .c 5 1, .c 5 2, .c 5 3, .t 1, .t 56, .t 57, .t 58])], Tryz.f93.results.toList, PU, Tryz.f93.ntmps, []⟩ 2 (Tryz.f93.body.getD .skip) = f93 := by kernel_rfl
theorem f94_den : denF ⟨TT, [2, 10], [(7600024, [.b 2 2, .b 10 6, .c 2 0, .c 2 1, .c 10 1, .t 6, .t 7, .t 9, .t 13, .t 14, .t 37, .t 38, .t 39, .t 72, .t 76]), (7600025, [.b 2 2, .c 2 0, .c 2 1, .t 6, .t 7, .t 9, .t 13, .t 14, .t 37, .t 38, .t 39]), (8100028, [.b 2 2, .c 2 0, .c 2 1, .t 6, .t 7, .t 9, .t 13, .t 14, .t 37, .t 38, .t 39]), (8600030, [.b 2 2, .c 2 0, .c 2 1, .t 6, .t 7, .t 9, .t 13, .t 14, .t 37, .t 38, .t 39])], [(0, [.b 2 2, .c 2 0, .c 2 1, .t 6, .t 7]), (1, [.b 2 2, .c 2 0, .c 2 1, .t 6, .t 7, .t 27, .t 28]), (2, [.t 7]), (3, [.b 2 2, .c 2 0, .c 2 1, .t 6, .t 7, .t 37, .t 38, .t 39]), (4, [.b 2 2, .c 2 0, .c 2 1, .t 6, .t 7, .t 9, .t 13, .t 14, .t 37, .t 38, .t 39]), (5, [.b 2 2, .c 2 0, .c 2 1, .t 6, .t 7, .t 37, .t 38, .t 39]), (6, [.b 2 2, .c 2 0, .c 2 1, .t 6, .t 7, .t 9, .t 13, .t 37, .t 38, .t 39, .t 93, .t 94, .t 95])], [(0, [.b 2 2, .c 2 0, .c 2 1, .t 6, .t 7, .t 27, .t 28]), (2, [.b 2 2, .c 2 0, .c 2 1, .t 6, .t 7, .t 37, .t 38, .t 39]), (5, [.b 2 2, .c 2 0, .c 2 1, .t 6, .t 7, .t 9, .t 13, .t 37, .t 38, .t 39, .t 93, .t 94, .t 95])], Tryz.f94.results.toList, PU, Tryz.f94.ntmps, []⟩ 2 (Tryz.f94.body.getD .skip) = f94 := by kernel_rfl
theorem f95_den : denF ⟨TT, [], [], [], [], Tryz.f95.results.toList, PU, Tryz.f95.ntmps, []⟩ 1 (Tryz.f95.body.getD .skip) = f95 := by kernel_rfl
theorem f96_den : denF ⟨TT, [], [], [], [], Tryz.f96.results.toList, PU, Tryz.f96.ntmps, []⟩ 5 (Tryz.f96.body.getD .skip) = f96 := by kernel_rfl
theorem f97_den : denF ⟨TT, [3], [(4000005, [.b 3 6, .c 3 0, .c 3 1, .c 3 2, .c 3 3, .c 3 4, .c 3 5, .t 0, .t 2])], [(0, []), (1, [.t 0])], [(0, [.t 0])], Tryz.f97.results.toList, PU, Tryz.f97.ntmps, []⟩ 1 (Tryz.f97.body.getD .skip) = f97 := by kernel_rfl
theorem f103_den : denF ⟨TT, [1], [], [], [], Tryz.f103.results.toList, PU, Tryz.f103.ntmps, []⟩ 1 (Tryz.f103.body.getD .skip) = f103 := by kernel_rfl
theorem f105_den : denF ⟨TT, [5], [], [(0, [.t 3]), (1, [.t 3, .t 6, .t 7, .t 8])], [(0, [.t 3, .t 6, .t 7, .t 8])], Tryz.f105.results.toList, PU, Tryz.f105.ntmps, []⟩ 1 (Tryz.f105.body.getD .skip) = f105 := by kernel_rfl
theorem f106_den : denF ⟨TT, [1], [], [(0, [.b 1 4, .c 1 0, .c 1 1, .c 1 2, .c 1 3]), (1, [.b 1 4, .c 1 0, .c 1 1, .c 1 2, .c 1 3, .t 3, .t 29, .t 30, .t 31]), (2, [.b 1 4, .c 1 0, .c 1 1, .c 1 2, .c 1 3]), (3, [.b 1 4, .c 1 0, .c 1 1, .c 1 2, .c 1 3, .t 3, .t 49, .t 50, .t 51])], [(0, [.b 1 4, .c 1 0, .c 1 1, .c 1 2, .c 1 3, .t 3, .t 29, .t 30, .t 31]), (2, [.b 1 4, .c 1 0, .c 1 1, .c 1 2, .c 1 3, .t 3, .t 49, .t 50, .t 51])], Tryz.f106.results.toList, PU, Tryz.f106.ntmps, []⟩ 1 (Tryz.f106.body.getD .skip) = f106 := by kernel_rfl
theorem f107_den : denF ⟨TT, [1, 6, 13, 14], [(10000033, [.b 1 7, .c 1 1, .t 3, .t 4, .t 11, .t 68, .t 69, .t 70])], [(0, [.b 1 7, .c 1 1, .c 1 6, .t 3, .t 4]), (1, [.b 1 7, .c 1 1, .c 1 3, .c 1 6, .t 3, .t 4, .t 28, .t 29, .t 30]), (2, [.b 1 7, .b 6 10, .c 1 1, .c 1 3, .c 1 6, .c 6 1, .t 3, .t 4, .t 28, .t 29, .t 30]), (3, [.b 1 7, .b 6 10, .c 1 1, .c 1 3, .c 1 6, .c 6 1, .t 3, .t 4, .t 28, .t 29, .t 30, .t 43, .t 44, .t 45]), (4, [.b 1 7, .c 1 1, .c 1 3, .c 1 6, .t 3, .t 4, .t 28, .t 29, .t 30]), (5, [.b 1 7, .c 1 1, .c 1 3, .c 1 6, .t 3, .t 4, .t 28, .t 29, .t 30, .t 56, .t 57, .t 58]), (6, []), (7, [.b 1 7, .c 1 1, .t 3, .t 4, .t 11, .t 68, .t 69, .t 70]), (8, [.b 1 7, .c 1 1, .t 3, .t 4, .t 11, .t 68, .t 69, .t 70])], [(0, [.b 1 7, .c 1 1, .c 1 3, .c 1 6, .t 3, .t 4, .t 28, .t 29, .t 30]), (2, [.b 1 7, .b 6 10, .c 1 1, .c 1 3, .c 1 6, .c 6 1, .t 3, .t 4, .t 28, .t 29, .t 30, .t 43, .t 44, .t 45]), (4, [.b 1 7, .c 1 1, .c 1 3, .c 1 6, .t 3, .t 4, .t 28, .t 29, .t 30, .t 56, .t 57, .t 58]), (6, [.b 1 7, .c 1 1, .t 3, .t 4, .t 11, .t 68, .t 69, .t 70])], Tryz.f107.results.toList, PU, Tryz.f107.ntmps, []⟩ 1 (Tryz.f107.body.getD .skip) = f107 := by kernel_rfl
theorem f108_den : denF ⟨TT, [1, 2, 3, 5], [], [(0, [.b 2 7, .b 3 7, .c 3 0, .c 3 1, .c 3 2, .c 3 3, .c 3 4, .c 3 5, .c 3 6]), (1, [.b 2 7, .b 3 7, .c 3 0, .c 3 1, .c 3 2, .c 3 3, .c 3 4, .c 3 5, .c 3 6, .t 14, .t 15, .t 16])], [(0, [.b 2 7, .b 3 7, .c 3 0, .c 3 1, .c 3 2, .c 3 3, .c 3 4, .c 3 5, .c 3 6, .t 14, .t 15, .t 16])], Tryz.f108.results.toList, PU, Tryz.f108.ntmps, []⟩ 1 (Tryz.f108.body.getD .skip) = f108 := by kernel_rfl
theorem f109_den : denF ⟨TT, [2, 6], [], [(0, []), (1, [.t 1, .t 8, .t 9, .t 10])], [(0, [.t 1, .t 8, .t 9, .t 10])], Tryz.f109.results.toList, PU, Tryz.f109.ntmps, []⟩ 2 (Tryz.f109.body.getD .skip) = f109 := by kernel_rfl
theorem f110_den : denF ⟨TT, [3, 11, 18, 20], [(12300033, [.b 3 4, .b 20 8, .c 3 0, .c 20 0, .c 20 1, .c 20 2, .c 20 3, .c 20 4, .c 20 5, .c 20 6, .c 20 7, .t 0, .t 5, .t 14, .t 15])], [(0, [.b 3 4, .c 3 0, .c 3 2, .t 0, .t 5, .t 6, .t 9]), (1, [.b 3 4, .c 3 0, .c 3 2, .t 0, .t 5, .t 6, .t 9, .t 43, .t 44, .t 45]), (2, [.b 3 4, .c 3 0, .t 0, .t 5, .t 13, .t 14, .t 15]), (3, [.b 3 4, .c 3 0, .t 0, .t 5, .t 6, .t 13, .t 14, .t 15, .t 79, .t 80, .t 81])], [(0, [.b 3 4, .c 3 0, .c 3 2, .t 0, .t 5, .t 6, .t 9, .t 43, .t 44, .t 45]), (2, [.b 3 4, .c 3 0, .t 0, .t 5, .t 6, .t 13, .t 14, .t 15, .t 79, .t 80, .t 81])], Tryz.f110.results.toList, PU, Tryz.f110.ntmps, []⟩ 2 (Tryz.f110.body.getD .skip) = f110 := by kernel_rfl
theorem f111_den : denF ⟨TT, [9], [], [(0, [.t 4, .t 5, .t 6, .t 7]), (1, [.t 3, .t 4, .t 5, .t 6, .t 7, .t 14, .t 15, .t 16])], [(0, [.t 3, .t 4, .t 5, .t 6, .t 7, .t 14, .t 15, .t 16])], Tryz.f111.results.toList, PU, Tryz.f111.ntmps, []⟩ 1 (Tryz.f111.body.getD .skip) = f111 := by kernel_rfl
theorem f112_den : denF ⟨TT, [1, 2, 3, 5], [], [(0, [.b 2 8, .b 3 8, .c 3 0, .c 3 1, .c 3 2, .c 3 3, .c 3 4, .c 3 5, .c 3 6, .c 3 7]), (1, [.b 2 8, .b 3 8, .c 3 0, .c 3 1, .c 3 2, .c 3 3, .c 3 4, .c 3 5, .c 3 6, .c 3 7, .t 18, .t 19, .t 20])], [(0, [.b 2 8, .b 3 8, .c 3 0, .c 3 1, .c 3 2, .c 3 3, .c 3 4, .c 3 5, .c 3 6, .c 3 7, .t 18, .t 19, .t 20])], Tryz.f112.results.toList, PU, Tryz.f112.ntmps, []⟩ 1 (Tryz.f112.body.getD .skip) = f112 := by kernel_rfl
theorem f114_den : denF ⟨TT, [2, 6], [(1500007, [.b 2 8, .t 4, .t 7, .t 8, .t 9])], [(0, [.b 2 8, .t 4]), (1, [.b 2 8, .t 4, .t 7, .t 8, .t 9]), (2, [.b 2 8, .t 4])], [(0, [.b 2 8, .t 4, .t 7, .t 8, .t 9])], Tryz.f114.results.toList, PU, Tryz.f114.ntmps, []⟩ 1 (Tryz.f114.body.getD .skip) = f114 := by kernel_rfl
theorem f116_den : denF ⟨TT, [2, 3, 4, 6, 8], [], [(0, [.b 2 7, .b 4 7, .b 6 4, .c 2 0, .c 2 1, .c 2 2, .c 2 3, .c 2 4, .c 2 5, .c 2 6, .c 6 0, .c 6 1, .c 6 2, .c 6 3]), (1, [.b 2 7, .b 4 7, .b 6 4, .c 2 0, .c 2 1, .c 2 2, .c 2 3, .c 2 4, .c 2 5, .c 2 6, .c 6 0, .c 6 1, .c 6 2, .c 6 3, .t 13, .t 14, .t 15])], [(0, [.b 2 7, .b 4 7, .b 6 4, .c 2 0, .c 2 1, .c 2 2, .c 2 3, .c 2 4, .c 2 5, .c 2 6, .c 6 0, .c 6 1, .c 6 2, .c 6 3, .t 13, .t 14, .t 15])], Tryz.f116.results.toList, PU, Tryz.f116.ntmps, []⟩ 2 (Tryz.f116.body.getD .skip) = f116 := by kernel_rfl
theorem f117_den : denF ⟨TT, [1, 2], [(2600007, [.b 1 10, .b 2 5, .c 1 0, .c 1 2, .c 1 3, .c 1 4, .c 1 5, .c 1 6, .c 1 7, .c 1 8, .c 1 9, .t 4, .t 16, .t 17, .t 18])], [(0, [.b 1 10, .b 2 5, .c 1 0, .c 1 2, .c 1 3, .c 1 4, .c 1 5, .c 1 6, .c 1 7, .c 1 8, .c 1 9, .t 4]), (1, [.b 1 10, .b 2 5, .c 1 0, .c 1 2, .c 1 3, .c 1 4, .c 1 5, .c 1 6, .c 1 7, .c 1 8, .c 1 9, .t 4, .t 16, .t 17, .t 18])], [(0, [.b 1 10, .b 2 5, .c 1 0, .c 1 2, .c 1 3, .c 1 4, .c 1 5, .c 1 6, .c 1 7, .c 1 8, .c 1 9, .t 4, .t 16, .t 17, .t 18])], Tryz.f117.results.toList, PU, Tryz.f117.ntmps, [(1, [6, 0, 1, 2, 3, 4, 5, 7])]⟩ 1 (Tryz.f117.body.getD .skip) = f117 := by kernel_rfl
theorem f118_den : denF ⟨TT, [2, 6, 7, 9, 20], [(7700023, [.b 2 2, .b 6 2, .b 7 4, .b 9 5, .c 6 0, .c 7 0, .c 7 2, .c 7 3, .c 9 1, .c 9 2, .c 9 3, .t 4, .t 5, .t 35, .t 36, .t 37]), (15100042, [.b 2 2, .b 6 2, .b 7 4, .b 20 4, .c 6 0, .c 7 0, .c 7 2, .c 7 3, .c 20 0, .c 20 1, .c 20 2, .c 20 3, .t 4, .t 5, .t 18, .t 35, .t 36, .t 37, .t 117, .t 118, .t 119, .t 129, .t 130])], [(0, [.b 2 2, .b 6 2, .b 7 4, .c 6 0, .c 7 0, .c 7 2, .c 7 3, .t 5]), (1, [.b 2 2, .b 6 2, .b 7 4, .c 6 0, .c 7 0, .c 7 2, .c 7 3, .t 4, .t 5, .t 35, .t 36, .t 37]), (2, [.b 2 2, .b 6 2, .b 7 4, .b 9 5, .c 6 0, .c 7 0, .c 7 2, .c 7 3, .c 9 1, .c 9 2, .c 9 3, .t 4, .t 5, .t 8, .t 35, .t 36, .t 37]), (3, [.b 2 2, .b 6 2, .b 7 4, .b 9 5, .c 6 0, .c 7 0, .c 7 2, .c 7 3, .c 9 1, .c 9 2, .c 9 3, .t 4, .t 5, .t 8, .t 35, .t 36, .t 37, .t 57, .t 58, .t 59]), (4, [.b 2 2, .b 6 2, .b 7 4, .b 9 5, .c 6 0, .c 7 0, .c 7 2, .c 7 3, .c 9 3, .t 4, .t 5, .t 35, .t 36, .t 37]), (5, [.b 2 2, .b 6 2, .b 7 4, .b 9 5, .c 6 0, .c 7 0, .c 7 2, .c 7 3, .c 9 3, .t 4, .t 5, .t 35, .t 36, .t 37, .t 89, .t 90, .t 91]), (6, [.b 2 2, .b 6 2, .b 7 4, .c 6 0, .c 7 0, .c 7 2, .c 7 3, .t 4, .t 5, .t 35, .t 36, .t 37]), (7, [.b 2 2, .b 6 2, .b 7 4, .c 6 0, .c 7 0, .c 7 2, .c 7 3, .t 4, .t 5, .t 18, .t 35, .t 36, .t 37, .t 117, .t 118, .t 119]), (8, [.b 2 2, .b 6 2, .b 7 4, .b 20 4, .c 6 0, .c 7 0, .c 7 2, .c 7 3, .c 20 0, .c 20 1, .c 20 2, .c 20 3, .t 4, .t 5, .t 18, .t 35, .t 36, .t 37, .t 117, .t 118, .t 119]), (9, [.b 2 2, .b 6 2, .b 7 4, .b 20 4, .c 6 0, .c 7 0, .c 7 2, .c 7 3, .c 20 0, .c 20 1, .c 20 2, .c 20 3, .t 4, .t 5, .t 18, .t 35, .t 36, .t 37, .t 117, .t 118, .t 119, .t 129, .t 130]), (10, [.b 2 2, .b 6 2, .b 7 4, .c 6 0, .c 7 0, .c 7 2, .c 7 3, .t 5, .t 22]), (11, [.b 2 2, .b 6 2, .b 7 4, .c 6 0, .c 7 0, .c 7 2, .c 7 3, .t 5, .t 22, .t 182, .t 183])], [(0, [.b 2 2, .b 6 2, .b 7 4, .c 6 0, .c 7 0, .c 7 2, .c 7 3, .t 4, .t 5, .t 35, .t 36, .t 37]), (2, [.b 2 2, .b 6 2, .b 7 4, .b 9 5, .c 6 0, .c 7 0, .c 7 2, .c 7 3, .c 9 1, .c 9 2, .c 9 3, .t 4, .t 5, .t 8, .t 35, .t 36, .t 37, .t 57, .t 58, .t 59]), (4, [.b 2 2, .b 6 2, .b 7 4, .b 9 5, .c 6 0, .c 7 0, .c 7 2, .c 7 3, .c 9 3, .t 4, .t 5, .t 35, .t 36, .t 37, .t 89, .t 90, .t 91]), (6, [.b 2 2, .b 6 2, .b 7 4, .c 6 0, .c 7 0, .c 7 2, .c 7 3, .t 4, .t 5, .t 18, .t 35, .t 36, .t 37, .t 117, .t 118, .t 119]), (8, [.b 2 2, .b 6 2, .b 7 4, .b 20 4, .c 6 0, .c 7 0, .c 7 2, .c 7 3, .c 20 0, .c 20 1, .c 20 2, .c 20 3, .t 4, .t 5, .t 18, .t 35, .t 36, .t 37, .t 117, .t 118, .t 119, .t 129, .t 130]), (10, [.b 2 2, .b 6 2, .b 7 4, .c 6 0, .c 7 0, .c 7 2, .c 7 3, .t 5, .t 22, .t 182, .t 183])], Tryz.f118.results.toList, PU, Tryz.f118.ntmps, []⟩ 1 (Tryz.f118.body.getD .skip) = f118 := by kernel_rfl
theorem f120_den : denF ⟨TT, [3, 6], [], [(0, []), (1, [.b 3 4, .c 3 0, .c 3 1, .t 7, .t 8, .t 9])], [(0, [.b 3 4, .c 3 0, .c 3 1, .t 7, .t 8, .t 9])], Tryz.f120.results.toList, PU, Tryz.f120.ntmps, []⟩ 2 (Tryz.f120.body.getD .skip) = f120 := by kernel_rfl
theorem f121_den : denF ⟨TT, [4], [], [(0, [.t 0]), (1, [.t 0, .t 5, .t 6, .t 7])], [(0, [.t 0, .t 5, .t 6, .t 7])], Tryz.f121.results.toList, PU, Tryz.f121.ntmps, []⟩ 1 (Tryz.f121.body.getD .skip) = f121 := by kernel_rfl
theorem f122_den : denF ⟨TT, [1], [], [], [], Tryz.f122.results.toList, PU, Tryz.f122.ntmps, []⟩ 1 (Tryz.f122.body.getD .skip) = f122 := by kernel_rfl
theorem f123_den : denF ⟨TT, [5, 13], [(6900016, [.b 13 5, .c 13 0, .c 13 1, .c 13 2, .c 13 3, .c 13 4, .t 0, .t 2, .t 3, .t 10, .t 14, .t 53, .t 54, .t 55])], [(0, [.t 3, .t 11]), (1, [.t 0, .t 2, .t 3, .t 10, .t 11, .t 53, .t 54, .t 55])], [(0, [.t 0, .t 2, .t 3, .t 10, .t 11, .t 53, .t 54, .t 55])], Tryz.f123.results.toList, PU, Tryz.f123.ntmps, []⟩ 4 (Tryz.f123.body.getD .skip) = f123 := by kernel_rfl
theorem f124_den : denF ⟨TT, [1, 2], [], [], [], Tryz.f124.results.toList, PU, Tryz.f124.ntmps, []⟩ 1 (Tryz.f124.body.getD .skip) = f124 := by kernel_rfl
theorem f125_den : denF ⟨TT, [3, 6], [], [(0, [.b 3 5, .c 3 0, .c 3 1, .c 3 2, .c 3 3, .c 3 4, .t 0]), (1, [.b 3 5, .c 3 0, .c 3 1, .c 3 2, .c 3 3, .c 3 4, .t 0, .t 7, .t 8, .t 9])], [(0, [.b 3 5, .c 3 0, .c 3 1, .c 3 2, .c 3 3, .c 3 4, .t 0, .t 7, .t 8, .t 9])], Tryz.f125.results.toList, PU, Tryz.f125.ntmps, []⟩ 2 (Tryz.f125.body.getD .skip) = f125 := by kernel_rfl
theorem f126_den : denF ⟨TT, [1, 5], [], [(0, [.t 3]), (1, [.t 3, .t 7, .t 8, .t 9])], [(0, [.t 3, .t 7, .t 8, .t 9])], Tryz.f126.results.toList, PU, Tryz.f126.ntmps, []⟩ 1 (Tryz.f126.body.getD .skip) = f126 := by kernel_rfl
theorem f127_den : denF ⟨TT, [], [], [(0, [])], [], Tryz.f127.results.toList, PU, Tryz.f127.ntmps, []⟩ 4 (Tryz.f127.body.getD .skip) = f127 := by kernel_rfl
theorem f128_den : denF ⟨TT, [], [], [(0, []), (1, [.t 0, .t 5, .t 6, .t 7])], [(0, [.t 0, .t 5, .t 6, .t 7])], Tryz.f128.results.toList, PU, Tryz.f128.ntmps, []⟩ 1 (Tryz.f128.body.getD .skip) = f128 := by kernel_rfl
theorem f129_den : denF ⟨TT, [], [], [], [], Tryz.f129.results.toList, PU, Tryz.f129.ntmps, []⟩ 1 (Tryz.f129.body.getD .skip) = f129 := by kernel_rfl
theorem f130_den : denF ⟨TT, [1, 2], [], [], [], Tryz.f130.results.toList, PU, Tryz.f130.ntmps, []⟩ 1 (Tryz.f130.body.getD .skip) = f130 := by kernel_rfl
theorem f131_den : denF ⟨TT, [3, 4, 7, 9, 11], [(3400010, [.b 4 4, .b 7 4, .c 7 0, .c 7 1, .c 7 2, .c 7 3, .t 6, .t 22, .t 23, .t 24])], [(0, [.b 4 4, .b 7 4, .c 7 0, .c 7 1, .c 7 2, .c 7 3, .t 6]), (1, [.b 4 4, .b 7 4, .c 7 0, .c 7 1, .c 7 2, .c 7 3, .t 6, .t 22, .t 23, .t 24]), (2, [.b 4 4, .b 7 4, .c 7 0, .c 7 1, .c 7 2, .c 7 3]), (3, [.b 4 4, .b 7 4, .c 7 0, .c 7 1, .c 7 2, .c 7 3, .t 37, .t 38, .t 39])], [(0, [.b 4 4, .b 7 4, .c 7 0, .c 7 1, .c 7 2, .c 7 3, .t 6, .t 22, .t 23, .t 24]), (2, [.b 4 4, .b 7 4, .c 7 0, .c 7 1, .c 7 2, .c 7 3, .t 37, .t 38, .t 39])], Tryz.f131.results.toList, PU, Tryz.f131.ntmps, []⟩ 2 (Tryz.f131.body.getD .skip) = f131 := by kernel_rfl
theorem f140_den : denF ⟨TT, [], [], [], [], Tryz.f140.results.toList, PU, Tryz.f140.ntmps, []⟩ 0 (Tryz.f140.body.getD .skip) = f140 := by kernel_rfl
theorem f141_den : denF ⟨TT, [], [], [], [], Tryz.f141.results.toList, PU, Tryz.f141.ntmps, []⟩ 0 (Tryz.f141.body.getD .skip) = f141 := by kernel_rfl
theorem f142_den : denF ⟨TT, [], [], [], [], Tryz.f142.results.toList, PU, Tryz.f142.ntmps, []⟩ 1 (Tryz.f142.body.getD .skip) = f142 := by kernel_rfl
theorem f143_den : denF ⟨TT, [2], [], [], [], Tryz.f143.results.toList, PU, Tryz.f143.ntmps, []⟩ 1 (Tryz.f143.body.getD .skip) = f143 := by kernel_rfl
theorem f144_den : denF ⟨TT, [], [], [(0, [.t 0]), (1, [.t 0, .t 3])], [(0, [.t 0, .t 3])], Tryz.f144.results.toList, PU, Tryz.f144.ntmps, []⟩ 1 (Tryz.f144.body.getD .skip) = f144 := by kernel_rfl
theorem f145_den : denF ⟨TT, [2], [], [], [], Tryz.f145.results.toList, PU, Tryz.f145.ntmps, []⟩ 1 (Tryz.f145.body.getD .skip) = f145 := by kernel_rfl
theorem f146_den : denF ⟨TT, [2], [], [(0, [.b 2 4, .t 0, .t 3]), (1, [.b 2 4, .t 0, .t 3]), (2, [.b 2 4, .t 0])], [(0, [.b 2 4, .t 0, .t 3])], Tryz.f146.results.toList, PU, Tryz.f146.ntmps, []⟩ 1 (Tryz.f146.body.getD .skip) = f146 := by kernel_rfl
theorem f147_den : denF ⟨TT, [1, 5], [], [(0, [.t 3]), (1, [.t 3, .t 7, .t 8, .t 9])], [(0, [.t 3, .t 7, .t 8, .t 9])], Tryz.f147.results.toList, PU, Tryz.f147.ntmps, []⟩ 1 (Tryz.f147.body.getD .skip) = f147 := by kernel_rfl
theorem f148_den : denF ⟨TT, [4, 7], [], [], [], Tryz.f148.results.toList, PU, Tryz.f148.ntmps, []⟩ 3 (Tryz.f148.body.getD .skip) = f148 := by kernel_rfl
theorem f149_den : denF ⟨TT, [5, 8], [(3800007, [.t 0, .t 9])], [], [], Tryz.f149.results.toList, PU, Tryz.f149.ntmps, []⟩ 4 (Tryz.f149.body.getD .skip) = f149 := by kernel_rfl
theorem f150_den : denF ⟨TT, [], [(2200008, [.t 1, .t 5, .t 6, .t 8, .t 10, .t 11, .t 12]), (2500009, [.t 1, .t 5, .t 8, .t 10, .t 11, .t 12]), (3600014, [.t 5])], [(0, [.t 1, .t 5, .t 6]), (1, [.t 1, .t 5, .t 6, .t 10, .t 11, .t 12])], [(0, [.t 1, .t 5, .t 6, .t 10, .t 11, .t 12])], Tryz.f150.results.toList, PU, Tryz.f150.ntmps, []⟩ 2 (Tryz.f150.body.getD .skip) = f150 := by kernel_rfl
theorem f151_den : denF ⟨TT, [], [(2400009, [.t 1, .t 5, .t 16, .t 17, .t 18])], [(0, [.t 5]), (1, [.t 1, .t 5, .t 16, .t 17, .t 18])], [(0, [.t 1, .t 5, .t 16, .t 17, .t 18])], Tryz.f151.results.toList, PU, Tryz.f151.ntmps, []⟩ 2 (Tryz.f151.body.getD .skip) = f151 := by kernel_rfl
theorem f152_den : denF ⟨TT, [], [(1500007, [.t 3, .t 7, .t 8, .t 9])], [(0, [.t 3]), (1, [.t 3, .t 7, .t 8, .t 9])], [(0, [.t 3, .t 7, .t 8, .t 9])], Tryz.f152.results.toList, PU, Tryz.f152.ntmps, []⟩ 1 (Tryz.f152.body.getD .skip) = f152 := by kernel_rfl
theorem f153_den : denF ⟨TT, [3, 6, 8, 10], [(1300003, [.b 3 4, .b 6 4, .c 3 0, .c 3 1, .c 3 2, .c 3 3, .t 1, .t 2])], [(0, [.b 6 4, .b 8 4, .c 8 0, .c 8 1, .c 8 2, .c 8 3]), (1, [.b 6 4, .b 8 4, .c 8 0, .c 8 1, .c 8 2, .c 8 3, .t 1, .t 2, .t 39, .t 40, .t 41])], [(0, [.b 6 4, .b 8 4, .c 8 0, .c 8 1, .c 8 2, .c 8 3, .t 1, .t 2, .t 39, .t 40, .t 41])], Tryz.f153.results.toList, PU, Tryz.f153.ntmps, []⟩ 3 (Tryz.f153.body.getD .skip) = f153 := by kernel_rfl
theorem f154_den : denF ⟨TT, [1, 6], [], [(0, []), (1, []), (2, [.t 133, .t 134, .t 135])], [(1, [.t 133, .t 134, .t 135])], Tryz.f154.results.toList, PU, Tryz.f154.ntmps, []⟩ 1 (Tryz.f154.body.getD .skip) = f154 := by kernel_rfl
theorem f155_den : denF ⟨TT, [2, 6], [], [(0, [.t 1]), (1, [.t 1, .t 12, .t 13, .t 14])], [(0, [.t 1, .t 12, .t 13, .t 14])], Tryz.f155.results.toList, PU, Tryz.f155.ntmps, []⟩ 2 (Tryz.f155.body.getD .skip) = f155 := by kernel_rfl
theorem f156_den : denF ⟨TT, [3, 9], [(2600003, [.b 3 8, .c 3 2, .c 3 7, .t 1, .t 2])], [(0, [.b 3 8, .c 3 2, .c 3 7, .t 1, .t 2]), (1, [.b 3 8, .c 3 2, .c 3 7, .t 1, .t 2, .t 32, .t 33, .t 34]), (2, [.b 3 8, .c 3 2, .t 1]), (3, [.b 3 8, .c 3 2, .t 1, .t 2, .t 44, .t 45, .t 46]), (4, []), (5, [.t 1, .t 56, .t 57, .t 58])], [(0, [.b 3 8, .c 3 2, .c 3 7, .t 1, .t 2, .t 32, .t 33, .t 34]), (2, [.b 3 8, .c 3 2, .t 1, .t 2, .t 44, .t 45, .t 46]), (4, [.t 1, .t 56, .t 57, .t 58])], Tryz.f156.results.toList, PU, Tryz.f156.ntmps, []⟩ 3 (Tryz.f156.body.getD .skip) = f156 := by kernel_rfl
theorem f157_den : denF ⟨TT, [4], [(3600008, [.b 4 8, .c 4 7, .t 0, .t 2, .t 6, .t 7]), (6100012, [])], [], [], Tryz.f157.results.toList, PU, Tryz.f157.ntmps, []⟩ 3 (Tryz.f157.body.getD .skip) = f157 := by kernel_rfl
theorem f158_den : denF ⟨TT, [7], [(2900007, [.t 0, .t 1, .t 2, .t 9, .t 10, .t 11])], [(0, []), (1, [.t 0, .t 1, .t 2, .t 9, .t 10, .t 11])], [(0, [.t 0, .t 1, .t 2, .t 9, .t 10, .t 11])], Tryz.f158.results.toList, PU, Tryz.f158.ntmps, []⟩ 3 (Tryz.f158.body.getD .skip) = f158 := by kernel_rfl
theorem f159_den : denF ⟨TT, [1, 2], [], [], [], Tryz.f159.results.toList, PU, Tryz.f159.ntmps, []⟩ 1 (Tryz.f159.body.getD .skip) = f159 := by kernel_rfl
theorem f160_den : denF ⟨TT, [], [], [], [], Tryz.f160.results.toList, PU, Tryz.f160.ntmps, []⟩ 4 (Tryz.f160.body.getD .skip) = f160 := by kernel_rfl
theorem f161_den : denF ⟨TT, [7], [(2300007, [.b 7 8, .c 7 0, .c 7 1, .c 7 2, .c 7 3, .c 7 4, .c 7 5, .c 7 6, .c 7 7, .t 0, .t 1, .t 2, .t 8, .t 14, .t 15, .t 16])], [(0, [.b 7 8, .c 7 0, .c 7 1, .c 7 2, .c 7 3, .c 7 4, .c 7 5, .c 7 6, .c 7 7, .t 0, .t 1, .t 2, .t 8]), (1, [.b 7 8, .c 7 0, .c 7 1, .c 7 2, .c 7 3, .c 7 4, .c 7 5, .c 7 6, .c 7 7, .t 0, .t 1, .t 2, .t 8, .t 14, .t 15, .t 16]), (2, [.b 7 8, .c 7 0, .c 7 1, .c 7 2, .c 7 3, .c 7 4, .c 7 5, .c 7 6, .c 7 7, .t 0, .t 1, .t 2, .t 8]), (3, [.b 7 8, .c 7 0, .c 7 1, .c 7 2, .c 7 3, .c 7 4, .c 7 5, .c 7 6, .c 7 7, .t 0, .t 1, .t 2, .t 8, .t 29, .t 30, .t 31])], [(0, [.b 7 8, .c 7 0, .c 7 1, .c 7 2, .c 7 3, .c 7 4, .c 7 5, .c 7 6, .c 7 7, .t 0, .t 1, .t 2, .t 8, .t 14, .t 15, .t 16]), (2, [.b 7 8, .c 7 0, .c 7 1, .c 7 2, .c 7 3, .c 7 4, .c 7 5, .c 7 6, .c 7 7, .t 0, .t 1, .t 2, .t 8, .t 29, .t 30, .t 31])], Tryz.f161.results.toList, PU, Tryz.f161.ntmps, []⟩ 4 (Tryz.f161.body.getD .skip) = f161 := by kernel_rfl
theorem f162_den : denF ⟨TT, [], [(800002, [.t 0, .t 1]), (1900004, [])], [], [], Tryz.f162.results.toList, PU, Tryz.f162.ntmps, []⟩ 2 (Tryz.f162.body.getD .skip) = f162 := by kernel_rfl
theorem f163_den : denF ⟨TT, [1], [], [], [], Tryz.f163.results.toList, PU, Tryz.f163.ntmps, []⟩ 1 (Tryz.f163.body.getD .skip) = f163 := by kernel_rfl
theorem f164_den : denF ⟨TT, [4, 5, 7], [(1800006, [.b 4 2, .b 5 4, .b 7 6, .c 4 0, .c 5 0, .c 5 1, .c 5 2, .c 7 1, .t 2, .t 10, .t 18]), (1800007, [.b 4 2, .b 5 4, .b 7 6, .c 4 0, .c 5 0, .c 5 1, .c 5 2, .c 7 1, .t 2, .t 10, .t 18]), (4800014, [.b 4 2, .b 5 4, .b 7 6, .c 4 0, .c 5 2, .c 7 1, .t 2, .t 10, .t 48]), (4800015, [.b 4 2, .b 5 4, .b 7 6, .c 4 0, .c 5 2, .c 7 1, .t 2, .t 10, .t 48]), (6300020, [.b 4 2, .b 7 6, .c 4 0, .c 7 1, .t 2, .t 10, .t 63]), (9600025, [.b 7 6, .c 7 1, .t 96])], [(0, [])], [], Tryz.f164.results.toList, PU, Tryz.f164.ntmps, []⟩ 4 (Tryz.f164.body.getD .skip) = f164 := by kernel_rfl
theorem f165_den : denF ⟨TT, [2, 3], [(800004, [.b 2 2, .b 3 6, .c 2 0, .c 3 1, .t 7, .t 8]), (800005, [.b 2 2, .b 3 6, .c 2 0, .c 3 1, .t 7, .t 8]), (800006, [.b 2 2, .b 3 6, .c 2 0, .c 3 1, .t 7, .t 8]), (800007, [.b 2 2, .b 3 6, .c 2 0, .c 3 1, .t 7, .t 8]), (800008, [.b 2 2, .b 3 6, .c 2 0, .c 3 1, .t 7, .t 8]), (1500011, [.b 2 2, .b 3 6, .c 2 0, .c 3 1, .t 7, .t 15]), (1800014, [.b 2 2, .b 3 6, .c 2 0, .c 3 1, .t 7, .t 18]), (1800015, [.b 2 2, .b 3 6, .c 2 0, .c 3 1, .t 7, .t 18]), (1800016, [.b 2 2, .b 3 6, .c 2 0, .c 3 1, .t 7, .t 18]), (4000023, [.t 40]), (4000024, [.t 40])], [(0, [])], [], Tryz.f165.results.toList, PU, Tryz.f165.ntmps, []⟩ 2 (Tryz.f165.body.getD .skip) = f165 := by kernel_rfl
theorem f166_den : denF ⟨TT, [], [], [], [], Tryz.f166.results.toList, PU, Tryz.f166.ntmps, []⟩ 1 (Tryz.f166.body.getD .skip) = f166 := by kernel_rfl
theorem f167_den : denF ⟨TT, [1], [(1800008, [.b 1 6, .c 1 0, .c 1 1, .t 18])], [(0, [.b 1 6, .c 1 0, .c 1 1])], [], Tryz.f167.results.toList, PU, Tryz.f167.ntmps, []⟩ 1 (Tryz.f167.body.getD .skip) = f167 := by kernel_rfl
theorem f168_den : denF ⟨TT, [5, 6, 11, 12], [(1500004, []), (2600006, []), (3100008, []), (3900010, []), (5100012, []), (6300014, []), (7600016, []), (8900018, []), (10200020, []), (11500022, []), (12700024, []), (13800025, []), (15800027, []), (16300028, []), (19900032, [.b 5 6, .c 5 0, .c 5 1, .t 0, .t 1, .t 14, .t 199]), (19900033, []), (22100035, []), (22800037, [.b 5 6, .c 5 0, .c 5 1, .t 0, .t 1, .t 14, .t 228]), (22800038, []), (23800041, [.t 0, .t 9, .t 10]), (26000044, []), (26900046, []), (29200050, []), (29900052, []), (31200054, []), (31800056, [])], [(0, [])], [], Tryz.f168.results.toList, PU, Tryz.f168.ntmps, []⟩ 3 (Tryz.f168.body.getD .skip) = f168 := by kernel_rfl
theorem f170_den : denF ⟨TT, [], [], [(0, []), (1, [.t 0, .t 3])], [(0, [.t 0, .t 3])], Tryz.f170.results.toList, PU, Tryz.f170.ntmps, []⟩ 1 (Tryz.f170.body.getD .skip) = f170 := by kernel_rfl
theorem f173_den : denF ⟨TT, [3, 8], [], [(0, []), (1, [.t 1, .t 2, .t 36, .t 37, .t 38])], [(0, [.t 1, .t 2, .t 36, .t 37, .t 38])], Tryz.f173.results.toList, PU, Tryz.f173.ntmps, []⟩ 3 (Tryz.f173.body.getD .skip) = f173 := by kernel_rfl
theorem f176_den : denF ⟨TT, [3, 4, 6, 8], [], [(0, [.b 4 3, .b 6 3, .c 6 0, .c 6 1, .c 6 2]), (1, [.b 4 3, .b 6 3, .c 6 0, .c 6 1, .c 6 2, .t 45, .t 46, .t 47])], [(0, [.b 4 3, .b 6 3, .c 6 0, .c 6 1, .c 6 2, .t 45, .t 46, .t 47])], Tryz.f176.results.toList, PU, Tryz.f176.ntmps, []⟩ 2 (Tryz.f176.body.getD .skip) = f176 := by kernel_rfl
theorem f177_den : denF ⟨TT, [1, 2, 3, 5], [], [(0, [.b 2 5, .b 3 5, .c 3 0, .c 3 1, .c 3 2, .c 3 3, .c 3 4]), (1, [.b 2 5, .b 3 5, .c 3 0, .c 3 1, .c 3 2, .c 3 3, .c 3 4, .t 14, .t 15, .t 16])], [(0, [.b 2 5, .b 3 5, .c 3 0, .c 3 1, .c 3 2, .c 3 3, .c 3 4, .t 14, .t 15, .t 16])], Tryz.f177.results.toList, PU, Tryz.f177.ntmps, []⟩ 1 (Tryz.f177.body.getD .skip) = f177 := by kernel_rfl
theorem f178_den : denF ⟨TT, [4, 5], [], [], [], Tryz.f178.results.toList, PU, Tryz.f178.ntmps, []⟩ 3 (Tryz.f178.body.getD .skip) = f178 := by kernel_rfl
theorem f179_den : denF ⟨TT, [], [], [], [], Tryz.f179.results.toList, PU, Tryz.f179.ntmps, []⟩ 1 (Tryz.f179.body.getD .skip) = f179 := by kernel_rfl
theorem f180_den : denF ⟨TT, [], [], [(0, []), (1, [.t 0, .t 3])], [(0, [.t 0, .t 3])], Tryz.f180.results.toList, PU, Tryz.f180.ntmps, []⟩ 1 (Tryz.f180.body.getD .skip) = f180 := by kernel_rfl
theorem f181_den : denF ⟨TT, [1, 2], [], [], [], Tryz.f181.results.toList, PU, Tryz.f181.ntmps, []⟩ 1 (Tryz.f181.body.getD .skip) = f181 := by kernel_rfl
theorem f182_den : denF ⟨TT, [1, 4, 6], [], [(0, [.b 1 5, .c 1 0, .c 1 1, .c 1 2, .c 1 3]), (1, [.b 1 5, .c 1 0, .c 1 1, .c 1 2, .c 1 3, .t 48, .t 49, .t 50]), (2, []), (3, [.b 1 5, .c 1 1, .c 1 2, .c 1 3, .t 66, .t 67, .t 68])], [(0, [.b 1 5, .c 1 0, .c 1 1, .c 1 2, .c 1 3, .t 48, .t 49, .t 50]), (2, [.b 1 5, .c 1 1, .c 1 2, .c 1 3, .t 66, .t 67, .t 68])], Tryz.f182.results.toList, PU, Tryz.f182.ntmps, []⟩ 1 (Tryz.f182.body.getD .skip) = f182 := by kernel_rfl
theorem f183_den : denF ⟨TT, [], [], [], [], Tryz.f183.results.toList, PU, Tryz.f183.ntmps, []⟩ 1 (Tryz.f183.body.getD .skip) = f183 := by kernel_rfl
theorem f184_den : denF ⟨TT, [1, 2, 3, 5], [], [(0, [.b 2 5, .b 3 5, .c 3 0, .c 3 1, .c 3 2, .c 3 3, .c 3 4]), (1, [.b 2 5, .b 3 5, .c 3 0, .c 3 1, .c 3 2, .c 3 3, .c 3 4, .t 17, .t 18, .t 19])], [(0, [.b 2 5, .b 3 5, .c 3 0, .c 3 1, .c 3 2, .c 3 3, .c 3 4, .t 17, .t 18, .t 19])], Tryz.f184.results.toList, PU, Tryz.f184.ntmps, []⟩ 1 (Tryz.f184.body.getD .skip) = f184 := by kernel_rfl
theorem f185_den : denF ⟨TT, [1, 2], [], [], [], Tryz.f185.results.toList, PU, Tryz.f185.ntmps, []⟩ 1 (Tryz.f185.body.getD .skip) = f185 := by kernel_rfl
theorem f186_den : denF ⟨TT, [], [], [], [], Tryz.f186.results.toList, PU, Tryz.f186.ntmps, []⟩ 2 (Tryz.f186.body.getD .skip) = f186 := by kernel_rfl
theorem f187_den : denF ⟨TT, [6, 12, 13, 14], [], [(0, []), (1, [.t 0, .t 1, .t 3, .t 17, .t 18, .t 19]), (2, [.t 0, .t 1, .t 3, .t 17, .t 18, .t 19]), (3, [.t 0, .t 1, .t 3, .t 10, .t 17, .t 18, .t 19, .t 26, .t 27, .t 28])], [(0, [.t 0, .t 1, .t 3, .t 17, .t 18, .t 19]), (2, [.t 0, .t 1, .t 3, .t 10, .t 17, .t 18, .t 19, .t 26, .t 27, .t 28])], Tryz.f187.results.toList, PU, Tryz.f187.ntmps, []⟩ 4 (Tryz.f187.body.getD .skip) = f187 := by kernel_rfl
theorem f188_den : denF ⟨TT, [2, 4], [], [], [], Tryz.f188.results.toList, PU, Tryz.f188.ntmps, []⟩ 2 (Tryz.f188.body.getD .skip) = f188 := by kernel_rfl
theorem f189_den : denF ⟨TT, [8, 11, 15, 17], [(5800019, [.b 8 5, .c 8 0, .c 8 1, .c 8 2, .c 8 3, .c 8 4, .t 0, .t 6, .t 7, .t 14]), (6900023, [.t 0, .t 6, .t 7]), (7700025, [.t 0, .t 6, .t 7]), (9200030, [.t 0, .t 6, .t 7])], [(0, [.t 6]), (1, [.t 0, .t 6, .t 7]), (2, [.t 0, .t 6, .t 7])], [(0, [.t 0, .t 6, .t 7])], Tryz.f189.results.toList, PU, Tryz.f189.ntmps, []⟩ 2 (Tryz.f189.body.getD .skip) = f189 := by kernel_rfl
theorem f190_den : denF ⟨TT, [10, 11], [(2100010, [.b 10 9, .b 11 8, .c 10 0, .c 10 1, .c 11 0, .c 11 1, .c 11 2, .c 11 3, .c 11 4, .c 11 5, .c 11 6, .c 11 7, .t 0, .t 7, .t 8, .t 12, .t 13, .t 14, .t 15]), (4200015, [.b 11 8, .c 11 0, .c 11 1, .c 11 2, .c 11 3, .c 11 4, .c 11 5, .c 11 6, .c 11 7, .t 0, .t 7, .t 8, .t 13, .t 14, .t 15])], [(0, [.t 7, .t 8]), (1, [.t 0, .t 7, .t 8, .t 13, .t 14, .t 15])], [(0, [.t 0, .t 7, .t 8, .t 13, .t 14, .t 15])], Tryz.f190.results.toList, PU, Tryz.f190.ntmps, []⟩ 2 (Tryz.f190.body.getD .skip) = f190 := by kernel_rfl
theorem f191_den : denF ⟨TT, [3, 4, 8, 10], [(4500007, [.b 3 5, .b 4 4, .c 3 2, .c 3 3, .t 0, .t 6, .t 11, .t 12, .t 13])], [(0, [.b 3 5, .b 4 4, .c 3 2, .c 3 3, .t 0, .t 6]), (1, [.b 3 5, .b 4 4, .c 3 2, .c 3 3, .t 0, .t 6, .t 11, .t 12, .t 13]), (2, [.b 4 4, .t 0, .t 6]), (3, [.b 3 5, .b 4 4, .c 3 2, .c 3 3, .t 0, .t 6, .t 51, .t 52, .t 53])], [(0, [.b 3 5, .b 4 4, .c 3 2, .c 3 3, .t 0, .t 6, .t 11, .t 12, .t 13]), (2, [.b 3 5, .b 4 4, .c 3 2, .c 3 3, .t 0, .t 6, .t 51, .t 52, .t 53])], Tryz.f191.results.toList, PU, Tryz.f191.ntmps, []⟩ 2 (Tryz.f191.body.getD .skip) = f191 := by kernel_rfl
theorem f192_den : denF ⟨TT, [2], [], [], [], Tryz.f192.results.toList, PU, Tryz.f192.ntmps, []⟩ 2 (Tryz.f192.body.getD .skip) = f192 := by kernel_rfl
theorem f193_den : denF ⟨TT, [1, 5], [], [(0, [.t 3]), (1, [.t 3, .t 7, .t 8, .t 9])], [(0, [.t 3, .t 7, .t 8, .t 9])], Tryz.f193.results.toList, PU, Tryz.f193.ntmps, []⟩ 1 (Tryz.f193.body.getD .skip) = f193 := by kernel_rfl
theorem f194_den : denF ⟨TT, [1, 5], [], [(0, [.t 3]), (1, [.t 3, .t 7, .t 8, .t 9])], [(0, [.t 3, .t 7, .t 8, .t 9])], Tryz.f194.results.toList, PU, Tryz.f194.ntmps, []⟩ 1 (Tryz.f194.body.getD .skip) = f194 := by kernel_rfl
theorem f195_den : denF ⟨TT, [1], [], [], [], Tryz.f195.results.toList, PU, Tryz.f195.ntmps, []⟩ 1 (Tryz.f195.body.getD .skip) = f195 := by kernel_rfl
theorem f197_den : denF ⟨TT, [], [], [], [], Tryz.f197.results.toList, PU, Tryz.f197.ntmps, []⟩ 3 (Tryz.f197.body.getD .skip) = f197 := by kernel_rfl
theorem f198_den : denF ⟨TT, [2], [], [], [], Tryz.f198.results.toList, PU, Tryz.f198.ntmps, []⟩ 2 (Tryz.f198.body.getD .skip) = f198 := by kernel_rfl
theorem f200_den : denF ⟨TT, [], [], [(0, []), (1, [.t 1, .t 7, .t 8, .t 9])], [(0, [.t 1, .t 7, .t 8, .t 9])], Tryz.f200.results.toList, PU, Tryz.f200.ntmps, []⟩ 2 (Tryz.f200.body.getD .skip) = f200 := by kernel_rfl
theorem f201_den : denF ⟨TT, [1], [], [], [], Tryz.f201.results.toList, PU, Tryz.f201.ntmps, []⟩ 1 (Tryz.f201.body.getD .skip) = f201 := by kernel_rfl
theorem f202_den : denF ⟨TT, [], [], [(0, []), (1, [.t 0, .t 3])], [(0, [.t 0, .t 3])], Tryz.f202.results.toList, PU, Tryz.f202.ntmps, []⟩ 1 (Tryz.f202.body.getD .skip) = f202 := by kernel_rfl
theorem f203_den : denF ⟨TT, [], [], [(0, []), (1, [.t 0, .t 1, .t 12, .t 13])], [(0, [.t 0, .t 1, .t 12, .t 13])], Tryz.f203.results.toList, PU, Tryz.f203.ntmps, []⟩ 2 (Tryz.f203.body.getD .skip) = f203 := by kernel_rfl
theorem f204_den : denF ⟨TT, [1], [], [], [], Tryz.f204.results.toList, PU, Tryz.f204.ntmps, []⟩ 1 (Tryz.f204.body.getD .skip) = f204 := by kernel_rfl
theorem f205_den : denF ⟨TT, [3, 6], [], [(0, []), (1, [.b 3 5, .c 3 0, .c 3 1, .c 3 2, .c 3 3, .c 3 4, .t 7, .t 8, .t 9])], [(0, [.b 3 5, .c 3 0, .c 3 1, .c 3 2, .c 3 3, .c 3 4, .t 7, .t 8, .t 9])], Tryz.f205.results.toList, PU, Tryz.f205.ntmps, []⟩ 2 (Tryz.f205.body.getD .skip) = f205 := by kernel_rfl
theorem f206_den : denF ⟨TT, [3, 6], [], [(0, []), (1, [.b 3 5, .c 3 0, .c 3 1, .c 3 2, .c 3 3, .c 3 4, .t 7, .t 8, .t 9])], [(0, [.b 3 5, .c 3 0, .c 3 1, .c 3 2, .c 3 3, .c 3 4, .t 7, .t 8, .t 9])], Tryz.f206.results.toList, PU, Tryz.f206.ntmps, []⟩ 2 (Tryz.f206.body.getD .skip) = f206 := by kernel_rfl
theorem f207_den : denF ⟨TT, [6], [], [(0, [.t 4]), (1, [.t 4, .t 7, .t 8, .t 9])], [(0, [.t 4, .t 7, .t 8, .t 9])], Tryz.f207.results.toList, PU, Tryz.f207.ntmps, []⟩ 1 (Tryz.f207.body.getD .skip) = f207 := by kernel_rfl
theorem f208_den : denF ⟨TT, [4, 10], [(6000011, [.b 4 5, .b 10 5, .c 4 4, .c 10 0, .c 10 1, .c 10 2, .c 10 3, .c 10 4, .t 0, .t 2, .t 8, .t 9])], [(0, []), (1, [.b 4 5, .c 4 4, .t 0, .t 2, .t 8])], [(0, [.b 4 5, .c 4 4, .t 0, .t 2, .t 8])], Tryz.f208.results.toList, PU, Tryz.f208.ntmps, []⟩ 3 (Tryz.f208.body.getD .skip) = f208 := by kernel_rfl
theorem f209_den : denF ⟨TT, [], [], [], [], Tryz.f209.results.toList, PU, Tryz.f209.ntmps, []⟩ 1 (Tryz.f209.body.getD .skip) = f209 := by kernel_rfl
theorem f210_den : denF ⟨TT, [3, 7], [(2600007, [.b 3 5, .c 3 2, .c 3 3, .t 5, .t 9, .t 10, .t 11])], [(0, [.t 5]), (1, [.b 3 5, .c 3 2, .c 3 3, .t 5, .t 9, .t 10, .t 11])], [(0, [.b 3 5, .c 3 2, .c 3 3, .t 5, .t 9, .t 10, .t 11])], Tryz.f210.results.toList, PU, Tryz.f210.ntmps, []⟩ 2 (Tryz.f210.body.getD .skip) = f210 := by kernel_rfl
theorem f211_den : denF ⟨TT, [], [], [(0, []), (1, [.t 1, .t 7, .t 8, .t 9])], [(0, [.t 1, .t 7, .t 8, .t 9])], Tryz.f211.results.toList, PU, Tryz.f211.ntmps, []⟩ 2 (Tryz.f211.body.getD .skip) = f211 := by kernel_rfl
theorem f220_den : denF ⟨TT, [], [], [], [], Tryz.f220.results.toList, PU, Tryz.f220.ntmps, []⟩ 1 (Tryz.f220.body.getD .skip) = f220 := by kernel_rfl
theorem f221_den : denF ⟨TT, [], [(1400004, [.t 0, .t 4]), (4700015, [.t 0, .t 5])], [(0, [.t 0, .t 4, .t 5]), (1, [.t 0, .t 4, .t 5, .t 6])], [(0, [.t 0, .t 4, .t 5, .t 6])], Tryz.f221.results.toList, PU, Tryz.f221.ntmps, []⟩ 1 (Tryz.f221.body.getD .skip) = f221 := by kernel_rfl
theorem f222_den : denF ⟨TT, [2], [], [], [], Tryz.f222.results.toList, PU, Tryz.f222.ntmps, []⟩ 1 (Tryz.f222.body.getD .skip) = f222 := by kernel_rfl
theorem f223_den : denF ⟨TT, [2], [], [], [], Tryz.f223.results.toList, PU, Tryz.f223.ntmps, []⟩ 1 (Tryz.f223.body.getD .skip) = f223 := by kernel_rfl
theorem f224_den : denF ⟨TT, [3], [], [], [], Tryz.f224.results.toList, PU, Tryz.f224.ntmps, [(3, [2, 3, 0, 1, 4, 5, 6, 7])]⟩ 2 (Tryz.f224.body.getD .skip) = f224 := by kernel_rfl
theorem f225_den : denF ⟨TT, [], [], [(0, []), (1, [.t 1, .t 7, .t 8, .t 9])], [(0, [.t 1, .t 7, .t 8, .t 9])], Tryz.f225.results.toList, PU, Tryz.f225.ntmps, []⟩ 2 (Tryz.f225.body.getD .skip) = f225 := by kernel_rfl
theorem f226_den : denF ⟨TT, [], [], [(0, []), (1, [.t 1, .t 7, .t 8, .t 9])], [(0, [.t 1, .t 7, .t 8, .t 9])], Tryz.f226.results.toList, PU, Tryz.f226.ntmps, []⟩ 2 (Tryz.f226.body.getD .skip) = f226 := by kernel_rfl
theorem f227_den : denF ⟨TT, [1, 2, 3, 5], [], [(0, [.b 2 4, .b 3 4, .c 3 0, .c 3 1, .c 3 2, .c 3 3]), (1, [.b 2 4, .b 3 4, .c 3 0, .c 3 1, .c 3 2, .c 3 3, .t 14, .t 15, .t 16])], [(0, [.b 2 4, .b 3 4, .c 3 0, .c 3 1, .c 3 2, .c 3 3, .t 14, .t 15, .t 16])], Tryz.f227.results.toList, PU, Tryz.f227.ntmps, []⟩ 1 (Tryz.f227.body.getD .skip) = f227 := by kernel_rfl
theorem f228_den : denF ⟨TT, [2, 3], [], [(0, []), (1, [.b 2 4, .b 3 4, .c 2 3, .c 3 3, .t 36, .t 37])], [(0, [.b 2 4, .b 3 4, .c 2 3, .c 3 3, .t 36, .t 37])], Tryz.f228.results.toList, PU, Tryz.f228.ntmps, []⟩ 2 (Tryz.f228.body.getD .skip) = f228 := by kernel_rfl
theorem f229_den : denF ⟨TT, [], [], [], [], Tryz.f229.results.toList, PU, Tryz.f229.ntmps, []⟩ 0 (Tryz.f229.body.getD .skip) = f229 := by kernel_rfl
theorem f230_den : denF ⟨TT, [], [], [], [], Tryz.f230.results.toList, PU, Tryz.f230.ntmps, []⟩ 1 (Tryz.f230.body.getD .skip) = f230 := by kernel_rfl
theorem f231_den : denF ⟨TT, [1], [], [], [], Tryz.f231.results.toList, PU, Tryz.f231.ntmps, []⟩ 1 (Tryz.f231.body.getD .skip) = f231 := by kernel_rfl
theorem f232_den : denF ⟨TT, [3, 4, 6], [], [], [], Tryz.f232.results.toList, PU, Tryz.f232.ntmps, []⟩ 2 (Tryz.f232.body.getD .skip) = f232 := by kernel_rfl
theorem f233_den : denF ⟨TT, [3], [], [], [], Tryz.f233.results.toList, PU, Tryz.f233.ntmps, []⟩ 2 (Tryz.f233.body.getD .skip) = f233 := by kernel_rfl
theorem f234_den : denF ⟨TT, [5], [], [], [], Tryz.f234.results.toList, PU, Tryz.f234.ntmps, []⟩ 3 (Tryz.f234.body.getD .skip) = f234 := by kernel_rfl
theorem f235_den : denF ⟨TT, [5, 6], [], [], [], Tryz.f235.results.toList, PU, Tryz.f235.ntmps, []⟩ 3 (Tryz.f235.body.getD .skip) = f235 := by kernel_rfl
theorem f236_den : denF ⟨TT, [3], [], [], [], Tryz.f236.results.toList, PU, Tryz.f236.ntmps, []⟩ 2 (Tryz.f236.body.getD .skip) = f236 := by kernel_rfl
theorem f237_den : denF ⟨TT, [], [], [], [], Tryz.f237.results.toList, PU, Tryz.f237.ntmps, []⟩ 2 (Tryz.f237.body.getD .skip) = f237 := by kernel_rfl
theorem f238_den : denF ⟨TT, [], [], [], [], Tryz.f238.results.toList, PU, Tryz.f238.ntmps, []⟩ 2 (Tryz.f238.body.getD .skip) = f238 := by kernel_rfl
theorem f239_den : denF ⟨TT, [], [], [(0, [.t 0, .t 2, .t 6, .t 7]), (1, [.t 0, .t 2, .t 6, .t 7]), (2, [.t 0, .t 2, .t 6, .t 7, .t 8]), (3, [.t 0, .t 2, .t 6, .t 7, .t 8, .t 61, .t 62, .t 63])], [(0, [.t 0, .t 2, .t 6, .t 7]), (2, [.t 0, .t 2, .t 6, .t 7, .t 8, .t 61, .t 62, .t 63])], Tryz.f239.results.toList, PU, Tryz.f239.ntmps, []⟩ 3 (Tryz.f239.body.getD .skip) = f239 := by kernel_rfl
theorem f240_den : denF ⟨TT, [], [], [], [], Tryz.f240.results.toList, PU, Tryz.f240.ntmps, []⟩ 1 (Tryz.f240.body.getD .skip) = f240 := by kernel_rfl
theorem f241_den : denF ⟨TT, [5, 9, 12, 13], [(2800007, []), (6500012, []), (10600023, []), (11100025, [])], [(0, []), (1, [.b 5 4, .c 5 1, .t 0, .t 10]), (2, [.b 5 4, .c 5 1, .t 0, .t 10, .t 79, .t 80, .t 81]), (3, [.t 0, .t 2]), (4, [.t 0, .t 2, .t 129, .t 130, .t 131])], [(1, [.b 5 4, .c 5 1, .t 0, .t 10, .t 79, .t 80, .t 81]), (3, [.t 0, .t 2, .t 129, .t 130, .t 131])], Tryz.f241.results.toList, PU, Tryz.f241.ntmps, []⟩ 4 (Tryz.f241.body.getD .skip) = f241 := by kernel_rfl
theorem f242_den : denF ⟨TT, [3], [(1600005, [])], [], [], Tryz.f242.results.toList, PU, Tryz.f242.ntmps, []⟩ 2 (Tryz.f242.body.getD .skip) = f242 := by kernel_rfl
theorem f243_den : denF ⟨TT, [1], [], [], [], Tryz.f243.results.toList, PU, Tryz.f243.ntmps, []⟩ 1 (Tryz.f243.body.getD .skip) = f243 := by kernel_rfl
theorem f249_den : denF ⟨TT, [], [], [(0, [])], [], Tryz.f249.results.toList, PU, Tryz.f249.ntmps, []⟩ 4 (Tryz.f249.body.getD .skip) = f249 := by kernel_rfl
theorem f252_den : denF ⟨TT, [3, 5], [], [], [], Tryz.f252.results.toList, PU, Tryz.f252.ntmps, []⟩ 2 (Tryz.f252.body.getD .skip) = f252 := by kernel_rfl
theorem f253_den : denF ⟨TT, [5], [], [(0, [.t 3]), (1, [.t 3, .t 6, .t 7, .t 8])], [(0, [.t 3, .t 6, .t 7, .t 8])], Tryz.f253.results.toList, PU, Tryz.f253.ntmps, []⟩ 1 (Tryz.f253.body.getD .skip) = f253 := by kernel_rfl
theorem f254_den : denF ⟨TT, [1, 2], [], [], [], Tryz.f254.results.toList, PU, Tryz.f254.ntmps, []⟩ 1 (Tryz.f254.body.getD .skip) = f254 := by kernel_rfl
theorem f255_den : denF ⟨TT, [1, 5], [], [(0, [.t 3]), (1, [.b 1 3, .c 1 0, .c 1 2, .t 3, .t 34, .t 35, .t 36])], [(0, [.b 1 3, .c 1 0, .c 1 2, .t 3, .t 34, .t 35, .t 36])], Tryz.f255.results.toList, PU, Tryz.f255.ntmps, []⟩ 1 (Tryz.f255.body.getD .skip) = f255 := by kernel_rfl
theorem f256_den : denF ⟨TT, [8], [], [(0, []), (1, [.t 1, .t 2, .t 9, .t 10, .t 11])], [(0, [.t 1, .t 2, .t 9, .t 10, .t 11])], Tryz.f256.results.toList, PU, Tryz.f256.ntmps, []⟩ 3 (Tryz.f256.body.getD .skip) = f256 := by kernel_rfl
theorem f257_den : denF ⟨TT, [1, 2], [], [], [], Tryz.f257.results.toList, PU, Tryz.f257.ntmps, []⟩ 1 (Tryz.f257.body.getD .skip) = f257 := by kernel_rfl
theorem f258_den : denF ⟨TT, [], [], [], [], Tryz.f258.results.toList, PU, Tryz.f258.ntmps, []⟩ 1 (Tryz.f258.body.getD .skip) = f258 := by kernel_rfl
theorem f259_den : denF ⟨TT, [], [(1800006, [.t 18]), (1800007, [.t 18]), (1800008, [.t 18]), (1800009, [.t 18]), (1800010, [.t 18]), (1800011, [.t 18]), (1800012, [.t 18]), (1800013, [.t 18]), (1800014, [.t 18]), (1800015, [.t 18])], [(0, [])], [], Tryz.f259.results.toList, PU, Tryz.f259.ntmps, []⟩ 1 (Tryz.f259.body.getD .skip) = f259 := by kernel_rfl
theorem f260_den : denF ⟨TT, [2], [], [], [], Tryz.f260.results.toList, PU, Tryz.f260.ntmps, []⟩ 1 (Tryz.f260.body.getD .skip) = f260 := by kernel_rfl
theorem f261_den : denF ⟨TT, [2, 3], [], [(0, [.b 2 4, .b 3 4, .c 3 0, .c 3 1, .c 3 2, .c 3 3]), (1, [.b 2 4, .b 3 4, .c 3 0, .c 3 1, .c 3 2, .c 3 3, .t 6, .t 7, .t 8])], [(0, [.b 2 4, .b 3 4, .c 3 0, .c 3 1, .c 3 2, .c 3 3, .t 6, .t 7, .t 8])], Tryz.f261.results.toList, PU, Tryz.f261.ntmps, []⟩ 1 (Tryz.f261.body.getD .skip) = f261 := by kernel_rfl
theorem f262_den : denF ⟨TT, [5], [], [(0, []), (1, [.t 0, .t 3, .t 12, .t 13, .t 14]), (2, [.b 5 4, .c 5 0, .t 0, .t 3, .t 4, .t 12, .t 13, .t 14]), (3, [.b 5 4, .c 5 0, .c 5 1, .t 0, .t 3, .t 4, .t 12, .t 13, .t 14, .t 25, .t 26, .t 27])], [(0, [.t 0, .t 3, .t 12, .t 13, .t 14]), (2, [.b 5 4, .c 5 0, .c 5 1, .t 0, .t 3, .t 4, .t 12, .t 13, .t 14, .t 25, .t 26, .t 27])], Tryz.f262.results.toList, PU, Tryz.f262.ntmps, []⟩ 1 (Tryz.f262.body.getD .skip) = f262 := by kernel_rfl
theorem f263_den : denF ⟨TT, [2], [], [], [], Tryz.f263.results.toList, PU, Tryz.f263.ntmps, []⟩ 2 (Tryz.f263.body.getD .skip) = f263 := by kernel_rfl
theorem f264_den : denF ⟨TT, [5], [], [(0, [.t 3]), (1, [.t 3, .t 6, .t 7, .t 8])], [(0, [.t 3, .t 6, .t 7, .t 8])], Tryz.f264.results.toList, PU, Tryz.f264.ntmps, []⟩ 1 (Tryz.f264.body.getD .skip) = f264 := by kernel_rfl
theorem f265_den : denF ⟨TT, [], [], [(0, []), (1, [.t 0, .t 1, .t 5])], [(0, [.t 0, .t 1, .t 5])], Tryz.f265.results.toList, PU, Tryz.f265.ntmps, []⟩ 2 (Tryz.f265.body.getD .skip) = f265 := by kernel_rfl
theorem f266_den : denF ⟨TT, [2, 4, 5, 7], [(2000004, [.b 2 5, .b 4 5, .b 5 5, .c 2 4, .c 5 0, .c 5 1, .c 5 2, .c 5 3, .c 5 4, .t 1])], [(0, [.b 4 5, .b 5 5, .c 5 0, .c 5 1, .c 5 2, .c 5 3, .c 5 4]), (1, [.b 4 5, .b 5 5, .c 5 0, .c 5 1, .c 5 2, .c 5 3, .c 5 4, .t 1, .t 27, .t 28, .t 29])], [(0, [.b 4 5, .b 5 5, .c 5 0, .c 5 1, .c 5 2, .c 5 3, .c 5 4, .t 1, .t 27, .t 28, .t 29])], Tryz.f266.results.toList, PU, Tryz.f266.ntmps, []⟩ 2 (Tryz.f266.body.getD .skip) = f266 := by kernel_rfl
theorem f267_den : denF ⟨TT, [], [], [], [], Tryz.f267.results.toList, PU, Tryz.f267.ntmps, []⟩ 2 (Tryz.f267.body.getD .skip) = f267 := by kernel_rfl
theorem f268_den : denF ⟨TT, [], [(2100008, [.t 1, .t 5, .t 6, .t 8, .t 9, .t 10, .t 11]), (2400010, [.t 1, .t 5, .t 6, .t 8, .t 9, .t 10, .t 11]), (3500014, [.t 5])], [(0, [.t 1, .t 5, .t 6]), (1, [.t 1, .t 5, .t 6, .t 9, .t 10, .t 11])], [(0, [.t 1, .t 5, .t 6, .t 9, .t 10, .t 11])], Tryz.f268.results.toList, PU, Tryz.f268.ntmps, []⟩ 2 (Tryz.f268.body.getD .skip) = f268 := by kernel_rfl
theorem f269_den : denF ⟨TT, [], [], [], [], Tryz.f269.results.toList, PU, Tryz.f269.ntmps, []⟩ 1 (Tryz.f269.body.getD .skip) = f269 := by kernel_rfl
theorem f270_den : denF ⟨TT, [3, 5], [], [], [], Tryz.f270.results.toList, PU, Tryz.f270.ntmps, []⟩ 2 (Tryz.f270.body.getD .skip) = f270 := by kernel_rfl
theorem f271_den : denF ⟨TT, [4, 6, 11], [], [], [], Tryz.f271.results.toList, PU, Tryz.f271.ntmps, []⟩ 3 (Tryz.f271.body.getD .skip) = f271 := by kernel_rfl
theorem f272_den : denF ⟨TT, [3], [], [], [], Tryz.f272.results.toList, PU, Tryz.f272.ntmps, []⟩ 2 (Tryz.f272.body.getD .skip) = f272 := by kernel_rfl
theorem f273_den : denF ⟨TT, [], [], [], [], Tryz.f273.results.toList, PU, Tryz.f273.ntmps, []⟩ 0 (Tryz.f273.body.getD .skip) = f273 := by kernel_rfl
theorem f274_den : denF ⟨TT, [3, 4, 6, 7], [(2100008, [.b 4 9, .b 6 9, .b 7 5, .c 6 0, .c 6 2, .c 6 3, .c 6 4, .c 6 5, .c 6 6, .c 6 7, .c 6 8, .c 7 0, .c 7 1, .c 7 2, .c 7 3, .c 7 4, .t 0])], [(0, [.b 4 9, .b 6 9, .b 7 5, .c 6 0, .c 6 2, .c 6 3, .c 6 4, .c 6 5, .c 6 6, .c 6 7, .c 6 8, .c 7 0, .c 7 1, .c 7 2, .c 7 3, .c 7 4, .t 0])], [], Tryz.f274.results.toList, PU, Tryz.f274.ntmps, []⟩ 2 (Tryz.f274.body.getD .skip) = f274 := by kernel_rfl
theorem f275_den : denF ⟨TT, [], [(1900009, [.t 3, .t 11, .t 12, .t 13])], [(0, [.t 3]), (1, [.t 3, .t 11, .t 12, .t 13])], [(0, [.t 3, .t 11, .t 12, .t 13])], Tryz.f275.results.toList, PU, Tryz.f275.ntmps, []⟩ 1 (Tryz.f275.body.getD .skip) = f275 := by kernel_rfl
theorem f276_den : denF ⟨TT, [8, 13], [], [], [], Tryz.f276.results.toList, PU, Tryz.f276.ntmps, []⟩ 4 (Tryz.f276.body.getD .skip) = f276 := by kernel_rfl
theorem f277_den : denF ⟨TT, [3, 4, 7, 10], [(4800017, [.b 3 5, .b 4 8, .c 3 0, .c 3 1, .c 3 2, .c 3 3, .c 3 4, .t 0, .t 48]), (4800018, [.b 3 5, .b 4 8, .c 3 0, .c 3 1, .c 3 2, .c 3 3, .c 3 4, .t 0, .t 48])], [(0, [.b 3 5, .b 4 8, .c 3 0, .c 3 1, .c 3 2, .c 3 3, .c 3 4, .t 0]), (1, [.b 3 5, .b 4 8, .c 3 0, .c 3 1, .c 3 2, .c 3 3, .c 3 4, .t 0]), (2, [.b 3 5, .b 4 8, .c 3 0, .c 3 1, .c 3 2, .c 3 3, .c 3 4, .t 0]), (3, [.b 4 8])], [(0, [.b 3 5, .b 4 8, .c 3 0, .c 3 1, .c 3 2, .c 3 3, .c 3 4, .t 0])], Tryz.f277.results.toList, PU, Tryz.f277.ntmps, []⟩ 2 (Tryz.f277.body.getD .skip) = f277 := by kernel_rfl
theorem f278_den : denF ⟨TT, [], [], [(0, []), (1, [.t 1, .t 7, .t 8, .t 9])], [(0, [.t 1, .t 7, .t 8, .t 9])], Tryz.f278.results.toList, PU, Tryz.f278.ntmps, []⟩ 2 (Tryz.f278.body.getD .skip) = f278 := by kernel_rfl
theorem f279_den : denF ⟨TT, [1, 2], [], [], [], Tryz.f279.results.toList, PU, Tryz.f279.ntmps, []⟩ 1 (Tryz.f279.body.getD .skip) = f279 := by kernel_rfl
theorem f283_den : denF ⟨TT, [4, 7], [(8900030, [.t 0])], [(0, [.t 0]), (1, [.b 4 3, .c 4 0, .c 4 1, .c 4 2, .t 0, .t 2]), (2, [.b 4 3, .c 4 0, .c 4 1, .c 4 2, .t 0, .t 2])], [(1, [.b 4 3, .c 4 0, .c 4 1, .c 4 2, .t 0, .t 2])], Tryz.f283.results.toList, PU, Tryz.f283.ntmps, []⟩ 3 (Tryz.f283.body.getD .skip) = f283 := by kernel_rfl
theorem f285_den : denF ⟨TT, [], [], [], [], Tryz.f285.results.toList, PU, Tryz.f285.ntmps, []⟩ 1 (Tryz.f285.body.getD .skip) = f285 := by kernel_rfl
theorem f286_den : denF ⟨TT, [], [], [(0, []), (1, [.t 0, .t 3, .t 4])], [(0, [.t 0, .t 3, .t 4])], Tryz.f286.results.toList, PU, Tryz.f286.ntmps, []⟩ 1 (Tryz.f286.body.getD .skip) = f286 := by kernel_rfl
theorem f287_den : denF ⟨TT, [2, 3], [], [], [], Tryz.f287.results.toList, PU, Tryz.f287.ntmps, []⟩ 2 (Tryz.f287.body.getD .skip) = f287 := by kernel_rfl
theorem f288_den : denF ⟨TT, [4, 9], [], [(0, []), (1, [.t 0, .t 2, .t 28, .t 29, .t 30])], [(0, [.t 0, .t 2, .t 28, .t 29, .t 30])], Tryz.f288.results.toList, PU, Tryz.f288.ntmps, []⟩ 3 (Tryz.f288.body.getD .skip) = f288 := by kernel_rfl
theorem f294_den : denF ⟨TT, [], [(1600010, [.t 0, .t 3, .t 4, .t 5]), (2700013, [.t 3])], [(0, [.t 0, .t 3]), (1, [.t 0, .t 3, .t 4])], [(0, [.t 0, .t 3, .t 4])], Tryz.f294.results.toList, PU, Tryz.f294.ntmps, []⟩ 1 (Tryz.f294.body.getD .skip) = f294 := by kernel_rfl
theorem f295_den : denF ⟨TT, [3, 6], [(5500020, [.b 6 4, .c 6 0, .c 6 1, .c 6 2, .c 6 3, .t 0, .t 47, .t 48, .t 49])], [(0, [.b 3 4, .c 3 3, .t 0]), (1, [.t 0]), (2, [.t 0, .t 47, .t 48, .t 49])], [(1, [.t 0, .t 47, .t 48, .t 49])], Tryz.f295.results.toList, PU, Tryz.f295.ntmps, []⟩ 2 (Tryz.f295.body.getD .skip) = f295 := by kernel_rfl
theorem f296_den : denF ⟨TT, [1, 5], [], [(0, [.t 3]), (1, [.t 3, .t 10, .t 11, .t 12])], [(0, [.t 3, .t 10, .t 11, .t 12])], Tryz.f296.results.toList, PU, Tryz.f296.ntmps, []⟩ 1 (Tryz.f296.body.getD .skip) = f296 := by kernel_rfl
theorem f297_den : denF ⟨TT, [2, 4, 6, 8], [], [(0, [.b 2 4, .b 4 3, .c 2 3, .t 1]), (1, [.b 4 3, .b 6 3, .c 6 0, .c 6 1, .c 6 2, .t 1]), (2, [.b 2 4, .b 4 3, .b 6 3, .c 2 3, .c 6 0, .c 6 1, .c 6 2, .t 1, .t 7])], [(1, [.b 2 4, .b 4 3, .b 6 3, .c 2 3, .c 6 0, .c 6 1, .c 6 2, .t 1, .t 7])], Tryz.f297.results.toList, PU, Tryz.f297.ntmps, []⟩ 2 (Tryz.f297.body.getD .skip) = f297 := by kernel_rfl
theorem f298_den : denF ⟨TT, [3], [], [], [], Tryz.f298.results.toList, PU, Tryz.f298.ntmps, []⟩ 2 (Tryz.f298.body.getD .skip) = f298 := by kernel_rfl
theorem f299_den : denF ⟨TT, [], [], [], [], Tryz.f299.results.toList, PU, Tryz.f299.ntmps, []⟩ 1 (Tryz.f299.body.getD .skip) = f299 := by kernel_rfl
theorem f300_den : denF ⟨TT, [], [(1700007, [.t 17]), (1700008, [.t 17]), (1700009, [.t 17]), (1700010, [.t 17]), (1700011, [.t 17]), (1700012, [.t 17])], [(0, [])], [], Tryz.f300.results.toList, PU, Tryz.f300.ntmps, []⟩ 1 (Tryz.f300.body.getD .skip) = f300 := by kernel_rfl
theorem f301_den : denF ⟨TT, [6, 8], [], [(0, [.b 6 3, .t 0, .t 1, .t 2])], [], Tryz.f301.results.toList, PU, Tryz.f301.ntmps, []⟩ 3 (Tryz.f301.body.getD .skip) = f301 := by kernel_rfl
theorem f311_den : denF ⟨TT, [4], [], [(0, []), (1, [.t 8, .t 9, .t 10])], [(0, [.t 8, .t 9, .t 10])], Tryz.f311.results.toList, PU, Tryz.f311.ntmps, []⟩ 1 (Tryz.f311.body.getD .skip) = f311 := by kernel_rfl
theorem f312_den : denF ⟨TT, [1], [], [], [], Tryz.f312.results.toList, PU, Tryz.f312.ntmps, []⟩ 1 (Tryz.f312.body.getD .skip) = f312 := by kernel_rfl
theorem f313_den : denF ⟨TT, [1], [], [], [], Tryz.f313.results.toList, PU, Tryz.f313.ntmps, []⟩ 1 (Tryz.f313.body.getD .skip) = f313 := by kernel_rfl
theorem f314_den : denF ⟨TT, [3], [], [], [], Tryz.f314.results.toList, PU, Tryz.f314.ntmps, []⟩ 2 (Tryz.f314.body.getD .skip) = f314 := by kernel_rfl
theorem f315_den : denF ⟨TT, [1, 2], [], [], [], Tryz.f315.results.toList, PU, Tryz.f315.ntmps, []⟩ 1 (Tryz.f315.body.getD .skip) = f315 := by kernel_rfl
theorem f316_den : denF ⟨TT, [3, 6], [], [(0, [.b 3 5, .c 3 0, .c 3 1, .c 3 2, .c 3 3, .c 3 4, .t 0]), (1, [.b 3 5, .c 3 0, .c 3 1, .c 3 2, .c 3 3, .c 3 4, .t 0, .t 7, .t 8, .t 9])], [(0, [.b 3 5, .c 3 0, .c 3 1, .c 3 2, .c 3 3, .c 3 4, .t 0, .t 7, .t 8, .t 9])], Tryz.f316.results.toList, PU, Tryz.f316.ntmps, []⟩ 2 (Tryz.f316.body.getD .skip) = f316 := by kernel_rfl
theorem f317_den : denF ⟨TT, [1, 5], [], [(0, [.t 3]), (1, [.t 3, .t 7, .t 8, .t 9])], [(0, [.t 3, .t 7, .t 8, .t 9])], Tryz.f317.results.toList, PU, Tryz.f317.ntmps, []⟩ 1 (Tryz.f317.body.getD .skip) = f317 := by kernel_rfl
theorem f318_den : denF ⟨TT, [], [], [(0, []), (1, [.t 0, .t 1, .t 12, .t 13])], [(0, [.t 0, .t 1, .t 12, .t 13])], Tryz.f318.results.toList, PU, Tryz.f318.ntmps, []⟩ 2 (Tryz.f318.body.getD .skip) = f318 := by kernel_rfl
theorem f319_den : denF ⟨TT, [1], [(3400010, [.b 1 4, .c 1 3, .t 34])], [(0, [])], [], Tryz.f319.results.toList, PU, Tryz.f319.ntmps, []⟩ 1 (Tryz.f319.body.getD .skip) = f319 := by kernel_rfl
theorem f320_den : denF ⟨TT, [6], [], [(0, []), (1, [.t 1, .t 7, .t 8, .t 9])], [(0, [.t 1, .t 7, .t 8, .t 9])], Tryz.f320.results.toList, PU, Tryz.f320.ntmps, []⟩ 2 (Tryz.f320.body.getD .skip) = f320 := by kernel_rfl
theorem f321_den : denF ⟨TT, [], [], [(0, [])], [], Tryz.f321.results.toList, PU, Tryz.f321.ntmps, []⟩ 1 (Tryz.f321.body.getD .skip) = f321 := by kernel_rfl
theorem f322_den : denF ⟨TT, [4, 5, 6, 8, 10], [], [(0, [.b 6 5]), (1, [.b 4 3, .b 5 5, .b 6 5, .b 8 2, .c 4 2, .c 5 0, .c 5 1, .c 5 2, .c 5 3, .c 5 4, .c 8 0, .c 8 1, .t 28, .t 29, .t 30])], [(0, [.b 4 3, .b 5 5, .b 6 5, .b 8 2, .c 4 2, .c 5 0, .c 5 1, .c 5 2, .c 5 3, .c 5 4, .c 8 0, .c 8 1, .t 28, .t 29, .t 30])], Tryz.f322.results.toList, PU, Tryz.f322.ntmps, []⟩ 3 (Tryz.f322.body.getD .skip) = f322 := by kernel_rfl
theorem f323_den : denF ⟨TT, [2, 4], [], [], [], Tryz.f323.results.toList, PU, Tryz.f323.ntmps, []⟩ 2 (Tryz.f323.body.getD .skip) = f323 := by kernel_rfl
theorem f324_den : denF ⟨TT, [4], [], [(0, []), (1, [.t 5, .t 6, .t 7])], [(0, [.t 5, .t 6, .t 7])], Tryz.f324.results.toList, PU, Tryz.f324.ntmps, []⟩ 1 (Tryz.f324.body.getD .skip) = f324 := by kernel_rfl
theorem f325_den : denF ⟨TT, [3], [], [], [], Tryz.f325.results.toList, PU, Tryz.f325.ntmps, []⟩ 2 (Tryz.f325.body.getD .skip) = f325 := by kernel_rfl
theorem f326_den : denF ⟨TT, [], [], [(0, []), (1, [.t 0, .t 5, .t 6, .t 7])], [(0, [.t 0, .t 5, .t 6, .t 7])], Tryz.f326.results.toList, PU, Tryz.f326.ntmps, []⟩ 1 (Tryz.f326.body.getD .skip) = f326 := by kernel_rfl
theorem f327_den : denF ⟨TT, [15], [], [(0, [.t 3, .t 11, .t 13]), (1, [.t 0, .t 3, .t 11, .t 13, .t 35, .t 36, .t 37])], [(0, [.t 0, .t 3, .t 11, .t 13, .t 35, .t 36, .t 37])], Tryz.f327.results.toList, PU, Tryz.f327.ntmps, []⟩ 4 (Tryz.f327.body.getD .skip) = f327 := by kernel_rfl
theorem f328_den : denF ⟨TT, [4], [], [], [], Tryz.f328.results.toList, PU, Tryz.f328.ntmps, []⟩ 2 (Tryz.f328.body.getD .skip) = f328 := by kernel_rfl
theorem f329_den : denF ⟨TT, [3, 4, 6], [], [(0, [.b 4 4, .b 6 4, .c 6 0, .c 6 1, .c 6 2, .c 6 3])], [], Tryz.f329.results.toList, PU, Tryz.f329.ntmps, []⟩ 2 (Tryz.f329.body.getD .skip) = f329 := by kernel_rfl
theorem f330_den : denF ⟨TT, [1, 2, 3, 5], [], [(0, [.b 2 4, .b 3 4, .c 3 0, .c 3 1, .c 3 2, .c 3 3]), (1, [.b 2 4, .b 3 4, .c 3 0, .c 3 1, .c 3 2, .c 3 3, .t 14, .t 15, .t 16])], [(0, [.b 2 4, .b 3 4, .c 3 0, .c 3 1, .c 3 2, .c 3 3, .t 14, .t 15, .t 16])], Tryz.f330.results.toList, PU, Tryz.f330.ntmps, []⟩ 1 (Tryz.f330.body.getD .skip) = f330 := by kernel_rfl
theorem f331_den : denF ⟨TT, [4, 6, 9, 18, 20, 21], [(27600069, [.b 6 8, .t 276])], [(0, [.b 6 8])], [], Tryz.f331.results.toList, PU, Tryz.f331.ntmps, []⟩ 3 (Tryz.f331.body.getD .skip) = f331 := by kernel_rfl
theorem f332_den : denF ⟨TT, [8, 9], [], [(0, [.t 6]), (1, [.t 0, .t 6, .t 11, .t 12, .t 13])], [(0, [.t 0, .t 6, .t 11, .t 12, .t 13])], Tryz.f332.results.toList, PU, Tryz.f332.ntmps, []⟩ 2 (Tryz.f332.body.getD .skip) = f332 := by kernel_rfl
theorem f335_den : denF ⟨TT, [6, 9, 10], [(5100016, [.b 6 3, .b 9 3, .c 9 0, .c 9 1, .t 1, .t 2, .t 8, .t 51]), (10500032, [.b 6 3, .t 11]), (11200034, [.b 6 3, .t 11]), (11900036, [.b 6 3, .t 11])], [(0, [.b 6 3, .b 9 3, .c 9 0, .c 9 1, .t 1, .t 8]), (1, [.b 6 3, .t 11])], [], Tryz.f335.results.toList, PU, Tryz.f335.ntmps, []⟩ 3 (Tryz.f335.body.getD .skip) = f335 := by kernel_rfl
theorem f342_den : denF ⟨TT, [1], [], [], [], Tryz.f342.results.toList, PU, Tryz.f342.ntmps, []⟩ 1 (Tryz.f342.body.getD .skip) = f342 := by kernel_rfl
theorem f343_den : denF ⟨TT, [1], [], [], [], Tryz.f343.results.toList, PU, Tryz.f343.ntmps, []⟩ 1 (Tryz.f343.body.getD .skip) = f343 := by kernel_rfl
theorem f344_den : denF ⟨TT, [3, 8], [], [(0, []), (1, [.t 1, .t 2, .t 51, .t 52, .t 53])], [(0, [.t 1, .t 2, .t 51, .t 52, .t 53])], Tryz.f344.results.toList, PU, Tryz.f344.ntmps, []⟩ 3 (Tryz.f344.body.getD .skip) = f344 := by kernel_rfl
theorem f345_den : denF ⟨TT, [5, 11, 14], [(7700027, [.b 14 5, .c 14 0, .c 14 1, .c 14 2, .c 14 3, .c 14 4, .t 0, .t 2, .t 3, .t 12, .t 15, .t 63, .t 64, .t 65])], [(0, [.b 5 5, .c 5 4, .t 0, .t 2, .t 3]), (1, [.b 5 5, .c 5 0, .c 5 1, .c 5 2, .c 5 3, .c 5 4, .t 2, .t 3]), (2, [.b 5 5, .c 5 0, .c 5 1, .c 5 2, .c 5 3, .c 5 4, .t 2, .t 3, .t 34, .t 35, .t 36]), (3, [.t 3]), (4, [.t 0, .t 2, .t 3, .t 12, .t 63, .t 64, .t 65])], [(1, [.b 5 5, .c 5 0, .c 5 1, .c 5 2, .c 5 3, .c 5 4, .t 2, .t 3, .t 34, .t 35, .t 36]), (3, [.t 0, .t 2, .t 3, .t 12, .t 63, .t 64, .t 65])], Tryz.f345.results.toList, PU, Tryz.f345.ntmps, []⟩ 4 (Tryz.f345.body.getD .skip) = f345 := by kernel_rfl
theorem f346_den : denF ⟨TT, [1, 4], [], [(0, []), (1, [.b 1 5, .c 1 4, .t 8, .t 9, .t 10])], [(0, [.b 1 5, .c 1 4, .t 8, .t 9, .t 10])], Tryz.f346.results.toList, PU, Tryz.f346.ntmps, []⟩ 1 (Tryz.f346.body.getD .skip) = f346 := by kernel_rfl
theorem f347_den : denF ⟨TT, [4, 9], [(4800011, [.b 4 5, .b 9 5, .c 4 4, .c 9 0, .c 9 1, .c 9 2, .c 9 3, .c 9 4, .t 0, .t 2, .t 10, .t 24, .t 25, .t 26])], [(0, []), (1, [.b 4 5, .c 4 4, .t 0, .t 2, .t 24, .t 25, .t 26])], [(0, [.b 4 5, .c 4 4, .t 0, .t 2, .t 24, .t 25, .t 26])], Tryz.f347.results.toList, PU, Tryz.f347.ntmps, []⟩ 3 (Tryz.f347.body.getD .skip) = f347 := by kernel_rfl
theorem f348_den : denF ⟨TT, [2, 8], [], [(0, [.b 2 5, .c 2 4, .t 1]), (1, [.b 2 5, .c 2 4, .t 1, .t 10, .t 11, .t 12]), (2, []), (3, [.t 1, .t 21, .t 22, .t 23])], [(0, [.b 2 5, .c 2 4, .t 1, .t 10, .t 11, .t 12]), (2, [.t 1, .t 21, .t 22, .t 23])], Tryz.f348.results.toList, PU, Tryz.f348.ntmps, []⟩ 2 (Tryz.f348.body.getD .skip) = f348 := by kernel_rfl
theorem f349_den : denF ⟨TT, [4, 5, 6], [], [(0, [.b 4 2, .b 5 5, .b 6 5, .c 4 0, .c 4 1, .c 5 4, .c 6 4, .t 3]), (1, [.b 4 2, .b 6 5, .c 4 0, .c 4 1, .c 6 4, .t 3, .t 11, .t 12, .t 13, .t 15]), (2, [.b 4 2, .b 5 5, .b 6 5, .c 4 0, .c 4 1, .c 5 4, .c 6 4, .t 3, .t 10, .t 11, .t 12, .t 13, .t 15, .t 17]), (3, [.b 4 2, .b 5 5, .b 6 5, .c 4 0, .c 4 1, .c 5 4, .c 6 4, .t 3, .t 10, .t 11, .t 12, .t 13, .t 15, .t 17]), (4, [.b 4 2, .b 5 5, .b 6 5, .c 4 0, .c 4 1, .c 5 4, .c 6 4, .t 3, .t 10, .t 11, .t 12, .t 13, .t 15, .t 17, .t 18, .t 181, .t 182])], [(1, [.b 4 2, .b 5 5, .b 6 5, .c 4 0, .c 4 1, .c 5 4, .c 6 4, .t 3, .t 10, .t 11, .t 12, .t 13, .t 15, .t 17]), (3, [.b 4 2, .b 5 5, .b 6 5, .c 4 0, .c 4 1, .c 5 4, .c 6 4, .t 3, .t 10, .t 11, .t 12, .t 13, .t 15, .t 17, .t 18, .t 181, .t 182])], Tryz.f349.results.toList, PU, Tryz.f349.ntmps, [(34, [0, 1, 2, 3, 4, 5, 6, 7, 8, 9, 10, 11, 12, 14, 15, 13, 16])]⟩ 4 (Tryz.f349.body.getD .skip) = f349 := by kernel_rfl
theorem f350_den : denF ⟨TT, [2, 4, 7], [], [], [], Tryz.f350.results.toList, PU, Tryz.f350.ntmps, []⟩ 2 (Tryz.f350.body.getD .skip) = f350 := by kernel_rfl
theorem f351_den : denF ⟨TT, [], [], [], [], Tryz.f351.results.toList, PU, Tryz.f351.ntmps, []⟩ 2 (Tryz.f351.body.getD .skip) = f351 := by kernel_rfl
theorem f352_den : denF ⟨TT, [], [], [], [], Tryz.f352.results.toList, PU, Tryz.f352.ntmps, []⟩ 2 (Tryz.f352.body.getD .skip) = f352 := by kernel_rfl
theorem f353_den : denF ⟨TT, [7], [], [(0, [.t 5]), (1, [.t 1, .t 5, .t 8, .t 9, .t 10])], [(0, [.t 1, .t 5, .t 8, .t 9, .t 10])], Tryz.f353.results.toList, PU, Tryz.f353.ntmps, []⟩ 2 (Tryz.f353.body.getD .skip) = f353 := by kernel_rfl
theorem f354_den : denF ⟨TT, [6, 12, 13, 16], [], [(0, [.b 6 8, .t 0, .t 1, .t 2, .t 8, .t 10]), (1, [.b 6 8, .t 0, .t 1, .t 2, .t 8, .t 10, .t 27, .t 28, .t 29]), (2, [.b 6 8, .t 0, .t 2, .t 8]), (3, [.b 6 8, .t 0, .t 2, .t 8, .t 10, .t 72, .t 73, .t 74])], [(0, [.b 6 8, .t 0, .t 1, .t 2, .t 8, .t 10, .t 27, .t 28, .t 29]), (2, [.b 6 8, .t 0, .t 2, .t 8, .t 10, .t 72, .t 73, .t 74])], Tryz.f354.results.toList, PU, Tryz.f354.ntmps, []⟩ 3 (Tryz.f354.body.getD .skip) = f354 := by kernel_rfl
theorem f356_den : denF ⟨TT, [2], [], [], [], Tryz.f356.results.toList, PU, Tryz.f356.ntmps, []⟩ 1 (Tryz.f356.body.getD .skip) = f356 := by kernel_rfl
theorem f364_den : denF ⟨TT, [3, 6], [], [(0, []), (1, [.b 3 5, .c 3 0, .c 3 1, .c 3 2, .c 3 3, .c 3 4, .t 7, .t 8, .t 9])], [(0, [.b 3 5, .c 3 0, .c 3 1, .c 3 2, .c 3 3, .c 3 4, .t 7, .t 8, .t 9])], Tryz.f364.results.toList, PU, Tryz.f364.ntmps, []⟩ 2 (Tryz.f364.body.getD .skip) = f364 := by kernel_rfl
theorem f365_den : denF ⟨TT, [2, 3], [], [], [], Tryz.f365.results.toList, PU, Tryz.f365.ntmps, []⟩ 2 (Tryz.f365.body.getD .skip) = f365 := by kernel_rfl
theorem f366_den : denF ⟨TT, [4], [], [(0, []), (1, [.t 5, .t 6, .t 7])], [(0, [.t 5, .t 6, .t 7])], Tryz.f366.results.toList, PU, Tryz.f366.ntmps, []⟩ 1 (Tryz.f366.body.getD .skip) = f366 := by kernel_rfl
theorem f367_den : denF ⟨TT, [3, 6], [], [(0, []), (1, [.b 3 5, .c 3 0, .c 3 1, .c 3 2, .c 3 3, .c 3 4, .t 14, .t 15, .t 16])], [(0, [.b 3 5, .c 3 0, .c 3 1, .c 3 2, .c 3 3, .c 3 4, .t 14, .t 15, .t 16])], Tryz.f367.results.toList, PU, Tryz.f367.ntmps, []⟩ 2 (Tryz.f367.body.getD .skip) = f367 := by kernel_rfl
theorem f368_den : denF ⟨TT, [3, 8], [(1300005, [.b 3 5, .c 3 4, .t 0, .t 5])], [(0, [.t 5]), (1, [.t 0, .t 5, .t 20, .t 21, .t 22])], [(0, [.t 0, .t 5, .t 20, .t 21, .t 22])], Tryz.f368.results.toList, PU, Tryz.f368.ntmps, []⟩ 2 (Tryz.f368.body.getD .skip) = f368 := by kernel_rfl
theorem f369_den : denF ⟨TT, [4, 5, 7, 9], [], [], [], Tryz.f369.results.toList, PU, Tryz.f369.ntmps, []⟩ 3 (Tryz.f369.body.getD .skip) = f369 := by kernel_rfl
theorem f370_den : denF ⟨TT, [4], [], [(0, [.t 3]), (1, [.b 4 2, .c 4 0, .c 4 1, .t 1, .t 2, .t 3, .t 14, .t 15])], [(0, [.b 4 2, .c 4 0, .c 4 1, .t 1, .t 2, .t 3, .t 14, .t 15])], Tryz.f370.results.toList, PU, Tryz.f370.ntmps, []⟩ 4 (Tryz.f370.body.getD .skip) = f370 := by kernel_rfl
theorem f371_den : denF ⟨TT, [4, 6, 10, 12, 13, 23], [], [(0, [.b 6 5, .b 10 5, .c 10 0, .c 10 1, .c 10 2, .c 10 3, .c 10 4]), (1, [.b 4 5, .b 6 5, .b 10 5, .c 4 4, .c 10 0, .c 10 1, .c 10 2, .c 10 3, .c 10 4, .t 0, .t 2, .t 11]), (2, [.b 4 5, .b 6 5, .b 10 5, .b 12 5, .c 4 4, .c 10 0, .c 10 1, .c 10 2, .c 10 3, .c 10 4, .c 12 0, .c 12 1, .c 12 2, .c 12 3, .c 12 4, .t 0, .t 2, .t 11, .t 15, .t 16]), (3, [.b 4 5, .b 6 5, .b 10 5, .b 12 5, .c 4 4, .c 10 0, .c 10 1, .c 10 2, .c 10 3, .c 10 4, .c 12 0, .c 12 1, .c 12 2, .c 12 3, .c 12 4, .t 0, .t 2, .t 11, .t 15, .t 16, .t 148, .t 149, .t 150]), (4, [.b 4 5, .b 6 5, .b 10 5, .c 4 4, .c 10 0, .c 10 1, .c 10 2, .c 10 3, .c 10 4, .t 0, .t 2, .t 11]), (5, [.b 4 5, .b 6 5, .b 10 5, .b 12 5, .c 4 4, .c 10 0, .c 10 1, .c 10 2, .c 10 3, .c 10 4, .c 12 0, .c 12 1, .c 12 2, .c 12 3, .c 12 4, .t 0, .t 2, .t 11, .t 15, .t 16, .t 19]), (6, [.b 4 5, .b 6 5, .b 10 5, .b 12 5, .c 4 4, .c 10 0, .c 10 1, .c 10 2, .c 10 3, .c 10 4, .c 12 0, .c 12 1, .c 12 2, .c 12 3, .c 12 4, .t 0, .t 2, .t 11, .t 15, .t 16, .t 19, .t 20]), (7, [.b 4 5, .b 6 5, .b 10 5, .b 12 5, .c 4 4, .c 10 0, .c 10 1, .c 10 2, .c 10 3, .c 10 4, .c 12 0, .c 12 1, .c 12 2, .c 12 3, .c 12 4, .t 0, .t 2, .t 11, .t 15, .t 16, .t 19, .t 20, .t 171, .t 172, .t 173])], [(0, [.b 4 5, .b 6 5, .b 10 5, .c 4 4, .c 10 0, .c 10 1, .c 10 2, .c 10 3, .c 10 4, .t 0, .t 2, .t 11]), (2, [.b 4 5, .b 6 5, .b 10 5, .b 12 5, .c 4 4, .c 10 0, .c 10 1, .c 10 2, .c 10 3, .c 10 4, .c 12 0, .c 12 1, .c 12 2, .c 12 3, .c 12 4, .t 0, .t 2, .t 11, .t 15, .t 16, .t 148, .t 149, .t 150]), (4, [.b 4 5, .b 6 5, .b 10 5, .b 12 5, .c 4 4, .c 10 0, .c 10 1, .c 10 2, .c 10 3, .c 10 4, .c 12 0, .c 12 1, .c 12 2, .c 12 3, .c 12 4, .t 0, .t 2, .t 11, .t 15, .t 16, .t 19]), (6, [.b 4 5, .b 6 5, .b 10 5, .b 12 5, .c 4 4, .c 10 0, .c 10 1, .c 10 2, .c 10 3, .c 10 4, .c 12 0, .c 12 1, .c 12 2, .c 12 3, .c 12 4, .t 0, .t 2, .t 11, .t 15, .t 16, .t 19, .t 20, .t 171, .t 172, .t 173])], Tryz.f371.results.toList, PU, Tryz.f371.ntmps, []⟩ 3 (Tryz.f371.body.getD .skip) = f371 := by kernel_rfl
theorem f372_den : denF ⟨TT, [], [(1600007, [.t 1, .t 5, .t 8, .t 9, .t 10])], [(0, [.t 5]), (1, [.t 1, .t 5, .t 8, .t 9, .t 10])], [(0, [.t 1, .t 5, .t 8, .t 9, .t 10])], Tryz.f372.results.toList, PU, Tryz.f372.ntmps, []⟩ 2 (Tryz.f372.body.getD .skip) = f372 := by kernel_rfl
theorem f376_den : denF ⟨TT, [3, 9], [(2800004, [.b 3 5, .c 3 4, .t 1, .t 2])], [(0, [.t 2]), (1, [.t 1, .t 2, .t 34, .t 35, .t 36])], [(0, [.t 1, .t 2, .t 34, .t 35, .t 36])], Tryz.f376.results.toList, PU, Tryz.f376.ntmps, []⟩ 3 (Tryz.f376.body.getD .skip) = f376 := by kernel_rfl
end Go.X1
