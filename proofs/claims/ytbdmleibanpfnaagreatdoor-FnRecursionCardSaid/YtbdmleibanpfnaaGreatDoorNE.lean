/-
  The residual functions are what the code comes to.
-/
import Derived.Test.YtbdmleibanpfnaaGreatDoorLibB
import Derived.Test.YtbdmleibanpfnaaGreatDoorNDa
import Derived.Test.YtbdmleibanpfnaaGreatDoorNDb
import Derived.Test.YtbdmleibanpfnaaGreatDoorRows
set_option linter.all false
set_option linter.all false
set_option maxRecDepth 100000
namespace Go.X1
open Go.Proofs
def TT : List TI := [⟨.other, 1, false, [(.nd (nat_lit 1) .nl)]⟩,
 ⟨.other, 1, false, [(.ref (nat_lit 9) (nat_lit 0) (nat_lit 0) (nat_lit 0))]⟩,
 ⟨.int .i64, 1, false, [(.int (nat_lit 9223372036854775808))]⟩,
 ⟨.int .i64, 1, false, [(.int (nat_lit 9223372036854775808))]⟩,
 ⟨.bool, 1, false, [(.bool false)]⟩,
 ⟨.int .u8, 1, false, [(.byt (nat_lit 0))]⟩,
 ⟨.int .u8, 1, false, [(.byt (nat_lit 0))]⟩,
 ⟨.struct [(0, 2), (1, 3), (2, 4), (3, 6)], 4, true, [(.int (nat_lit 9223372036854775808)), (.int (nat_lit 9223372036854775808)), (.bool false), (.byt (nat_lit 0))]⟩,
 ⟨.struct [(0, 2), (1, 3), (2, 4), (3, 6)], 4, true, [(.int (nat_lit 9223372036854775808)), (.int (nat_lit 9223372036854775808)), (.bool false), (.byt (nat_lit 0))]⟩,
 ⟨.str, 1, false, [(.str (nat_lit 0) (nat_lit 0))]⟩,
 ⟨.str, 1, false, [(.str (nat_lit 0) (nat_lit 0))]⟩,
 ⟨.str, 1, false, [(.str (nat_lit 0) (nat_lit 0))]⟩,
 ⟨.int .u64, 1, false, [junk]⟩,
 ⟨.struct [(0, 9), (1, 12)], 2, true, [(.str (nat_lit 0) (nat_lit 0)), junk]⟩,
 ⟨.struct [(0, 9), (1, 12)], 2, true, [(.str (nat_lit 0) (nat_lit 0)), junk]⟩,
 ⟨.ptr 441, 1, false, [(.ref (nat_lit 4) (nat_lit 0) (nat_lit 0) (nat_lit 0))]⟩,
 ⟨.ptr 444, 1, false, [(.ref (nat_lit 4) (nat_lit 0) (nat_lit 0) (nat_lit 0))]⟩,
 ⟨.ptr 451, 1, false, [(.ref (nat_lit 4) (nat_lit 0) (nat_lit 0) (nat_lit 0))]⟩,
 ⟨.struct [(0, 17)], 1, true, [(.ref (nat_lit 4) (nat_lit 0) (nat_lit 0) (nat_lit 0))]⟩,
 ⟨.struct [(0, 17)], 1, true, [(.ref (nat_lit 4) (nat_lit 0) (nat_lit 0) (nat_lit 0))]⟩,
 ⟨.iface, 1, false, [(.ref (nat_lit 6) (nat_lit 0) (nat_lit 0) (nat_lit 0))]⟩,
 ⟨.int .i32, 1, false, [junk]⟩,
 ⟨.slice 5, 1, false, [(.ref (nat_lit 3) (nat_lit 0) (nat_lit 0) (nat_lit 0))]⟩,
 ⟨.slice 3, 1, false, [(.ref (nat_lit 3) (nat_lit 0) (nat_lit 0) (nat_lit 0))]⟩,
 ⟨.slice 26, 1, false, [(.ref (nat_lit 3) (nat_lit 0) (nat_lit 0) (nat_lit 0))]⟩,
 ⟨.struct [(0, 3), (1, 3), (2, 9), (3, 24)], 4, true, [(.int (nat_lit 9223372036854775808)), (.int (nat_lit 9223372036854775808)), (.str (nat_lit 0) (nat_lit 0)), (.ref (nat_lit 3) (nat_lit 0) (nat_lit 0) (nat_lit 0))]⟩,
 ⟨.struct [(0, 3), (1, 3), (2, 9), (3, 24)], 4, true, [(.int (nat_lit 9223372036854775808)), (.int (nat_lit 9223372036854775808)), (.str (nat_lit 0) (nat_lit 0)), (.ref (nat_lit 3) (nat_lit 0) (nat_lit 0) (nat_lit 0))]⟩,
 ⟨.slice 29, 1, false, [(.ref (nat_lit 3) (nat_lit 0) (nat_lit 0) (nat_lit 0))]⟩,
 ⟨.struct [(0, 3), (1, 3), (2, 23), (3, 26), (7, 27)], 8, true, [(.int (nat_lit 9223372036854775808)), (.int (nat_lit 9223372036854775808)), (.ref (nat_lit 3) (nat_lit 0) (nat_lit 0) (nat_lit 0)), (.int (nat_lit 9223372036854775808)), (.int (nat_lit 9223372036854775808)), (.str (nat_lit 0) (nat_lit 0)), (.ref (nat_lit 3) (nat_lit 0) (nat_lit 0) (nat_lit 0)), (.ref (nat_lit 3) (nat_lit 0) (nat_lit 0) (nat_lit 0))]⟩,
 ⟨.struct [(0, 3), (1, 3), (2, 23), (3, 26), (7, 27)], 8, true, [(.int (nat_lit 9223372036854775808)), (.int (nat_lit 9223372036854775808)), (.ref (nat_lit 3) (nat_lit 0) (nat_lit 0) (nat_lit 0)), (.int (nat_lit 9223372036854775808)), (.int (nat_lit 9223372036854775808)), (.str (nat_lit 0) (nat_lit 0)), (.ref (nat_lit 3) (nat_lit 0) (nat_lit 0) (nat_lit 0)), (.ref (nat_lit 3) (nat_lit 0) (nat_lit 0) (nat_lit 0))]⟩,
 ⟨.slice 118, 1, false, [(.ref (nat_lit 3) (nat_lit 0) (nat_lit 0) (nat_lit 0))]⟩,
 ⟨.slice 114, 1, false, [(.ref (nat_lit 3) (nat_lit 0) (nat_lit 0) (nat_lit 0))]⟩,
 ⟨.struct [(0, 30), (1, 31), (2, 3), (3, 3), (4, 3)], 5, true, [(.ref (nat_lit 3) (nat_lit 0) (nat_lit 0) (nat_lit 0)), (.ref (nat_lit 3) (nat_lit 0) (nat_lit 0) (nat_lit 0)), (.int (nat_lit 9223372036854775808)), (.int (nat_lit 9223372036854775808)), (.int (nat_lit 9223372036854775808))]⟩,
 ⟨.struct [(0, 30), (1, 31), (2, 3), (3, 3), (4, 3)], 5, true, [(.ref (nat_lit 3) (nat_lit 0) (nat_lit 0) (nat_lit 0)), (.ref (nat_lit 3) (nat_lit 0) (nat_lit 0) (nat_lit 0)), (.int (nat_lit 9223372036854775808)), (.int (nat_lit 9223372036854775808)), (.int (nat_lit 9223372036854775808))]⟩,
 ⟨.other, 1, false, [(.nd (nat_lit 1) (.cn (.nd (nat_lit 0) (.cn (.int (nat_lit 9223372036854775808)) (.cn (.int (nat_lit 9223372036854775808)) (.cn (.ref (nat_lit 3) (nat_lit 0) (nat_lit 0) (nat_lit 0)) (.cn (.int (nat_lit 9223372036854775808)) (.cn (.int (nat_lit 9223372036854775808)) (.cn (.str (nat_lit 0) (nat_lit 0)) (.cn (.ref (nat_lit 3) (nat_lit 0) (nat_lit 0) (nat_lit 0)) (.cn (.ref (nat_lit 3) (nat_lit 0) (nat_lit 0) (nat_lit 0)) .nl))))))))) (.cn (.nd (nat_lit 0) (.cn (.ref (nat_lit 3) (nat_lit 0) (nat_lit 0) (nat_lit 0)) (.cn (.ref (nat_lit 3) (nat_lit 0) (nat_lit 0) (nat_lit 0)) (.cn (.int (nat_lit 9223372036854775808)) (.cn (.int (nat_lit 9223372036854775808)) (.cn (.int (nat_lit 9223372036854775808)) .nl)))))) (.cn (.int (nat_lit 9223372036854775808)) .nl))))]⟩,
 ⟨.other, 1, false, [(.ref (nat_lit 9) (nat_lit 0) (nat_lit 0) (nat_lit 0))]⟩,
 ⟨.other, 1, false, [(.ref (nat_lit 9) (nat_lit 0) (nat_lit 0) (nat_lit 0))]⟩,
 ⟨.slice 39, 1, false, [(.ref (nat_lit 3) (nat_lit 0) (nat_lit 0) (nat_lit 0))]⟩,
 ⟨.struct [(0, 3), (1, 3), (2, 9), (3, 23), (4, 37)], 5, true, [(.int (nat_lit 9223372036854775808)), (.int (nat_lit 9223372036854775808)), (.str (nat_lit 0) (nat_lit 0)), (.ref (nat_lit 3) (nat_lit 0) (nat_lit 0) (nat_lit 0)), (.ref (nat_lit 3) (nat_lit 0) (nat_lit 0) (nat_lit 0))]⟩,
 ⟨.struct [(0, 3), (1, 3), (2, 9), (3, 23), (4, 37)], 5, true, [(.int (nat_lit 9223372036854775808)), (.int (nat_lit 9223372036854775808)), (.str (nat_lit 0) (nat_lit 0)), (.ref (nat_lit 3) (nat_lit 0) (nat_lit 0) (nat_lit 0)), (.ref (nat_lit 3) (nat_lit 0) (nat_lit 0) (nat_lit 0))]⟩,
 ⟨.other, 1, false, [(.ref (nat_lit 9) (nat_lit 0) (nat_lit 0) (nat_lit 0))]⟩,
 ⟨.other, 1, false, [(.ref (nat_lit 9) (nat_lit 0) (nat_lit 0) (nat_lit 0))]⟩,
 ⟨.slice 9, 1, false, [(.ref (nat_lit 3) (nat_lit 0) (nat_lit 0) (nat_lit 0))]⟩,
 ⟨.other, 1, false, [(.ref (nat_lit 9) (nat_lit 0) (nat_lit 0) (nat_lit 0))]⟩,
 ⟨.other, 1, false, [(.ref (nat_lit 9) (nat_lit 0) (nat_lit 0) (nat_lit 0))]⟩,
 ⟨.slice 152, 1, false, [(.ref (nat_lit 3) (nat_lit 0) (nat_lit 0) (nat_lit 0))]⟩,
 ⟨.struct [(0, 45), (1, 3)], 2, true, [(.ref (nat_lit 3) (nat_lit 0) (nat_lit 0) (nat_lit 0)), (.int (nat_lit 9223372036854775808))]⟩,
 ⟨.struct [(0, 45), (1, 3)], 2, true, [(.ref (nat_lit 3) (nat_lit 0) (nat_lit 0) (nat_lit 0)), (.int (nat_lit 9223372036854775808))]⟩,
 ⟨.other, 1, false, [(.nd (nat_lit 1) (.cn (.nd (nat_lit 0) (.cn (.ref (nat_lit 3) (nat_lit 0) (nat_lit 0) (nat_lit 0)) (.cn (.int (nat_lit 9223372036854775808)) .nl))) (.cn (.bool false) .nl)))]⟩,
 ⟨.other, 1, false, [(.ref (nat_lit 9) (nat_lit 0) (nat_lit 0) (nat_lit 0))]⟩,
 ⟨.struct [(0, 3), (1, 9), (2, 42), (3, 3), (4, 3)], 5, true, [(.int (nat_lit 9223372036854775808)), (.str (nat_lit 0) (nat_lit 0)), (.ref (nat_lit 3) (nat_lit 0) (nat_lit 0) (nat_lit 0)), (.int (nat_lit 9223372036854775808)), (.int (nat_lit 9223372036854775808))]⟩,
 ⟨.struct [(0, 3), (1, 9), (2, 42), (3, 3), (4, 3)], 5, true, [(.int (nat_lit 9223372036854775808)), (.str (nat_lit 0) (nat_lit 0)), (.ref (nat_lit 3) (nat_lit 0) (nat_lit 0) (nat_lit 0)), (.int (nat_lit 9223372036854775808)), (.int (nat_lit 9223372036854775808))]⟩,
 ⟨.other, 1, false, [(.ref (nat_lit 9) (nat_lit 0) (nat_lit 0) (nat_lit 0))]⟩,
 ⟨.other, 1, false, [(.ref (nat_lit 9) (nat_lit 0) (nat_lit 0) (nat_lit 0))]⟩,
 ⟨.other, 1, false, [(.ref (nat_lit 9) (nat_lit 0) (nat_lit 0) (nat_lit 0))]⟩,
 ⟨.other, 1, false, [(.ref (nat_lit 9) (nat_lit 0) (nat_lit 0) (nat_lit 0))]⟩,
 ⟨.slice 184, 1, false, [(.ref (nat_lit 3) (nat_lit 0) (nat_lit 0) (nat_lit 0))]⟩,
 ⟨.slice 258, 1, false, [(.ref (nat_lit 3) (nat_lit 0) (nat_lit 0) (nat_lit 0))]⟩,
 ⟨.struct [(0, 33), (5, 56), (6, 57)], 7, true, [(.ref (nat_lit 3) (nat_lit 0) (nat_lit 0) (nat_lit 0)), (.ref (nat_lit 3) (nat_lit 0) (nat_lit 0) (nat_lit 0)), (.int (nat_lit 9223372036854775808)), (.int (nat_lit 9223372036854775808)), (.int (nat_lit 9223372036854775808)), (.ref (nat_lit 3) (nat_lit 0) (nat_lit 0) (nat_lit 0)), (.ref (nat_lit 3) (nat_lit 0) (nat_lit 0) (nat_lit 0))]⟩,
 ⟨.struct [(0, 33), (5, 56), (6, 57)], 7, true, [(.ref (nat_lit 3) (nat_lit 0) (nat_lit 0) (nat_lit 0)), (.ref (nat_lit 3) (nat_lit 0) (nat_lit 0) (nat_lit 0)), (.int (nat_lit 9223372036854775808)), (.int (nat_lit 9223372036854775808)), (.int (nat_lit 9223372036854775808)), (.ref (nat_lit 3) (nat_lit 0) (nat_lit 0) (nat_lit 0)), (.ref (nat_lit 3) (nat_lit 0) (nat_lit 0) (nat_lit 0))]⟩,
 ⟨.other, 1, false, [(.nd (nat_lit 1) (.cn (.nd (nat_lit 0) (.cn (.ref (nat_lit 3) (nat_lit 0) (nat_lit 0) (nat_lit 0)) (.cn (.ref (nat_lit 3) (nat_lit 0) (nat_lit 0) (nat_lit 0)) (.cn (.int (nat_lit 9223372036854775808)) (.cn (.int (nat_lit 9223372036854775808)) (.cn (.int (nat_lit 9223372036854775808)) (.cn (.ref (nat_lit 3) (nat_lit 0) (nat_lit 0) (nat_lit 0)) (.cn (.ref (nat_lit 3) (nat_lit 0) (nat_lit 0) (nat_lit 0)) .nl)))))))) (.cn (.int (nat_lit 9223372036854775808)) .nl)))]⟩,
 ⟨.other, 1, false, [(.ref (nat_lit 9) (nat_lit 0) (nat_lit 0) (nat_lit 0))]⟩,
 ⟨.other, 1, false, [(.ref (nat_lit 9) (nat_lit 0) (nat_lit 0) (nat_lit 0))]⟩,
 ⟨.other, 1, false, [(.ref (nat_lit 9) (nat_lit 0) (nat_lit 0) (nat_lit 0))]⟩,
 ⟨.other, 1, false, [(.ref (nat_lit 9) (nat_lit 0) (nat_lit 0) (nat_lit 0))]⟩,
 ⟨.other, 1, false, [(.ref (nat_lit 9) (nat_lit 0) (nat_lit 0) (nat_lit 0))]⟩,
 ⟨.other, 1, false, [(.ref (nat_lit 9) (nat_lit 0) (nat_lit 0) (nat_lit 0))]⟩,
 ⟨.other, 1, false, [(.ref (nat_lit 9) (nat_lit 0) (nat_lit 0) (nat_lit 0))]⟩,
 ⟨.other, 1, false, [(.ref (nat_lit 9) (nat_lit 0) (nat_lit 0) (nat_lit 0))]⟩,
 ⟨.other, 1, false, [(.ref (nat_lit 9) (nat_lit 0) (nat_lit 0) (nat_lit 0))]⟩,
 ⟨.other, 1, false, [(.ref (nat_lit 9) (nat_lit 0) (nat_lit 0) (nat_lit 0))]⟩,
 ⟨.ptr 73, 1, false, [(.ref (nat_lit 4) (nat_lit 0) (nat_lit 0) (nat_lit 0))]⟩,
 ⟨.struct [(0, 33), (5, 3), (6, 3)], 7, true, [(.ref (nat_lit 3) (nat_lit 0) (nat_lit 0) (nat_lit 0)), (.ref (nat_lit 3) (nat_lit 0) (nat_lit 0) (nat_lit 0)), (.int (nat_lit 9223372036854775808)), (.int (nat_lit 9223372036854775808)), (.int (nat_lit 9223372036854775808)), (.int (nat_lit 9223372036854775808)), (.int (nat_lit 9223372036854775808))]⟩,
 ⟨.struct [(0, 33), (5, 3), (6, 3)], 7, true, [(.ref (nat_lit 3) (nat_lit 0) (nat_lit 0) (nat_lit 0)), (.ref (nat_lit 3) (nat_lit 0) (nat_lit 0) (nat_lit 0)), (.int (nat_lit 9223372036854775808)), (.int (nat_lit 9223372036854775808)), (.int (nat_lit 9223372036854775808)), (.int (nat_lit 9223372036854775808)), (.int (nat_lit 9223372036854775808))]⟩,
 ⟨.other, 1, false, [(.ref (nat_lit 9) (nat_lit 0) (nat_lit 0) (nat_lit 0))]⟩,
 ⟨.other, 1, false, [(.ref (nat_lit 9) (nat_lit 0) (nat_lit 0) (nat_lit 0))]⟩,
 ⟨.other, 1, false, [(.nd (nat_lit 1) (.cn (.ref (nat_lit 3) (nat_lit 0) (nat_lit 0) (nat_lit 0)) (.cn (.bool false) .nl)))]⟩,
 ⟨.other, 1, false, [(.ref (nat_lit 9) (nat_lit 0) (nat_lit 0) (nat_lit 0))]⟩,
 ⟨.other, 1, false, [(.ref (nat_lit 9) (nat_lit 0) (nat_lit 0) (nat_lit 0))]⟩,
 ⟨.other, 1, false, [(.ref (nat_lit 9) (nat_lit 0) (nat_lit 0) (nat_lit 0))]⟩,
 ⟨.other, 1, false, [(.ref (nat_lit 9) (nat_lit 0) (nat_lit 0) (nat_lit 0))]⟩,
 ⟨.other, 1, false, [(.ref (nat_lit 9) (nat_lit 0) (nat_lit 0) (nat_lit 0))]⟩,
 ⟨.other, 1, false, [(.ref (nat_lit 9) (nat_lit 0) (nat_lit 0) (nat_lit 0))]⟩,
 ⟨.map 3 3, 1, false, [(.ref (nat_lit 5) (nat_lit 0) (nat_lit 0) (nat_lit 0))]⟩,
 ⟨.other, 1, false, [(.ref (nat_lit 9) (nat_lit 0) (nat_lit 0) (nat_lit 0))]⟩,
 ⟨.other, 1, false, [(.ref (nat_lit 9) (nat_lit 0) (nat_lit 0) (nat_lit 0))]⟩,
 ⟨.other, 1, false, [(.ref (nat_lit 9) (nat_lit 0) (nat_lit 0) (nat_lit 0))]⟩,
 ⟨.ptr 99, 1, false, [(.ref (nat_lit 4) (nat_lit 0) (nat_lit 0) (nat_lit 0))]⟩,
 ⟨.other, 1, false, [(.nd (nat_lit 1) (.cn (.ref (nat_lit 4) (nat_lit 0) (nat_lit 0) (nat_lit 0)) (.cn (.bool false) .nl)))]⟩,
 ⟨.other, 1, false, [(.ref (nat_lit 9) (nat_lit 0) (nat_lit 0) (nat_lit 0))]⟩,
 ⟨.slice 398, 1, false, [(.ref (nat_lit 3) (nat_lit 0) (nat_lit 0) (nat_lit 0))]⟩,
 ⟨.slice 354, 1, false, [(.ref (nat_lit 3) (nat_lit 0) (nat_lit 0) (nat_lit 0))]⟩,
 ⟨.slice 396, 1, false, [(.ref (nat_lit 3) (nat_lit 0) (nat_lit 0) (nat_lit 0))]⟩,
 ⟨.struct [(0, 3), (1, 51), (6, 90), (7, 91), (8, 92)], 9, true, [(.int (nat_lit 9223372036854775808)), (.int (nat_lit 9223372036854775808)), (.str (nat_lit 0) (nat_lit 0)), (.ref (nat_lit 3) (nat_lit 0) (nat_lit 0) (nat_lit 0)), (.int (nat_lit 9223372036854775808)), (.int (nat_lit 9223372036854775808)), (.ref (nat_lit 3) (nat_lit 0) (nat_lit 0) (nat_lit 0)), (.ref (nat_lit 3) (nat_lit 0) (nat_lit 0) (nat_lit 0)), (.ref (nat_lit 3) (nat_lit 0) (nat_lit 0) (nat_lit 0))]⟩,
 ⟨.struct [(0, 3), (1, 51), (6, 90), (7, 91), (8, 92)], 9, true, [(.int (nat_lit 9223372036854775808)), (.int (nat_lit 9223372036854775808)), (.str (nat_lit 0) (nat_lit 0)), (.ref (nat_lit 3) (nat_lit 0) (nat_lit 0) (nat_lit 0)), (.int (nat_lit 9223372036854775808)), (.int (nat_lit 9223372036854775808)), (.ref (nat_lit 3) (nat_lit 0) (nat_lit 0) (nat_lit 0)), (.ref (nat_lit 3) (nat_lit 0) (nat_lit 0) (nat_lit 0)), (.ref (nat_lit 3) (nat_lit 0) (nat_lit 0) (nat_lit 0))]⟩,
 ⟨.slice 241, 1, false, [(.ref (nat_lit 3) (nat_lit 0) (nat_lit 0) (nat_lit 0))]⟩,
 ⟨.slice 323, 1, false, [(.ref (nat_lit 3) (nat_lit 0) (nat_lit 0) (nat_lit 0))]⟩,
 ⟨.slice 95, 1, false, [(.ref (nat_lit 3) (nat_lit 0) (nat_lit 0) (nat_lit 0))]⟩,
 ⟨.struct [(0, 94), (9, 47), (11, 95), (12, 96), (13, 97), (14, 3), (15, 42), (16, 3)], 17, true, [(.int (nat_lit 9223372036854775808)), (.int (nat_lit 9223372036854775808)), (.str (nat_lit 0) (nat_lit 0)), (.ref (nat_lit 3) (nat_lit 0) (nat_lit 0) (nat_lit 0)), (.int (nat_lit 9223372036854775808)), (.int (nat_lit 9223372036854775808)), (.ref (nat_lit 3) (nat_lit 0) (nat_lit 0) (nat_lit 0)), (.ref (nat_lit 3) (nat_lit 0) (nat_lit 0) (nat_lit 0)), (.ref (nat_lit 3) (nat_lit 0) (nat_lit 0) (nat_lit 0)), (.ref (nat_lit 3) (nat_lit 0) (nat_lit 0) (nat_lit 0)), (.int (nat_lit 9223372036854775808)), (.ref (nat_lit 3) (nat_lit 0) (nat_lit 0) (nat_lit 0)), (.ref (nat_lit 3) (nat_lit 0) (nat_lit 0) (nat_lit 0)), (.ref (nat_lit 3) (nat_lit 0) (nat_lit 0) (nat_lit 0)), (.int (nat_lit 9223372036854775808)), (.ref (nat_lit 3) (nat_lit 0) (nat_lit 0) (nat_lit 0)), (.int (nat_lit 9223372036854775808))]⟩,
 ⟨.struct [(0, 94), (9, 47), (11, 95), (12, 96), (13, 97), (14, 3), (15, 42), (16, 3)], 17, true, [(.int (nat_lit 9223372036854775808)), (.int (nat_lit 9223372036854775808)), (.str (nat_lit 0) (nat_lit 0)), (.ref (nat_lit 3) (nat_lit 0) (nat_lit 0) (nat_lit 0)), (.int (nat_lit 9223372036854775808)), (.int (nat_lit 9223372036854775808)), (.ref (nat_lit 3) (nat_lit 0) (nat_lit 0) (nat_lit 0)), (.ref (nat_lit 3) (nat_lit 0) (nat_lit 0) (nat_lit 0)), (.ref (nat_lit 3) (nat_lit 0) (nat_lit 0) (nat_lit 0)), (.ref (nat_lit 3) (nat_lit 0) (nat_lit 0) (nat_lit 0)), (.int (nat_lit 9223372036854775808)), (.ref (nat_lit 3) (nat_lit 0) (nat_lit 0) (nat_lit 0)), (.ref (nat_lit 3) (nat_lit 0) (nat_lit 0) (nat_lit 0)), (.ref (nat_lit 3) (nat_lit 0) (nat_lit 0) (nat_lit 0)), (.int (nat_lit 9223372036854775808)), (.ref (nat_lit 3) (nat_lit 0) (nat_lit 0) (nat_lit 0)), (.int (nat_lit 9223372036854775808))]⟩,
 ⟨.other, 1, false, [(.ref (nat_lit 9) (nat_lit 0) (nat_lit 0) (nat_lit 0))]⟩,
 ⟨.struct [(0, 9), (1, 42), (2, 42), (3, 24)], 4, true, [(.str (nat_lit 0) (nat_lit 0)), (.ref (nat_lit 3) (nat_lit 0) (nat_lit 0) (nat_lit 0)), (.ref (nat_lit 3) (nat_lit 0) (nat_lit 0) (nat_lit 0)), (.ref (nat_lit 3) (nat_lit 0) (nat_lit 0) (nat_lit 0))]⟩,
 ⟨.struct [(0, 9), (1, 42), (2, 42), (3, 24)], 4, true, [(.str (nat_lit 0) (nat_lit 0)), (.ref (nat_lit 3) (nat_lit 0) (nat_lit 0) (nat_lit 0)), (.ref (nat_lit 3) (nat_lit 0) (nat_lit 0) (nat_lit 0)), (.ref (nat_lit 3) (nat_lit 0) (nat_lit 0) (nat_lit 0))]⟩,
 ⟨.other, 1, false, [(.nd (nat_lit 1) (.cn (.nd (nat_lit 0) (.cn (.str (nat_lit 0) (nat_lit 0)) (.cn (.ref (nat_lit 3) (nat_lit 0) (nat_lit 0) (nat_lit 0)) (.cn (.ref (nat_lit 3) (nat_lit 0) (nat_lit 0) (nat_lit 0)) (.cn (.ref (nat_lit 3) (nat_lit 0) (nat_lit 0) (nat_lit 0)) .nl))))) (.cn (.bool false) .nl)))]⟩,
 ⟨.other, 1, false, [(.ref (nat_lit 9) (nat_lit 0) (nat_lit 0) (nat_lit 0))]⟩,
 ⟨.other, 1, false, [(.ref (nat_lit 9) (nat_lit 0) (nat_lit 0) (nat_lit 0))]⟩,
 ⟨.other, 1, false, [(.nd (nat_lit 1) (.cn (.nd (nat_lit 0) (.cn (.int (nat_lit 9223372036854775808)) (.cn (.int (nat_lit 9223372036854775808)) (.cn (.ref (nat_lit 3) (nat_lit 0) (nat_lit 0) (nat_lit 0)) (.cn (.int (nat_lit 9223372036854775808)) (.cn (.int (nat_lit 9223372036854775808)) (.cn (.str (nat_lit 0) (nat_lit 0)) (.cn (.ref (nat_lit 3) (nat_lit 0) (nat_lit 0) (nat_lit 0)) (.cn (.ref (nat_lit 3) (nat_lit 0) (nat_lit 0) (nat_lit 0)) .nl))))))))) (.cn (.bool false) .nl)))]⟩,
 ⟨.other, 1, false, [(.ref (nat_lit 9) (nat_lit 0) (nat_lit 0) (nat_lit 0))]⟩,
 ⟨.other, 1, false, [(.ref (nat_lit 9) (nat_lit 0) (nat_lit 0) (nat_lit 0))]⟩,
 ⟨.other, 1, false, [(.nd (nat_lit 1) (.cn (.nd (nat_lit 0) (.cn (.int (nat_lit 9223372036854775808)) (.cn (.str (nat_lit 0) (nat_lit 0)) (.cn (.ref (nat_lit 3) (nat_lit 0) (nat_lit 0) (nat_lit 0)) (.cn (.int (nat_lit 9223372036854775808)) (.cn (.int (nat_lit 9223372036854775808)) .nl)))))) (.cn (.int (nat_lit 9223372036854775808)) .nl)))]⟩,
 ⟨.other, 1, false, [(.ref (nat_lit 9) (nat_lit 0) (nat_lit 0) (nat_lit 0))]⟩,
 ⟨.other, 1, false, [(.ref (nat_lit 9) (nat_lit 0) (nat_lit 0) (nat_lit 0))]⟩,
 ⟨.other, 1, false, [(.ref (nat_lit 9) (nat_lit 0) (nat_lit 0) (nat_lit 0))]⟩,
 ⟨.struct [(0, 37), (1, 37), (2, 37)], 3, true, [(.ref (nat_lit 3) (nat_lit 0) (nat_lit 0) (nat_lit 0)), (.ref (nat_lit 3) (nat_lit 0) (nat_lit 0) (nat_lit 0)), (.ref (nat_lit 3) (nat_lit 0) (nat_lit 0) (nat_lit 0))]⟩,
 ⟨.struct [(0, 37), (1, 37), (2, 37)], 3, true, [(.ref (nat_lit 3) (nat_lit 0) (nat_lit 0) (nat_lit 0)), (.ref (nat_lit 3) (nat_lit 0) (nat_lit 0) (nat_lit 0)), (.ref (nat_lit 3) (nat_lit 0) (nat_lit 0) (nat_lit 0))]⟩,
 ⟨.other, 1, false, [(.ref (nat_lit 9) (nat_lit 0) (nat_lit 0) (nat_lit 0))]⟩,
 ⟨.other, 1, false, [(.ref (nat_lit 9) (nat_lit 0) (nat_lit 0) (nat_lit 0))]⟩,
 ⟨.struct [(0, 9), (1, 23), (2, 3), (3, 3)], 4, true, [(.str (nat_lit 0) (nat_lit 0)), (.ref (nat_lit 3) (nat_lit 0) (nat_lit 0) (nat_lit 0)), (.int (nat_lit 9223372036854775808)), (.int (nat_lit 9223372036854775808))]⟩,
 ⟨.struct [(0, 9), (1, 23), (2, 3), (3, 3)], 4, true, [(.str (nat_lit 0) (nat_lit 0)), (.ref (nat_lit 3) (nat_lit 0) (nat_lit 0) (nat_lit 0)), (.int (nat_lit 9223372036854775808)), (.int (nat_lit 9223372036854775808))]⟩,
 ⟨.other, 1, false, [(.ref (nat_lit 9) (nat_lit 0) (nat_lit 0) (nat_lit 0))]⟩,
 ⟨.ptr 3, 1, false, [(.ref (nat_lit 4) (nat_lit 0) (nat_lit 0) (nat_lit 0))]⟩,
 ⟨.other, 1, false, [(.ref (nat_lit 9) (nat_lit 0) (nat_lit 0) (nat_lit 0))]⟩,
 ⟨.other, 1, false, [(.ref (nat_lit 9) (nat_lit 0) (nat_lit 0) (nat_lit 0))]⟩,
 ⟨.other, 1, false, [(.ref (nat_lit 9) (nat_lit 0) (nat_lit 0) (nat_lit 0))]⟩,
 ⟨.other, 1, false, [(.ref (nat_lit 9) (nat_lit 0) (nat_lit 0) (nat_lit 0))]⟩,
 ⟨.other, 1, false, [(.ref (nat_lit 9) (nat_lit 0) (nat_lit 0) (nat_lit 0))]⟩,
 ⟨.other, 1, false, [(.ref (nat_lit 9) (nat_lit 0) (nat_lit 0) (nat_lit 0))]⟩,
 ⟨.other, 1, false, [(.ref (nat_lit 9) (nat_lit 0) (nat_lit 0) (nat_lit 0))]⟩,
 ⟨.other, 1, false, [(.ref (nat_lit 9) (nat_lit 0) (nat_lit 0) (nat_lit 0))]⟩,
 ⟨.other, 1, false, [(.nd (nat_lit 1) (.cn (.nd (nat_lit 0) (.cn (.str (nat_lit 0) (nat_lit 0)) (.cn (.ref (nat_lit 3) (nat_lit 0) (nat_lit 0) (nat_lit 0)) (.cn (.int (nat_lit 9223372036854775808)) (.cn (.int (nat_lit 9223372036854775808)) .nl))))) (.cn (.bool false) .nl)))]⟩,
 ⟨.other, 1, false, [(.ref (nat_lit 9) (nat_lit 0) (nat_lit 0) (nat_lit 0))]⟩,
 ⟨.other, 1, false, [(.ref (nat_lit 9) (nat_lit 0) (nat_lit 0) (nat_lit 0))]⟩,
 ⟨.other, 1, false, [(.ref (nat_lit 9) (nat_lit 0) (nat_lit 0) (nat_lit 0))]⟩,
 ⟨.other, 1, false, [(.ref (nat_lit 9) (nat_lit 0) (nat_lit 0) (nat_lit 0))]⟩,
 ⟨.other, 1, false, [(.ref (nat_lit 9) (nat_lit 0) (nat_lit 0) (nat_lit 0))]⟩,
 ⟨.ptr 137, 1, false, [(.ref (nat_lit 4) (nat_lit 0) (nat_lit 0) (nat_lit 0))]⟩,
 ⟨.struct [(0, 9), (1, 3), (2, 4)], 3, true, [(.str (nat_lit 0) (nat_lit 0)), (.int (nat_lit 9223372036854775808)), (.bool false)]⟩,
 ⟨.struct [(0, 9), (1, 3), (2, 4)], 3, true, [(.str (nat_lit 0) (nat_lit 0)), (.int (nat_lit 9223372036854775808)), (.bool false)]⟩,
 ⟨.other, 1, false, [(.ref (nat_lit 9) (nat_lit 0) (nat_lit 0) (nat_lit 0))]⟩,
 ⟨.other, 1, false, [(.ref (nat_lit 9) (nat_lit 0) (nat_lit 0) (nat_lit 0))]⟩,
 ⟨.other, 1, false, [(.ref (nat_lit 9) (nat_lit 0) (nat_lit 0) (nat_lit 0))]⟩,
 ⟨.other, 1, false, [(.nd (nat_lit 1) (.cn (.nd (nat_lit 0) (.cn (.ref (nat_lit 3) (nat_lit 0) (nat_lit 0) (nat_lit 0)) (.cn (.ref (nat_lit 3) (nat_lit 0) (nat_lit 0) (nat_lit 0)) (.cn (.ref (nat_lit 3) (nat_lit 0) (nat_lit 0) (nat_lit 0)) .nl)))) (.cn (.bool false) .nl)))]⟩,
 ⟨.other, 1, false, [(.ref (nat_lit 9) (nat_lit 0) (nat_lit 0) (nat_lit 0))]⟩,
 ⟨.other, 1, false, [(.ref (nat_lit 9) (nat_lit 0) (nat_lit 0) (nat_lit 0))]⟩,
 ⟨.other, 1, false, [(.ref (nat_lit 9) (nat_lit 0) (nat_lit 0) (nat_lit 0))]⟩,
 ⟨.other, 1, false, [(.ref (nat_lit 9) (nat_lit 0) (nat_lit 0) (nat_lit 0))]⟩,
 ⟨.other, 1, false, [(.ref (nat_lit 9) (nat_lit 0) (nat_lit 0) (nat_lit 0))]⟩,
 ⟨.other, 1, false, [(.ref (nat_lit 9) (nat_lit 0) (nat_lit 0) (nat_lit 0))]⟩,
 ⟨.other, 1, false, [(.ref (nat_lit 9) (nat_lit 0) (nat_lit 0) (nat_lit 0))]⟩,
 ⟨.ptr 47, 1, false, [(.ref (nat_lit 4) (nat_lit 0) (nat_lit 0) (nat_lit 0))]⟩,
 ⟨.slice 166, 1, false, [(.ref (nat_lit 3) (nat_lit 0) (nat_lit 0) (nat_lit 0))]⟩,
 ⟨.struct [(0, 3), (1, 3), (2, 3), (3, 150)], 4, true, [(.int (nat_lit 9223372036854775808)), (.int (nat_lit 9223372036854775808)), (.int (nat_lit 9223372036854775808)), (.ref (nat_lit 3) (nat_lit 0) (nat_lit 0) (nat_lit 0))]⟩,
 ⟨.struct [(0, 3), (1, 3), (2, 3), (3, 150)], 4, true, [(.int (nat_lit 9223372036854775808)), (.int (nat_lit 9223372036854775808)), (.int (nat_lit 9223372036854775808)), (.ref (nat_lit 3) (nat_lit 0) (nat_lit 0) (nat_lit 0))]⟩,
 ⟨.struct [(0, 149), (1, 83), (2, 83), (3, 83), (4, 152)], 8, true, [(.ref (nat_lit 4) (nat_lit 0) (nat_lit 0) (nat_lit 0)), (.ref (nat_lit 5) (nat_lit 0) (nat_lit 0) (nat_lit 0)), (.ref (nat_lit 5) (nat_lit 0) (nat_lit 0) (nat_lit 0)), (.ref (nat_lit 5) (nat_lit 0) (nat_lit 0) (nat_lit 0)), (.int (nat_lit 9223372036854775808)), (.int (nat_lit 9223372036854775808)), (.int (nat_lit 9223372036854775808)), (.ref (nat_lit 3) (nat_lit 0) (nat_lit 0) (nat_lit 0))]⟩,
 ⟨.struct [(0, 149), (1, 83), (2, 83), (3, 83), (4, 152)], 8, true, [(.ref (nat_lit 4) (nat_lit 0) (nat_lit 0) (nat_lit 0)), (.ref (nat_lit 5) (nat_lit 0) (nat_lit 0) (nat_lit 0)), (.ref (nat_lit 5) (nat_lit 0) (nat_lit 0) (nat_lit 0)), (.ref (nat_lit 5) (nat_lit 0) (nat_lit 0) (nat_lit 0)), (.int (nat_lit 9223372036854775808)), (.int (nat_lit 9223372036854775808)), (.int (nat_lit 9223372036854775808)), (.ref (nat_lit 3) (nat_lit 0) (nat_lit 0) (nat_lit 0))]⟩,
 ⟨.other, 1, false, [(.ref (nat_lit 9) (nat_lit 0) (nat_lit 0) (nat_lit 0))]⟩,
 ⟨.other, 1, false, [(.ref (nat_lit 9) (nat_lit 0) (nat_lit 0) (nat_lit 0))]⟩,
 ⟨.other, 1, false, [(.ref (nat_lit 9) (nat_lit 0) (nat_lit 0) (nat_lit 0))]⟩,
 ⟨.slice 23, 1, false, [(.ref (nat_lit 3) (nat_lit 0) (nat_lit 0) (nat_lit 0))]⟩,
 ⟨.struct [(0, 23), (1, 83)], 2, true, [(.ref (nat_lit 3) (nat_lit 0) (nat_lit 0) (nat_lit 0)), (.ref (nat_lit 5) (nat_lit 0) (nat_lit 0) (nat_lit 0))]⟩,
 ⟨.struct [(0, 23), (1, 83)], 2, true, [(.ref (nat_lit 3) (nat_lit 0) (nat_lit 0) (nat_lit 0)), (.ref (nat_lit 5) (nat_lit 0) (nat_lit 0) (nat_lit 0))]⟩,
 ⟨.other, 1, false, [(.ref (nat_lit 9) (nat_lit 0) (nat_lit 0) (nat_lit 0))]⟩,
 ⟨.ptr 160, 1, false, [(.ref (nat_lit 4) (nat_lit 0) (nat_lit 0) (nat_lit 0))]⟩,
 ⟨.other, 1, false, [(.nd (nat_lit 1) (.cn (.ref (nat_lit 3) (nat_lit 0) (nat_lit 0) (nat_lit 0)) (.cn (.bool false) .nl)))]⟩,
 ⟨.other, 1, false, [(.ref (nat_lit 9) (nat_lit 0) (nat_lit 0) (nat_lit 0))]⟩,
 ⟨.struct [(0, 3), (1, 3), (2, 26)], 6, true, [(.int (nat_lit 9223372036854775808)), (.int (nat_lit 9223372036854775808)), (.int (nat_lit 9223372036854775808)), (.int (nat_lit 9223372036854775808)), (.str (nat_lit 0) (nat_lit 0)), (.ref (nat_lit 3) (nat_lit 0) (nat_lit 0) (nat_lit 0))]⟩,
 ⟨.struct [(0, 3), (1, 3), (2, 26)], 6, true, [(.int (nat_lit 9223372036854775808)), (.int (nat_lit 9223372036854775808)), (.int (nat_lit 9223372036854775808)), (.int (nat_lit 9223372036854775808)), (.str (nat_lit 0) (nat_lit 0)), (.ref (nat_lit 3) (nat_lit 0) (nat_lit 0) (nat_lit 0))]⟩,
 ⟨.other, 1, false, [(.ref (nat_lit 9) (nat_lit 0) (nat_lit 0) (nat_lit 0))]⟩,
 ⟨.other, 1, false, [(.ref (nat_lit 9) (nat_lit 0) (nat_lit 0) (nat_lit 0))]⟩,
 ⟨.struct [(0, 9), (1, 3), (2, 3)], 3, true, [(.str (nat_lit 0) (nat_lit 0)), (.int (nat_lit 9223372036854775808)), (.int (nat_lit 9223372036854775808))]⟩,
 ⟨.struct [(0, 9), (1, 3), (2, 3)], 3, true, [(.str (nat_lit 0) (nat_lit 0)), (.int (nat_lit 9223372036854775808)), (.int (nat_lit 9223372036854775808))]⟩,
 ⟨.other, 1, false, [(.nd (nat_lit 1) (.cn (.nd (nat_lit 0) (.cn (.int (nat_lit 9223372036854775808)) (.cn (.int (nat_lit 9223372036854775808)) (.cn (.str (nat_lit 0) (nat_lit 0)) (.cn (.ref (nat_lit 3) (nat_lit 0) (nat_lit 0) (nat_lit 0)) .nl))))) (.cn (.bool false) .nl)))]⟩,
 ⟨.other, 1, false, [(.ref (nat_lit 9) (nat_lit 0) (nat_lit 0) (nat_lit 0))]⟩,
 ⟨.other, 1, false, [(.nd (nat_lit 1) (.cn (.ref (nat_lit 3) (nat_lit 0) (nat_lit 0) (nat_lit 0)) (.cn (.bool false) .nl)))]⟩,
 ⟨.other, 1, false, [(.ref (nat_lit 9) (nat_lit 0) (nat_lit 0) (nat_lit 0))]⟩,
 ⟨.other, 1, false, [(.ref (nat_lit 9) (nat_lit 0) (nat_lit 0) (nat_lit 0))]⟩,
 ⟨.other, 1, false, [(.ref (nat_lit 9) (nat_lit 0) (nat_lit 0) (nat_lit 0))]⟩,
 ⟨.other, 1, false, [(.ref (nat_lit 9) (nat_lit 0) (nat_lit 0) (nat_lit 0))]⟩,
 ⟨.other, 1, false, [(.ref (nat_lit 9) (nat_lit 0) (nat_lit 0) (nat_lit 0))]⟩,
 ⟨.other, 1, false, [(.ref (nat_lit 9) (nat_lit 0) (nat_lit 0) (nat_lit 0))]⟩,
 ⟨.other, 1, false, [(.ref (nat_lit 9) (nat_lit 0) (nat_lit 0) (nat_lit 0))]⟩,
 ⟨.ptr 59, 1, false, [(.ref (nat_lit 4) (nat_lit 0) (nat_lit 0) (nat_lit 0))]⟩,
 ⟨.other, 1, false, [(.ref (nat_lit 9) (nat_lit 0) (nat_lit 0) (nat_lit 0))]⟩,
 ⟨.struct [(0, 9), (1, 23), (2, 29)], 10, true, [(.str (nat_lit 0) (nat_lit 0)), (.ref (nat_lit 3) (nat_lit 0) (nat_lit 0) (nat_lit 0)), (.int (nat_lit 9223372036854775808)), (.int (nat_lit 9223372036854775808)), (.ref (nat_lit 3) (nat_lit 0) (nat_lit 0) (nat_lit 0)), (.int (nat_lit 9223372036854775808)), (.int (nat_lit 9223372036854775808)), (.str (nat_lit 0) (nat_lit 0)), (.ref (nat_lit 3) (nat_lit 0) (nat_lit 0) (nat_lit 0)), (.ref (nat_lit 3) (nat_lit 0) (nat_lit 0) (nat_lit 0))]⟩,
 ⟨.struct [(0, 9), (1, 23), (2, 29)], 10, true, [(.str (nat_lit 0) (nat_lit 0)), (.ref (nat_lit 3) (nat_lit 0) (nat_lit 0) (nat_lit 0)), (.int (nat_lit 9223372036854775808)), (.int (nat_lit 9223372036854775808)), (.ref (nat_lit 3) (nat_lit 0) (nat_lit 0) (nat_lit 0)), (.int (nat_lit 9223372036854775808)), (.int (nat_lit 9223372036854775808)), (.str (nat_lit 0) (nat_lit 0)), (.ref (nat_lit 3) (nat_lit 0) (nat_lit 0) (nat_lit 0)), (.ref (nat_lit 3) (nat_lit 0) (nat_lit 0) (nat_lit 0))]⟩,
 ⟨.other, 1, false, [(.ref (nat_lit 9) (nat_lit 0) (nat_lit 0) (nat_lit 0))]⟩,
 ⟨.other, 1, false, [(.ref (nat_lit 9) (nat_lit 0) (nat_lit 0) (nat_lit 0))]⟩,
 ⟨.other, 1, false, [(.nd (nat_lit 1) (.cn (.nd (nat_lit 0) (.cn (.int (nat_lit 9223372036854775808)) (.cn (.int (nat_lit 9223372036854775808)) (.cn (.ref (nat_lit 3) (nat_lit 0) (nat_lit 0) (nat_lit 0)) (.cn (.int (nat_lit 9223372036854775808)) (.cn (.int (nat_lit 9223372036854775808)) (.cn (.str (nat_lit 0) (nat_lit 0)) (.cn (.ref (nat_lit 3) (nat_lit 0) (nat_lit 0) (nat_lit 0)) (.cn (.ref (nat_lit 3) (nat_lit 0) (nat_lit 0) (nat_lit 0)) .nl))))))))) (.cn (.int (nat_lit 9223372036854775808)) .nl)))]⟩,
 ⟨.other, 1, false, [(.ref (nat_lit 9) (nat_lit 0) (nat_lit 0) (nat_lit 0))]⟩,
 ⟨.other, 1, false, [(.ref (nat_lit 9) (nat_lit 0) (nat_lit 0) (nat_lit 0))]⟩,
 ⟨.ptr 29, 1, false, [(.ref (nat_lit 4) (nat_lit 0) (nat_lit 0) (nat_lit 0))]⟩,
 ⟨.other, 1, false, [(.ref (nat_lit 9) (nat_lit 0) (nat_lit 0) (nat_lit 0))]⟩,
 ⟨.slice 194, 1, false, [(.ref (nat_lit 3) (nat_lit 0) (nat_lit 0) (nat_lit 0))]⟩,
 ⟨.struct [(0, 9), (1, 23), (2, 23), (3, 47)], 5, true, [(.str (nat_lit 0) (nat_lit 0)), (.ref (nat_lit 3) (nat_lit 0) (nat_lit 0) (nat_lit 0)), (.ref (nat_lit 3) (nat_lit 0) (nat_lit 0) (nat_lit 0)), (.ref (nat_lit 3) (nat_lit 0) (nat_lit 0) (nat_lit 0)), (.int (nat_lit 9223372036854775808))]⟩,
 ⟨.struct [(0, 9), (1, 23), (2, 23), (3, 47)], 5, true, [(.str (nat_lit 0) (nat_lit 0)), (.ref (nat_lit 3) (nat_lit 0) (nat_lit 0) (nat_lit 0)), (.ref (nat_lit 3) (nat_lit 0) (nat_lit 0) (nat_lit 0)), (.ref (nat_lit 3) (nat_lit 0) (nat_lit 0) (nat_lit 0)), (.int (nat_lit 9223372036854775808))]⟩,
 ⟨.other, 1, false, [(.nd (nat_lit 1) (.cn (.nd (nat_lit 0) (.cn (.str (nat_lit 0) (nat_lit 0)) (.cn (.ref (nat_lit 3) (nat_lit 0) (nat_lit 0) (nat_lit 0)) (.cn (.ref (nat_lit 3) (nat_lit 0) (nat_lit 0) (nat_lit 0)) (.cn (.ref (nat_lit 3) (nat_lit 0) (nat_lit 0) (nat_lit 0)) (.cn (.int (nat_lit 9223372036854775808)) .nl)))))) (.cn (.bool false) .nl)))]⟩,
 ⟨.other, 1, false, [(.ref (nat_lit 9) (nat_lit 0) (nat_lit 0) (nat_lit 0))]⟩,
 ⟨.other, 1, false, [(.ref (nat_lit 9) (nat_lit 0) (nat_lit 0) (nat_lit 0))]⟩,
 ⟨.other, 1, false, [(.ref (nat_lit 9) (nat_lit 0) (nat_lit 0) (nat_lit 0))]⟩,
 ⟨.other, 1, false, [(.ref (nat_lit 9) (nat_lit 0) (nat_lit 0) (nat_lit 0))]⟩,
 ⟨.other, 1, false, [(.ref (nat_lit 9) (nat_lit 0) (nat_lit 0) (nat_lit 0))]⟩,
 ⟨.slice 289, 1, false, [(.ref (nat_lit 3) (nat_lit 0) (nat_lit 0) (nat_lit 0))]⟩,
 ⟨.other, 1, false, [(.nd (nat_lit 1) (.cn (.ref (nat_lit 3) (nat_lit 0) (nat_lit 0) (nat_lit 0)) (.cn (.bool false) .nl)))]⟩,
 ⟨.other, 1, false, [(.ref (nat_lit 9) (nat_lit 0) (nat_lit 0) (nat_lit 0))]⟩,
 ⟨.other, 1, false, [(.ref (nat_lit 9) (nat_lit 0) (nat_lit 0) (nat_lit 0))]⟩,
 ⟨.other, 1, false, [(.ref (nat_lit 9) (nat_lit 0) (nat_lit 0) (nat_lit 0))]⟩,
 ⟨.slice 37, 1, false, [(.ref (nat_lit 3) (nat_lit 0) (nat_lit 0) (nat_lit 0))]⟩,
 ⟨.other, 1, false, [(.ref (nat_lit 9) (nat_lit 0) (nat_lit 0) (nat_lit 0))]⟩,
 ⟨.other, 1, false, [(.ref (nat_lit 9) (nat_lit 0) (nat_lit 0) (nat_lit 0))]⟩,
 ⟨.other, 1, false, [(.ref (nat_lit 9) (nat_lit 0) (nat_lit 0) (nat_lit 0))]⟩,
 ⟨.other, 1, false, [(.nd (nat_lit 1) (.cn (.nd (nat_lit 0) (.cn (.str (nat_lit 0) (nat_lit 0)) (.cn (.ref (nat_lit 3) (nat_lit 0) (nat_lit 0) (nat_lit 0)) (.cn (.int (nat_lit 9223372036854775808)) (.cn (.int (nat_lit 9223372036854775808)) .nl))))) (.cn (.int (nat_lit 9223372036854775808)) .nl)))]⟩,
 ⟨.other, 1, false, [(.ref (nat_lit 9) (nat_lit 0) (nat_lit 0) (nat_lit 0))]⟩,
 ⟨.other, 1, false, [(.ref (nat_lit 9) (nat_lit 0) (nat_lit 0) (nat_lit 0))]⟩,
 ⟨.other, 1, false, [(.nd (nat_lit 1) (.cn (.nd (nat_lit 0) (.cn (.int (nat_lit 9223372036854775808)) (.cn (.int (nat_lit 9223372036854775808)) (.cn (.str (nat_lit 0) (nat_lit 0)) (.cn (.ref (nat_lit 3) (nat_lit 0) (nat_lit 0) (nat_lit 0)) (.cn (.ref (nat_lit 3) (nat_lit 0) (nat_lit 0) (nat_lit 0)) .nl)))))) (.cn (.bool false) .nl)))]⟩,
 ⟨.other, 1, false, [(.ref (nat_lit 9) (nat_lit 0) (nat_lit 0) (nat_lit 0))]⟩,
 ⟨.other, 1, false, [(.ref (nat_lit 9) (nat_lit 0) (nat_lit 0) (nat_lit 0))]⟩,
 ⟨.other, 1, false, [(.ref (nat_lit 9) (nat_lit 0) (nat_lit 0) (nat_lit 0))]⟩,
 ⟨.other, 1, false, [(.ref (nat_lit 9) (nat_lit 0) (nat_lit 0) (nat_lit 0))]⟩,
 ⟨.other, 1, false, [(.nd (nat_lit 1) (.cn (.ref (nat_lit 3) (nat_lit 0) (nat_lit 0) (nat_lit 0)) (.cn (.ref (nat_lit 3) (nat_lit 0) (nat_lit 0) (nat_lit 0)) .nl)))]⟩,
 ⟨.other, 1, false, [(.ref (nat_lit 9) (nat_lit 0) (nat_lit 0) (nat_lit 0))]⟩,
 ⟨.other, 1, false, [(.ref (nat_lit 9) (nat_lit 0) (nat_lit 0) (nat_lit 0))]⟩,
 ⟨.other, 1, false, [(.ref (nat_lit 9) (nat_lit 0) (nat_lit 0) (nat_lit 0))]⟩,
 ⟨.other, 1, false, [(.ref (nat_lit 9) (nat_lit 0) (nat_lit 0) (nat_lit 0))]⟩,
 ⟨.other, 1, false, [(.ref (nat_lit 9) (nat_lit 0) (nat_lit 0) (nat_lit 0))]⟩,
 ⟨.other, 1, false, [(.ref (nat_lit 9) (nat_lit 0) (nat_lit 0) (nat_lit 0))]⟩,
 ⟨.other, 1, false, [(.ref (nat_lit 9) (nat_lit 0) (nat_lit 0) (nat_lit 0))]⟩,
 ⟨.other, 1, false, [(.ref (nat_lit 9) (nat_lit 0) (nat_lit 0) (nat_lit 0))]⟩,
 ⟨.other, 1, false, [(.ref (nat_lit 9) (nat_lit 0) (nat_lit 0) (nat_lit 0))]⟩,
 ⟨.other, 1, false, [(.ref (nat_lit 9) (nat_lit 0) (nat_lit 0) (nat_lit 0))]⟩,
 ⟨.other, 1, false, [(.ref (nat_lit 9) (nat_lit 0) (nat_lit 0) (nat_lit 0))]⟩,
 ⟨.ptr 154, 1, false, [(.ref (nat_lit 4) (nat_lit 0) (nat_lit 0) (nat_lit 0))]⟩,
 ⟨.other, 1, false, [(.ref (nat_lit 9) (nat_lit 0) (nat_lit 0) (nat_lit 0))]⟩,
 ⟨.other, 1, false, [(.ref (nat_lit 9) (nat_lit 0) (nat_lit 0) (nat_lit 0))]⟩,
 ⟨.other, 1, false, [(.ref (nat_lit 9) (nat_lit 0) (nat_lit 0) (nat_lit 0))]⟩,
 ⟨.other, 1, false, [(.ref (nat_lit 9) (nat_lit 0) (nat_lit 0) (nat_lit 0))]⟩,
 ⟨.other, 1, false, [(.ref (nat_lit 9) (nat_lit 0) (nat_lit 0) (nat_lit 0))]⟩,
 ⟨.other, 1, false, [(.ref (nat_lit 9) (nat_lit 0) (nat_lit 0) (nat_lit 0))]⟩,
 ⟨.other, 1, false, [(.ref (nat_lit 9) (nat_lit 0) (nat_lit 0) (nat_lit 0))]⟩,
 ⟨.other, 1, false, [(.nd (nat_lit 1) (.cn (.int (nat_lit 9223372036854775808)) (.cn (.int (nat_lit 9223372036854775808)) .nl)))]⟩,
 ⟨.other, 1, false, [(.ref (nat_lit 9) (nat_lit 0) (nat_lit 0) (nat_lit 0))]⟩,
 ⟨.slice 316, 1, false, [(.ref (nat_lit 3) (nat_lit 0) (nat_lit 0) (nat_lit 0))]⟩,
 ⟨.ptr 243, 1, false, [(.ref (nat_lit 4) (nat_lit 0) (nat_lit 0) (nat_lit 0))]⟩,
 ⟨.struct [(0, 3), (1, 3), (2, 240), (3, 240), (4, 240), (5, 4)], 6, true, [(.int (nat_lit 9223372036854775808)), (.int (nat_lit 9223372036854775808)), (.ref (nat_lit 3) (nat_lit 0) (nat_lit 0) (nat_lit 0)), (.ref (nat_lit 3) (nat_lit 0) (nat_lit 0) (nat_lit 0)), (.ref (nat_lit 3) (nat_lit 0) (nat_lit 0) (nat_lit 0)), (.bool false)]⟩,
 ⟨.struct [(0, 3), (1, 3), (2, 240), (3, 240), (4, 240), (5, 4)], 6, true, [(.int (nat_lit 9223372036854775808)), (.int (nat_lit 9223372036854775808)), (.ref (nat_lit 3) (nat_lit 0) (nat_lit 0) (nat_lit 0)), (.ref (nat_lit 3) (nat_lit 0) (nat_lit 0) (nat_lit 0)), (.ref (nat_lit 3) (nat_lit 0) (nat_lit 0) (nat_lit 0)), (.bool false)]⟩,
 ⟨.other, 1, false, [(.ref (nat_lit 9) (nat_lit 0) (nat_lit 0) (nat_lit 0))]⟩,
 ⟨.other, 1, false, [(.ref (nat_lit 9) (nat_lit 0) (nat_lit 0) (nat_lit 0))]⟩,
 ⟨.other, 1, false, [(.ref (nat_lit 9) (nat_lit 0) (nat_lit 0) (nat_lit 0))]⟩,
 ⟨.other, 1, false, [(.ref (nat_lit 9) (nat_lit 0) (nat_lit 0) (nat_lit 0))]⟩,
 ⟨.ptr 170, 1, false, [(.ref (nat_lit 4) (nat_lit 0) (nat_lit 0) (nat_lit 0))]⟩,
 ⟨.other, 1, false, [(.ref (nat_lit 9) (nat_lit 0) (nat_lit 0) (nat_lit 0))]⟩,
 ⟨.other, 1, false, [(.ref (nat_lit 9) (nat_lit 0) (nat_lit 0) (nat_lit 0))]⟩,
 ⟨.struct [(0, 33), (5, 3)], 6, true, [(.ref (nat_lit 3) (nat_lit 0) (nat_lit 0) (nat_lit 0)), (.ref (nat_lit 3) (nat_lit 0) (nat_lit 0) (nat_lit 0)), (.int (nat_lit 9223372036854775808)), (.int (nat_lit 9223372036854775808)), (.int (nat_lit 9223372036854775808)), (.int (nat_lit 9223372036854775808))]⟩,
 ⟨.struct [(0, 33), (5, 3)], 6, true, [(.ref (nat_lit 3) (nat_lit 0) (nat_lit 0) (nat_lit 0)), (.ref (nat_lit 3) (nat_lit 0) (nat_lit 0) (nat_lit 0)), (.int (nat_lit 9223372036854775808)), (.int (nat_lit 9223372036854775808)), (.int (nat_lit 9223372036854775808)), (.int (nat_lit 9223372036854775808))]⟩,
 ⟨.other, 1, false, [(.ref (nat_lit 9) (nat_lit 0) (nat_lit 0) (nat_lit 0))]⟩,
 ⟨.map 9 3, 1, false, [(.ref (nat_lit 5) (nat_lit 0) (nat_lit 0) (nat_lit 0))]⟩,
 ⟨.other, 1, false, [(.ref (nat_lit 9) (nat_lit 0) (nat_lit 0) (nat_lit 0))]⟩,
 ⟨.map 259 3, 1, false, [(.ref (nat_lit 5) (nat_lit 0) (nat_lit 0) (nat_lit 0))]⟩,
 ⟨.struct [(0, 9), (1, 9), (2, 3), (3, 3)], 4, true, [(.str (nat_lit 0) (nat_lit 0)), (.str (nat_lit 0) (nat_lit 0)), (.int (nat_lit 9223372036854775808)), (.int (nat_lit 9223372036854775808))]⟩,
 ⟨.struct [(0, 9), (1, 9), (2, 3), (3, 3)], 4, true, [(.str (nat_lit 0) (nat_lit 0)), (.str (nat_lit 0) (nat_lit 0)), (.int (nat_lit 9223372036854775808)), (.int (nat_lit 9223372036854775808))]⟩,
 ⟨.arr 2 9, 2, true, [(.str (nat_lit 0) (nat_lit 0)), (.str (nat_lit 0) (nat_lit 0))]⟩,
 ⟨.other, 1, false, [(.ref (nat_lit 9) (nat_lit 0) (nat_lit 0) (nat_lit 0))]⟩,
 ⟨.other, 1, false, [(.ref (nat_lit 9) (nat_lit 0) (nat_lit 0) (nat_lit 0))]⟩,
 ⟨.other, 1, false, [(.ref (nat_lit 9) (nat_lit 0) (nat_lit 0) (nat_lit 0))]⟩,
 ⟨.ptr 252, 1, false, [(.ref (nat_lit 4) (nat_lit 0) (nat_lit 0) (nat_lit 0))]⟩,
 ⟨.other, 1, false, [(.ref (nat_lit 9) (nat_lit 0) (nat_lit 0) (nat_lit 0))]⟩,
 ⟨.slice 345, 1, false, [(.ref (nat_lit 3) (nat_lit 0) (nat_lit 0) (nat_lit 0))]⟩,
 ⟨.other, 1, false, [(.nd (nat_lit 1) (.cn (.ref (nat_lit 3) (nat_lit 0) (nat_lit 0) (nat_lit 0)) (.cn (.int (nat_lit 9223372036854775808)) .nl)))]⟩,
 ⟨.other, 1, false, [(.ref (nat_lit 9) (nat_lit 0) (nat_lit 0) (nat_lit 0))]⟩,
 ⟨.other, 1, false, [(.nd (nat_lit 1) (.cn (.ref (nat_lit 3) (nat_lit 0) (nat_lit 0) (nat_lit 0)) (.cn (.ref (nat_lit 3) (nat_lit 0) (nat_lit 0) (nat_lit 0)) (.cn (.int (nat_lit 9223372036854775808)) .nl))))]⟩,
 ⟨.other, 1, false, [(.ref (nat_lit 9) (nat_lit 0) (nat_lit 0) (nat_lit 0))]⟩,
 ⟨.other, 1, false, [(.ref (nat_lit 9) (nat_lit 0) (nat_lit 0) (nat_lit 0))]⟩,
 ⟨.ptr 94, 1, false, [(.ref (nat_lit 4) (nat_lit 0) (nat_lit 0) (nat_lit 0))]⟩,
 ⟨.ptr 356, 1, false, [(.ref (nat_lit 4) (nat_lit 0) (nat_lit 0) (nat_lit 0))]⟩,
 ⟨.struct [(0, 3), (1, 3), (2, 9)], 3, true, [(.int (nat_lit 9223372036854775808)), (.int (nat_lit 9223372036854775808)), (.str (nat_lit 0) (nat_lit 0))]⟩,
 ⟨.struct [(0, 3), (1, 3), (2, 9)], 3, true, [(.int (nat_lit 9223372036854775808)), (.int (nat_lit 9223372036854775808)), (.str (nat_lit 0) (nat_lit 0))]⟩,
 ⟨.ptr 359, 1, false, [(.ref (nat_lit 4) (nat_lit 0) (nat_lit 0) (nat_lit 0))]⟩,
 ⟨.struct [(0, 190), (1, 272), (2, 274), (5, 275)], 6, true, [(.ref (nat_lit 4) (nat_lit 0) (nat_lit 0) (nat_lit 0)), (.ref (nat_lit 4) (nat_lit 0) (nat_lit 0) (nat_lit 0)), (.int (nat_lit 9223372036854775808)), (.int (nat_lit 9223372036854775808)), (.str (nat_lit 0) (nat_lit 0)), (.ref (nat_lit 4) (nat_lit 0) (nat_lit 0) (nat_lit 0))]⟩,
 ⟨.struct [(0, 190), (1, 272), (2, 274), (5, 275)], 6, true, [(.ref (nat_lit 4) (nat_lit 0) (nat_lit 0) (nat_lit 0)), (.ref (nat_lit 4) (nat_lit 0) (nat_lit 0) (nat_lit 0)), (.int (nat_lit 9223372036854775808)), (.int (nat_lit 9223372036854775808)), (.str (nat_lit 0) (nat_lit 0)), (.ref (nat_lit 4) (nat_lit 0) (nat_lit 0) (nat_lit 0))]⟩,
 ⟨.other, 1, false, [(.ref (nat_lit 9) (nat_lit 0) (nat_lit 0) (nat_lit 0))]⟩,
 ⟨.ptr 277, 1, false, [(.ref (nat_lit 4) (nat_lit 0) (nat_lit 0) (nat_lit 0))]⟩,
 ⟨.other, 1, false, [(.ref (nat_lit 9) (nat_lit 0) (nat_lit 0) (nat_lit 0))]⟩,
 ⟨.other, 1, false, [(.ref (nat_lit 9) (nat_lit 0) (nat_lit 0) (nat_lit 0))]⟩,
 ⟨.other, 1, false, [(.ref (nat_lit 9) (nat_lit 0) (nat_lit 0) (nat_lit 0))]⟩,
 ⟨.other, 1, false, [(.ref (nat_lit 9) (nat_lit 0) (nat_lit 0) (nat_lit 0))]⟩,
 ⟨.other, 1, false, [(.nd (nat_lit 1) (.cn (.int (nat_lit 9223372036854775808)) (.cn (.bool false) .nl)))]⟩,
 ⟨.other, 1, false, [(.ref (nat_lit 9) (nat_lit 0) (nat_lit 0) (nat_lit 0))]⟩,
 ⟨.other, 1, false, [(.ref (nat_lit 9) (nat_lit 0) (nat_lit 0) (nat_lit 0))]⟩,
 ⟨.other, 1, false, [(.ref (nat_lit 9) (nat_lit 0) (nat_lit 0) (nat_lit 0))]⟩,
 ⟨.struct [(0, 39), (5, 3), (6, 39), (11, 201)], 12, true, [(.int (nat_lit 9223372036854775808)), (.int (nat_lit 9223372036854775808)), (.str (nat_lit 0) (nat_lit 0)), (.ref (nat_lit 3) (nat_lit 0) (nat_lit 0) (nat_lit 0)), (.ref (nat_lit 3) (nat_lit 0) (nat_lit 0) (nat_lit 0)), (.int (nat_lit 9223372036854775808)), (.int (nat_lit 9223372036854775808)), (.int (nat_lit 9223372036854775808)), (.str (nat_lit 0) (nat_lit 0)), (.ref (nat_lit 3) (nat_lit 0) (nat_lit 0) (nat_lit 0)), (.ref (nat_lit 3) (nat_lit 0) (nat_lit 0) (nat_lit 0)), (.ref (nat_lit 3) (nat_lit 0) (nat_lit 0) (nat_lit 0))]⟩,
 ⟨.struct [(0, 39), (5, 3), (6, 39), (11, 201)], 12, true, [(.int (nat_lit 9223372036854775808)), (.int (nat_lit 9223372036854775808)), (.str (nat_lit 0) (nat_lit 0)), (.ref (nat_lit 3) (nat_lit 0) (nat_lit 0) (nat_lit 0)), (.ref (nat_lit 3) (nat_lit 0) (nat_lit 0) (nat_lit 0)), (.int (nat_lit 9223372036854775808)), (.int (nat_lit 9223372036854775808)), (.int (nat_lit 9223372036854775808)), (.str (nat_lit 0) (nat_lit 0)), (.ref (nat_lit 3) (nat_lit 0) (nat_lit 0) (nat_lit 0)), (.ref (nat_lit 3) (nat_lit 0) (nat_lit 0) (nat_lit 0)), (.ref (nat_lit 3) (nat_lit 0) (nat_lit 0) (nat_lit 0))]⟩,
 ⟨.other, 1, false, [(.ref (nat_lit 9) (nat_lit 0) (nat_lit 0) (nat_lit 0))]⟩,
 ⟨.other, 1, false, [(.ref (nat_lit 9) (nat_lit 0) (nat_lit 0) (nat_lit 0))]⟩,
 ⟨.other, 1, false, [(.ref (nat_lit 9) (nat_lit 0) (nat_lit 0) (nat_lit 0))]⟩,
 ⟨.other, 1, false, [(.ref (nat_lit 9) (nat_lit 0) (nat_lit 0) (nat_lit 0))]⟩,
 ⟨.other, 1, false, [(.ref (nat_lit 9) (nat_lit 0) (nat_lit 0) (nat_lit 0))]⟩,
 ⟨.other, 1, false, [(.ref (nat_lit 9) (nat_lit 0) (nat_lit 0) (nat_lit 0))]⟩,
 ⟨.slice 300, 1, false, [(.ref (nat_lit 3) (nat_lit 0) (nat_lit 0) (nat_lit 0))]⟩,
 ⟨.other, 1, false, [(.ref (nat_lit 9) (nat_lit 0) (nat_lit 0) (nat_lit 0))]⟩,
 ⟨.other, 1, false, [(.ref (nat_lit 9) (nat_lit 0) (nat_lit 0) (nat_lit 0))]⟩,
 ⟨.struct [(0, 3), (1, 4), (2, 37), (3, 37)], 4, true, [(.int (nat_lit 9223372036854775808)), (.bool false), (.ref (nat_lit 3) (nat_lit 0) (nat_lit 0) (nat_lit 0)), (.ref (nat_lit 3) (nat_lit 0) (nat_lit 0) (nat_lit 0))]⟩,
 ⟨.struct [(0, 3), (1, 4), (2, 37), (3, 37)], 4, true, [(.int (nat_lit 9223372036854775808)), (.bool false), (.ref (nat_lit 3) (nat_lit 0) (nat_lit 0) (nat_lit 0)), (.ref (nat_lit 3) (nat_lit 0) (nat_lit 0) (nat_lit 0))]⟩,
 ⟨.other, 1, false, [(.nd (nat_lit 1) (.cn (.ref (nat_lit 3) (nat_lit 0) (nat_lit 0) (nat_lit 0)) (.cn (.ref (nat_lit 3) (nat_lit 0) (nat_lit 0) (nat_lit 0)) .nl)))]⟩,
 ⟨.other, 1, false, [(.ref (nat_lit 9) (nat_lit 0) (nat_lit 0) (nat_lit 0))]⟩,
 ⟨.other, 1, false, [(.ref (nat_lit 9) (nat_lit 0) (nat_lit 0) (nat_lit 0))]⟩,
 ⟨.other, 1, false, [(.ref (nat_lit 9) (nat_lit 0) (nat_lit 0) (nat_lit 0))]⟩,
 ⟨.other, 1, false, [(.ref (nat_lit 9) (nat_lit 0) (nat_lit 0) (nat_lit 0))]⟩,
 ⟨.other, 1, false, [(.nd (nat_lit 1) (.cn (.ref (nat_lit 3) (nat_lit 0) (nat_lit 0) (nat_lit 0)) (.cn (.bool false) .nl)))]⟩,
 ⟨.other, 1, false, [(.ref (nat_lit 9) (nat_lit 0) (nat_lit 0) (nat_lit 0))]⟩,
 ⟨.other, 1, false, [(.ref (nat_lit 9) (nat_lit 0) (nat_lit 0) (nat_lit 0))]⟩,
 ⟨.other, 1, false, [(.ref (nat_lit 9) (nat_lit 0) (nat_lit 0) (nat_lit 0))]⟩,
 ⟨.other, 1, false, [(.ref (nat_lit 9) (nat_lit 0) (nat_lit 0) (nat_lit 0))]⟩,
 ⟨.other, 1, false, [(.nd (nat_lit 1) (.cn (.nd (nat_lit 0) (.cn (.int (nat_lit 9223372036854775808)) (.cn (.int (nat_lit 9223372036854775808)) (.cn (.str (nat_lit 0) (nat_lit 0)) .nl)))) (.cn (.bool false) .nl)))]⟩,
 ⟨.other, 1, false, [(.ref (nat_lit 9) (nat_lit 0) (nat_lit 0) (nat_lit 0))]⟩,
 ⟨.other, 1, false, [(.ref (nat_lit 9) (nat_lit 0) (nat_lit 0) (nat_lit 0))]⟩,
 ⟨.ptr 319, 1, false, [(.ref (nat_lit 4) (nat_lit 0) (nat_lit 0) (nat_lit 0))]⟩,
 ⟨.struct [(0, 274), (3, 314)], 4, true, [(.int (nat_lit 9223372036854775808)), (.int (nat_lit 9223372036854775808)), (.str (nat_lit 0) (nat_lit 0)), (.ref (nat_lit 4) (nat_lit 0) (nat_lit 0) (nat_lit 0))]⟩,
 ⟨.struct [(0, 274), (3, 314)], 4, true, [(.int (nat_lit 9223372036854775808)), (.int (nat_lit 9223372036854775808)), (.str (nat_lit 0) (nat_lit 0)), (.ref (nat_lit 4) (nat_lit 0) (nat_lit 0) (nat_lit 0))]⟩,
 ⟨.other, 1, false, [(.ref (nat_lit 9) (nat_lit 0) (nat_lit 0) (nat_lit 0))]⟩,
 ⟨.struct [(0, 274), (3, 4)], 4, true, [(.int (nat_lit 9223372036854775808)), (.int (nat_lit 9223372036854775808)), (.str (nat_lit 0) (nat_lit 0)), (.bool false)]⟩,
 ⟨.struct [(0, 274), (3, 4)], 4, true, [(.int (nat_lit 9223372036854775808)), (.int (nat_lit 9223372036854775808)), (.str (nat_lit 0) (nat_lit 0)), (.bool false)]⟩,
 ⟨.other, 1, false, [(.ref (nat_lit 9) (nat_lit 0) (nat_lit 0) (nat_lit 0))]⟩,
 ⟨.other, 1, false, [(.ref (nat_lit 9) (nat_lit 0) (nat_lit 0) (nat_lit 0))]⟩,
 ⟨.struct [(0, 3), (1, 240)], 2, true, [(.int (nat_lit 9223372036854775808)), (.ref (nat_lit 3) (nat_lit 0) (nat_lit 0) (nat_lit 0))]⟩,
 ⟨.struct [(0, 3), (1, 240)], 2, true, [(.int (nat_lit 9223372036854775808)), (.ref (nat_lit 3) (nat_lit 0) (nat_lit 0) (nat_lit 0))]⟩,
 ⟨.other, 1, false, [(.ref (nat_lit 9) (nat_lit 0) (nat_lit 0) (nat_lit 0))]⟩,
 ⟨.other, 1, false, [(.ref (nat_lit 9) (nat_lit 0) (nat_lit 0) (nat_lit 0))]⟩,
 ⟨.other, 1, false, [(.ref (nat_lit 9) (nat_lit 0) (nat_lit 0) (nat_lit 0))]⟩,
 ⟨.other, 1, false, [(.ref (nat_lit 9) (nat_lit 0) (nat_lit 0) (nat_lit 0))]⟩,
 ⟨.arr 24 5, 24, true, [(.byt (nat_lit 0)), (.byt (nat_lit 0)), (.byt (nat_lit 0)), (.byt (nat_lit 0)), (.byt (nat_lit 0)), (.byt (nat_lit 0)), (.byt (nat_lit 0)), (.byt (nat_lit 0)), (.byt (nat_lit 0)), (.byt (nat_lit 0)), (.byt (nat_lit 0)), (.byt (nat_lit 0)), (.byt (nat_lit 0)), (.byt (nat_lit 0)), (.byt (nat_lit 0)), (.byt (nat_lit 0)), (.byt (nat_lit 0)), (.byt (nat_lit 0)), (.byt (nat_lit 0)), (.byt (nat_lit 0)), (.byt (nat_lit 0)), (.byt (nat_lit 0)), (.byt (nat_lit 0)), (.byt (nat_lit 0))]⟩,
 ⟨.int .u64, 1, false, [junk]⟩,
 ⟨.other, 1, false, [(.ref (nat_lit 9) (nat_lit 0) (nat_lit 0) (nat_lit 0))]⟩,
 ⟨.other, 1, false, [(.ref (nat_lit 9) (nat_lit 0) (nat_lit 0) (nat_lit 0))]⟩,
 ⟨.other, 1, false, [(.nd (nat_lit 1) (.cn (.ref (nat_lit 3) (nat_lit 0) (nat_lit 0) (nat_lit 0)) (.cn (.str (nat_lit 0) (nat_lit 0)) .nl)))]⟩,
 ⟨.other, 1, false, [(.ref (nat_lit 9) (nat_lit 0) (nat_lit 0) (nat_lit 0))]⟩,
 ⟨.other, 1, false, [(.ref (nat_lit 9) (nat_lit 0) (nat_lit 0) (nat_lit 0))]⟩,
 ⟨.other, 1, false, [(.ref (nat_lit 9) (nat_lit 0) (nat_lit 0) (nat_lit 0))]⟩,
 ⟨.other, 1, false, [(.ref (nat_lit 9) (nat_lit 0) (nat_lit 0) (nat_lit 0))]⟩,
 ⟨.other, 1, false, [(.ref (nat_lit 9) (nat_lit 0) (nat_lit 0) (nat_lit 0))]⟩,
 ⟨.other, 1, false, [(.ref (nat_lit 9) (nat_lit 0) (nat_lit 0) (nat_lit 0))]⟩,
 ⟨.other, 1, false, [(.ref (nat_lit 9) (nat_lit 0) (nat_lit 0) (nat_lit 0))]⟩,
 ⟨.other, 1, false, [(.ref (nat_lit 9) (nat_lit 0) (nat_lit 0) (nat_lit 0))]⟩,
 ⟨.other, 1, false, [(.ref (nat_lit 9) (nat_lit 0) (nat_lit 0) (nat_lit 0))]⟩,
 ⟨.other, 1, false, [(.nd (nat_lit 1) (.cn (.nd (nat_lit 0) (.cn (.int (nat_lit 9223372036854775808)) (.cn (.int (nat_lit 9223372036854775808)) (.cn (.str (nat_lit 0) (nat_lit 0)) (.cn (.ref (nat_lit 3) (nat_lit 0) (nat_lit 0) (nat_lit 0)) (.cn (.ref (nat_lit 3) (nat_lit 0) (nat_lit 0) (nat_lit 0)) .nl)))))) (.cn (.int (nat_lit 9223372036854775808)) .nl)))]⟩,
 ⟨.other, 1, false, [(.ref (nat_lit 9) (nat_lit 0) (nat_lit 0) (nat_lit 0))]⟩,
 ⟨.struct [(0, 4), (1, 3), (2, 39), (7, 37), (8, 37)], 9, true, [(.bool false), (.int (nat_lit 9223372036854775808)), (.int (nat_lit 9223372036854775808)), (.int (nat_lit 9223372036854775808)), (.str (nat_lit 0) (nat_lit 0)), (.ref (nat_lit 3) (nat_lit 0) (nat_lit 0) (nat_lit 0)), (.ref (nat_lit 3) (nat_lit 0) (nat_lit 0) (nat_lit 0)), (.ref (nat_lit 3) (nat_lit 0) (nat_lit 0) (nat_lit 0)), (.ref (nat_lit 3) (nat_lit 0) (nat_lit 0) (nat_lit 0))]⟩,
 ⟨.struct [(0, 4), (1, 3), (2, 39), (7, 37), (8, 37)], 9, true, [(.bool false), (.int (nat_lit 9223372036854775808)), (.int (nat_lit 9223372036854775808)), (.int (nat_lit 9223372036854775808)), (.str (nat_lit 0) (nat_lit 0)), (.ref (nat_lit 3) (nat_lit 0) (nat_lit 0) (nat_lit 0)), (.ref (nat_lit 3) (nat_lit 0) (nat_lit 0) (nat_lit 0)), (.ref (nat_lit 3) (nat_lit 0) (nat_lit 0) (nat_lit 0)), (.ref (nat_lit 3) (nat_lit 0) (nat_lit 0) (nat_lit 0))]⟩,
 ⟨.other, 1, false, [(.nd (nat_lit 1) (.cn (.nd (nat_lit 0) (.cn (.bool false) (.cn (.int (nat_lit 9223372036854775808)) (.cn (.int (nat_lit 9223372036854775808)) (.cn (.int (nat_lit 9223372036854775808)) (.cn (.str (nat_lit 0) (nat_lit 0)) (.cn (.ref (nat_lit 3) (nat_lit 0) (nat_lit 0) (nat_lit 0)) (.cn (.ref (nat_lit 3) (nat_lit 0) (nat_lit 0) (nat_lit 0)) (.cn (.ref (nat_lit 3) (nat_lit 0) (nat_lit 0) (nat_lit 0)) (.cn (.ref (nat_lit 3) (nat_lit 0) (nat_lit 0) (nat_lit 0)) .nl)))))))))) (.cn (.int (nat_lit 9223372036854775808)) .nl)))]⟩,
 ⟨.other, 1, false, [(.ref (nat_lit 9) (nat_lit 0) (nat_lit 0) (nat_lit 0))]⟩,
 ⟨.other, 1, false, [(.ref (nat_lit 9) (nat_lit 0) (nat_lit 0) (nat_lit 0))]⟩,
 ⟨.other, 1, false, [(.ref (nat_lit 9) (nat_lit 0) (nat_lit 0) (nat_lit 0))]⟩,
 ⟨.other, 1, false, [(.ref (nat_lit 9) (nat_lit 0) (nat_lit 0) (nat_lit 0))]⟩,
 ⟨.other, 1, false, [(.ref (nat_lit 9) (nat_lit 0) (nat_lit 0) (nat_lit 0))]⟩,
 ⟨.other, 1, false, [(.ref (nat_lit 9) (nat_lit 0) (nat_lit 0) (nat_lit 0))]⟩,
 ⟨.struct [(0, 190), (1, 272)], 2, true, [(.ref (nat_lit 4) (nat_lit 0) (nat_lit 0) (nat_lit 0)), (.ref (nat_lit 4) (nat_lit 0) (nat_lit 0) (nat_lit 0))]⟩,
 ⟨.struct [(0, 190), (1, 272)], 2, true, [(.ref (nat_lit 4) (nat_lit 0) (nat_lit 0) (nat_lit 0)), (.ref (nat_lit 4) (nat_lit 0) (nat_lit 0) (nat_lit 0))]⟩,
 ⟨.struct [(0, 3), (1, 314), (2, 272)], 3, true, [(.int (nat_lit 9223372036854775808)), (.ref (nat_lit 4) (nat_lit 0) (nat_lit 0) (nat_lit 0)), (.ref (nat_lit 4) (nat_lit 0) (nat_lit 0) (nat_lit 0))]⟩,
 ⟨.struct [(0, 3), (1, 314), (2, 272)], 3, true, [(.int (nat_lit 9223372036854775808)), (.ref (nat_lit 4) (nat_lit 0) (nat_lit 0) (nat_lit 0)), (.ref (nat_lit 4) (nat_lit 0) (nat_lit 0) (nat_lit 0))]⟩,
 ⟨.slice 274, 1, false, [(.ref (nat_lit 3) (nat_lit 0) (nat_lit 0) (nat_lit 0))]⟩,
 ⟨.struct [(0, 190), (1, 3), (2, 357), (3, 272), (4, 4), (5, 275)], 6, true, [(.ref (nat_lit 4) (nat_lit 0) (nat_lit 0) (nat_lit 0)), (.int (nat_lit 9223372036854775808)), (.ref (nat_lit 3) (nat_lit 0) (nat_lit 0) (nat_lit 0)), (.ref (nat_lit 4) (nat_lit 0) (nat_lit 0) (nat_lit 0)), (.bool false), (.ref (nat_lit 4) (nat_lit 0) (nat_lit 0) (nat_lit 0))]⟩,
 ⟨.struct [(0, 190), (1, 3), (2, 357), (3, 272), (4, 4), (5, 275)], 6, true, [(.ref (nat_lit 4) (nat_lit 0) (nat_lit 0) (nat_lit 0)), (.int (nat_lit 9223372036854775808)), (.ref (nat_lit 3) (nat_lit 0) (nat_lit 0) (nat_lit 0)), (.ref (nat_lit 4) (nat_lit 0) (nat_lit 0) (nat_lit 0)), (.bool false), (.ref (nat_lit 4) (nat_lit 0) (nat_lit 0) (nat_lit 0))]⟩,
 ⟨.other, 1, false, [(.ref (nat_lit 9) (nat_lit 0) (nat_lit 0) (nat_lit 0))]⟩,
 ⟨.other, 1, false, [(.ref (nat_lit 9) (nat_lit 0) (nat_lit 0) (nat_lit 0))]⟩,
 ⟨.other, 1, false, [(.ref (nat_lit 9) (nat_lit 0) (nat_lit 0) (nat_lit 0))]⟩,
 ⟨.other, 1, false, [(.ref (nat_lit 9) (nat_lit 0) (nat_lit 0) (nat_lit 0))]⟩,
 ⟨.other, 1, false, [(.ref (nat_lit 9) (nat_lit 0) (nat_lit 0) (nat_lit 0))]⟩,
 ⟨.other, 1, false, [(.ref (nat_lit 9) (nat_lit 0) (nat_lit 0) (nat_lit 0))]⟩,
 ⟨.other, 1, false, [(.ref (nat_lit 9) (nat_lit 0) (nat_lit 0) (nat_lit 0))]⟩,
 ⟨.arr 20 9, 20, true, [(.str (nat_lit 0) (nat_lit 0)), (.str (nat_lit 0) (nat_lit 0)), (.str (nat_lit 0) (nat_lit 0)), (.str (nat_lit 0) (nat_lit 0)), (.str (nat_lit 0) (nat_lit 0)), (.str (nat_lit 0) (nat_lit 0)), (.str (nat_lit 0) (nat_lit 0)), (.str (nat_lit 0) (nat_lit 0)), (.str (nat_lit 0) (nat_lit 0)), (.str (nat_lit 0) (nat_lit 0)), (.str (nat_lit 0) (nat_lit 0)), (.str (nat_lit 0) (nat_lit 0)), (.str (nat_lit 0) (nat_lit 0)), (.str (nat_lit 0) (nat_lit 0)), (.str (nat_lit 0) (nat_lit 0)), (.str (nat_lit 0) (nat_lit 0)), (.str (nat_lit 0) (nat_lit 0)), (.str (nat_lit 0) (nat_lit 0)), (.str (nat_lit 0) (nat_lit 0)), (.str (nat_lit 0) (nat_lit 0))]⟩,
 ⟨.other, 1, false, [(.ref (nat_lit 9) (nat_lit 0) (nat_lit 0) (nat_lit 0))]⟩,
 ⟨.other, 1, false, [(.nd (nat_lit 1) (.cn (.nd (nat_lit 0) (.cn (.int (nat_lit 9223372036854775808)) (.cn (.int (nat_lit 9223372036854775808)) (.cn (.str (nat_lit 0) (nat_lit 0)) .nl)))) (.cn (.ref (nat_lit 3) (nat_lit 0) (nat_lit 0) (nat_lit 0)) .nl)))]⟩,
 ⟨.other, 1, false, [(.ref (nat_lit 9) (nat_lit 0) (nat_lit 0) (nat_lit 0))]⟩,
 ⟨.other, 1, false, [(.ref (nat_lit 9) (nat_lit 0) (nat_lit 0) (nat_lit 0))]⟩,
 ⟨.other, 1, false, [(.ref (nat_lit 9) (nat_lit 0) (nat_lit 0) (nat_lit 0))]⟩,
 ⟨.arr 20 329, 20, true, [junk, junk, junk, junk, junk, junk, junk, junk, junk, junk, junk, junk, junk, junk, junk, junk, junk, junk, junk, junk]⟩,
 ⟨.int .u32, 1, false, [junk]⟩,
 ⟨.arr 65 5, 65, true, [(.byt (nat_lit 0)), (.byt (nat_lit 0)), (.byt (nat_lit 0)), (.byt (nat_lit 0)), (.byt (nat_lit 0)), (.byt (nat_lit 0)), (.byt (nat_lit 0)), (.byt (nat_lit 0)), (.byt (nat_lit 0)), (.byt (nat_lit 0)), (.byt (nat_lit 0)), (.byt (nat_lit 0)), (.byt (nat_lit 0)), (.byt (nat_lit 0)), (.byt (nat_lit 0)), (.byt (nat_lit 0)), (.byt (nat_lit 0)), (.byt (nat_lit 0)), (.byt (nat_lit 0)), (.byt (nat_lit 0)), (.byt (nat_lit 0)), (.byt (nat_lit 0)), (.byt (nat_lit 0)), (.byt (nat_lit 0)), (.byt (nat_lit 0)), (.byt (nat_lit 0)), (.byt (nat_lit 0)), (.byt (nat_lit 0)), (.byt (nat_lit 0)), (.byt (nat_lit 0)), (.byt (nat_lit 0)), (.byt (nat_lit 0)), (.byt (nat_lit 0)), (.byt (nat_lit 0)), (.byt (nat_lit 0)), (.byt (nat_lit 0)), (.byt (nat_lit 0)), (.byt (nat_lit 0)), (.byt (nat_lit 0)), (.byt (nat_lit 0)), (.byt (nat_lit 0)), (.byt (nat_lit 0)), (.byt (nat_lit 0)), (.byt (nat_lit 0)), (.byt (nat_lit 0)), (.byt (nat_lit 0)), (.byt (nat_lit 0)), (.byt (nat_lit 0)), (.byt (nat_lit 0)), (.byt (nat_lit 0)), (.byt (nat_lit 0)), (.byt (nat_lit 0)), (.byt (nat_lit 0)), (.byt (nat_lit 0)), (.byt (nat_lit 0)), (.byt (nat_lit 0)), (.byt (nat_lit 0)), (.byt (nat_lit 0)), (.byt (nat_lit 0)), (.byt (nat_lit 0)), (.byt (nat_lit 0)), (.byt (nat_lit 0)), (.byt (nat_lit 0)), (.byt (nat_lit 0)), (.byt (nat_lit 0))]⟩,
 ⟨.int .u64, 1, false, [junk]⟩,
 ⟨.other, 1, false, [(.ref (nat_lit 9) (nat_lit 0) (nat_lit 0) (nat_lit 0))]⟩,
 ⟨.iface, 1, false, [(.ref (nat_lit 6) (nat_lit 0) (nat_lit 0) (nat_lit 0))]⟩,
 ⟨.iface, 1, false, [(.ref (nat_lit 6) (nat_lit 0) (nat_lit 0) (nat_lit 0))]⟩,
 ⟨.other, 1, false, [(.nd (nat_lit 1) (.cn (.int (nat_lit 9223372036854775808)) (.cn (.ref (nat_lit 6) (nat_lit 0) (nat_lit 0) (nat_lit 0)) .nl)))]⟩,
 ⟨.other, 1, false, [(.ref (nat_lit 9) (nat_lit 0) (nat_lit 0) (nat_lit 0))]⟩,
 ⟨.ptr 384, 1, false, [(.ref (nat_lit 4) (nat_lit 0) (nat_lit 0) (nat_lit 0))]⟩,
 ⟨.struct [(0, 382), (1, 22)], 2, true, [(.ref (nat_lit 4) (nat_lit 0) (nat_lit 0) (nat_lit 0)), (.ref (nat_lit 3) (nat_lit 0) (nat_lit 0) (nat_lit 0))]⟩,
 ⟨.struct [(0, 382), (1, 22)], 2, true, [(.ref (nat_lit 4) (nat_lit 0) (nat_lit 0) (nat_lit 0)), (.ref (nat_lit 3) (nat_lit 0) (nat_lit 0) (nat_lit 0))]⟩,
 ⟨.other, 1, false, [(.ref (nat_lit 9) (nat_lit 0) (nat_lit 0) (nat_lit 0))]⟩,
 ⟨.map 9 23, 1, false, [(.ref (nat_lit 5) (nat_lit 0) (nat_lit 0) (nat_lit 0))]⟩,
 ⟨.other, 1, false, [(.ref (nat_lit 9) (nat_lit 0) (nat_lit 0) (nat_lit 0))]⟩,
 ⟨.other, 1, false, [(.ref (nat_lit 9) (nat_lit 0) (nat_lit 0) (nat_lit 0))]⟩,
 ⟨.other, 1, false, [(.nd (nat_lit 1) (.cn (.ref (nat_lit 3) (nat_lit 0) (nat_lit 0) (nat_lit 0)) (.cn (.ref (nat_lit 3) (nat_lit 0) (nat_lit 0) (nat_lit 0)) (.cn (.int (nat_lit 9223372036854775808)) .nl))))]⟩,
 ⟨.other, 1, false, [(.ref (nat_lit 9) (nat_lit 0) (nat_lit 0) (nat_lit 0))]⟩,
 ⟨.other, 1, false, [(.ref (nat_lit 9) (nat_lit 0) (nat_lit 0) (nat_lit 0))]⟩,
 ⟨.other, 1, false, [(.ref (nat_lit 9) (nat_lit 0) (nat_lit 0) (nat_lit 0))]⟩,
 ⟨.other, 1, false, [(.ref (nat_lit 9) (nat_lit 0) (nat_lit 0) (nat_lit 0))]⟩,
 ⟨.other, 1, false, [(.nd (nat_lit 1) (.cn (.ref (nat_lit 3) (nat_lit 0) (nat_lit 0) (nat_lit 0)) (.cn (.int (nat_lit 9223372036854775808)) .nl)))]⟩,
 ⟨.other, 1, false, [(.ref (nat_lit 9) (nat_lit 0) (nat_lit 0) (nat_lit 0))]⟩,
 ⟨.slice 275, 1, false, [(.ref (nat_lit 3) (nat_lit 0) (nat_lit 0) (nat_lit 0))]⟩,
 ⟨.struct [(0, 274), (3, 274)], 6, true, [(.int (nat_lit 9223372036854775808)), (.int (nat_lit 9223372036854775808)), (.str (nat_lit 0) (nat_lit 0)), (.int (nat_lit 9223372036854775808)), (.int (nat_lit 9223372036854775808)), (.str (nat_lit 0) (nat_lit 0))]⟩,
 ⟨.struct [(0, 274), (3, 274)], 6, true, [(.int (nat_lit 9223372036854775808)), (.int (nat_lit 9223372036854775808)), (.str (nat_lit 0) (nat_lit 0)), (.int (nat_lit 9223372036854775808)), (.int (nat_lit 9223372036854775808)), (.str (nat_lit 0) (nat_lit 0))]⟩,
 ⟨.other, 1, false, [(.ref (nat_lit 9) (nat_lit 0) (nat_lit 0) (nat_lit 0))]⟩,
 ⟨.other, 1, false, [(.ref (nat_lit 9) (nat_lit 0) (nat_lit 0) (nat_lit 0))]⟩,
 ⟨.other, 1, false, [(.nd (nat_lit 1) (.cn (.nd (nat_lit 0) (.cn (.int (nat_lit 9223372036854775808)) (.cn (.int (nat_lit 9223372036854775808)) (.cn (.str (nat_lit 0) (nat_lit 0)) .nl)))) (.cn (.str (nat_lit 0) (nat_lit 0)) .nl)))]⟩,
 ⟨.other, 1, false, [(.ref (nat_lit 9) (nat_lit 0) (nat_lit 0) (nat_lit 0))]⟩,
 ⟨.other, 1, false, [(.ref (nat_lit 9) (nat_lit 0) (nat_lit 0) (nat_lit 0))]⟩,
 ⟨.other, 1, false, [(.ref (nat_lit 9) (nat_lit 0) (nat_lit 0) (nat_lit 0))]⟩,
 ⟨.ptr 5, 1, false, [(.ref (nat_lit 4) (nat_lit 0) (nat_lit 0) (nat_lit 0))]⟩,
 ⟨.other, 1, false, [(.ref (nat_lit 9) (nat_lit 0) (nat_lit 0) (nat_lit 0))]⟩,
 ⟨.struct [(0, 30), (1, 37)], 2, true, [(.ref (nat_lit 3) (nat_lit 0) (nat_lit 0) (nat_lit 0)), (.ref (nat_lit 3) (nat_lit 0) (nat_lit 0) (nat_lit 0))]⟩,
 ⟨.struct [(0, 30), (1, 37)], 2, true, [(.ref (nat_lit 3) (nat_lit 0) (nat_lit 0) (nat_lit 0)), (.ref (nat_lit 3) (nat_lit 0) (nat_lit 0) (nat_lit 0))]⟩,
 ⟨.other, 1, false, [(.ref (nat_lit 9) (nat_lit 0) (nat_lit 0) (nat_lit 0))]⟩,
 ⟨.other, 1, false, [(.ref (nat_lit 9) (nat_lit 0) (nat_lit 0) (nat_lit 0))]⟩,
 ⟨.other, 1, false, [(.ref (nat_lit 9) (nat_lit 0) (nat_lit 0) (nat_lit 0))]⟩,
 ⟨.other, 1, false, [(.ref (nat_lit 9) (nat_lit 0) (nat_lit 0) (nat_lit 0))]⟩,
 ⟨.arr 32 5, 32, true, [(.byt (nat_lit 0)), (.byt (nat_lit 0)), (.byt (nat_lit 0)), (.byt (nat_lit 0)), (.byt (nat_lit 0)), (.byt (nat_lit 0)), (.byt (nat_lit 0)), (.byt (nat_lit 0)), (.byt (nat_lit 0)), (.byt (nat_lit 0)), (.byt (nat_lit 0)), (.byt (nat_lit 0)), (.byt (nat_lit 0)), (.byt (nat_lit 0)), (.byt (nat_lit 0)), (.byt (nat_lit 0)), (.byt (nat_lit 0)), (.byt (nat_lit 0)), (.byt (nat_lit 0)), (.byt (nat_lit 0)), (.byt (nat_lit 0)), (.byt (nat_lit 0)), (.byt (nat_lit 0)), (.byt (nat_lit 0)), (.byt (nat_lit 0)), (.byt (nat_lit 0)), (.byt (nat_lit 0)), (.byt (nat_lit 0)), (.byt (nat_lit 0)), (.byt (nat_lit 0)), (.byt (nat_lit 0)), (.byt (nat_lit 0))]⟩,
 ⟨.arr 64 5, 64, true, [(.byt (nat_lit 0)), (.byt (nat_lit 0)), (.byt (nat_lit 0)), (.byt (nat_lit 0)), (.byt (nat_lit 0)), (.byt (nat_lit 0)), (.byt (nat_lit 0)), (.byt (nat_lit 0)), (.byt (nat_lit 0)), (.byt (nat_lit 0)), (.byt (nat_lit 0)), (.byt (nat_lit 0)), (.byt (nat_lit 0)), (.byt (nat_lit 0)), (.byt (nat_lit 0)), (.byt (nat_lit 0)), (.byt (nat_lit 0)), (.byt (nat_lit 0)), (.byt (nat_lit 0)), (.byt (nat_lit 0)), (.byt (nat_lit 0)), (.byt (nat_lit 0)), (.byt (nat_lit 0)), (.byt (nat_lit 0)), (.byt (nat_lit 0)), (.byt (nat_lit 0)), (.byt (nat_lit 0)), (.byt (nat_lit 0)), (.byt (nat_lit 0)), (.byt (nat_lit 0)), (.byt (nat_lit 0)), (.byt (nat_lit 0)), (.byt (nat_lit 0)), (.byt (nat_lit 0)), (.byt (nat_lit 0)), (.byt (nat_lit 0)), (.byt (nat_lit 0)), (.byt (nat_lit 0)), (.byt (nat_lit 0)), (.byt (nat_lit 0)), (.byt (nat_lit 0)), (.byt (nat_lit 0)), (.byt (nat_lit 0)), (.byt (nat_lit 0)), (.byt (nat_lit 0)), (.byt (nat_lit 0)), (.byt (nat_lit 0)), (.byt (nat_lit 0)), (.byt (nat_lit 0)), (.byt (nat_lit 0)), (.byt (nat_lit 0)), (.byt (nat_lit 0)), (.byt (nat_lit 0)), (.byt (nat_lit 0)), (.byt (nat_lit 0)), (.byt (nat_lit 0)), (.byt (nat_lit 0)), (.byt (nat_lit 0)), (.byt (nat_lit 0)), (.byt (nat_lit 0)), (.byt (nat_lit 0)), (.byt (nat_lit 0)), (.byt (nat_lit 0)), (.byt (nat_lit 0))]⟩,
 ⟨.int .i64, 1, false, [(.int (nat_lit 9223372036854775808))]⟩,
 ⟨.other, 1, false, [(.nd (nat_lit 1) (.cn (.int (nat_lit 9223372036854775808)) (.cn (.ref (nat_lit 6) (nat_lit 0) (nat_lit 0) (nat_lit 0)) .nl)))]⟩,
 ⟨.other, 1, false, [(.ref (nat_lit 9) (nat_lit 0) (nat_lit 0) (nat_lit 0))]⟩,
 ⟨.ptr 432, 1, false, [(.ref (nat_lit 4) (nat_lit 0) (nat_lit 0) (nat_lit 0))]⟩,
 ⟨.other, 1, false, [(.ref (nat_lit 9) (nat_lit 0) (nat_lit 0) (nat_lit 0))]⟩,
 ⟨.other, 1, false, [(.ref (nat_lit 9) (nat_lit 0) (nat_lit 0) (nat_lit 0))]⟩,
 ⟨.other, 1, false, [(.ref (nat_lit 4) (nat_lit 0) (nat_lit 0) (nat_lit 0))]⟩,
 ⟨.other, 1, false, [(.ref (nat_lit 9) (nat_lit 0) (nat_lit 0) (nat_lit 0))]⟩,
 ⟨.other, 1, false, [(.ref (nat_lit 9) (nat_lit 0) (nat_lit 0) (nat_lit 0))]⟩,
 ⟨.other, 1, false, [(.ref (nat_lit 9) (nat_lit 0) (nat_lit 0) (nat_lit 0))]⟩,
 ⟨.other, 1, false, [(.ref (nat_lit 9) (nat_lit 0) (nat_lit 0) (nat_lit 0))]⟩,
 ⟨.struct [(0, 3)], 1, true, [(.int (nat_lit 9223372036854775808))]⟩,
 ⟨.struct [(0, 3)], 1, true, [(.int (nat_lit 9223372036854775808))]⟩,
 ⟨.other, 1, false, [(.nd (nat_lit 1) (.cn junk (.cn (.ref (nat_lit 6) (nat_lit 0) (nat_lit 0) (nat_lit 0)) .nl)))]⟩,
 ⟨.other, 1, false, [(.ref (nat_lit 9) (nat_lit 0) (nat_lit 0) (nat_lit 0))]⟩,
 ⟨.other, 1, false, [(.ref (nat_lit 9) (nat_lit 0) (nat_lit 0) (nat_lit 0))]⟩,
 ⟨.struct [(0, 9), (1, 9), (2, 379)], 3, true, [(.str (nat_lit 0) (nat_lit 0)), (.str (nat_lit 0) (nat_lit 0)), (.ref (nat_lit 6) (nat_lit 0) (nat_lit 0) (nat_lit 0))]⟩,
 ⟨.struct [(0, 9), (1, 9), (2, 379)], 3, true, [(.str (nat_lit 0) (nat_lit 0)), (.str (nat_lit 0) (nat_lit 0)), (.ref (nat_lit 6) (nat_lit 0) (nat_lit 0) (nat_lit 0))]⟩,
 ⟨.other, 1, false, [(.ref (nat_lit 9) (nat_lit 0) (nat_lit 0) (nat_lit 0))]⟩,
 ⟨.ptr 427, 1, false, [(.ref (nat_lit 4) (nat_lit 0) (nat_lit 0) (nat_lit 0))]⟩,
 ⟨.other, 1, false, [(.ref (nat_lit 9) (nat_lit 0) (nat_lit 0) (nat_lit 0))]⟩,
 ⟨.other, 1, false, [(.ref (nat_lit 9) (nat_lit 0) (nat_lit 0) (nat_lit 0))]⟩,
 ⟨.ptr 439, 1, false, [(.ref (nat_lit 4) (nat_lit 0) (nat_lit 0) (nat_lit 0))]⟩,
 ⟨.struct [(0, 9)], 1, true, [(.str (nat_lit 0) (nat_lit 0))]⟩,
 ⟨.struct [(0, 9)], 1, true, [(.str (nat_lit 0) (nat_lit 0))]⟩,
 ⟨.struct [(0, 17), (1, 17), (2, 17), (3, 9)], 4, true, [(.ref (nat_lit 4) (nat_lit 0) (nat_lit 0) (nat_lit 0)), (.ref (nat_lit 4) (nat_lit 0) (nat_lit 0) (nat_lit 0)), (.ref (nat_lit 4) (nat_lit 0) (nat_lit 0) (nat_lit 0)), (.str (nat_lit 0) (nat_lit 0))]⟩,
 ⟨.struct [(0, 17), (1, 17), (2, 17), (3, 9)], 4, true, [(.ref (nat_lit 4) (nat_lit 0) (nat_lit 0) (nat_lit 0)), (.ref (nat_lit 4) (nat_lit 0) (nat_lit 0) (nat_lit 0)), (.ref (nat_lit 4) (nat_lit 0) (nat_lit 0) (nat_lit 0)), (.str (nat_lit 0) (nat_lit 0))]⟩,
 ⟨.arr 0 16, 0, true, []⟩,
 ⟨.struct [(0, 442)], 0, true, []⟩,
 ⟨.struct [(0, 442)], 0, true, []⟩,
 ⟨.int .u8, 1, false, [(.byt (nat_lit 0))]⟩,
 ⟨.int .u8, 1, false, [(.byt (nat_lit 0))]⟩,
 ⟨.other, 1, false, [(.ref (nat_lit 9) (nat_lit 0) (nat_lit 0) (nat_lit 0))]⟩,
 ⟨.int .i32, 1, false, [junk]⟩,
 ⟨.int .i32, 1, false, [junk]⟩,
 ⟨.struct [(0, 12), (1, 12), (2, 374), (3, 445), (4, 5), (5, 5), (6, 446), (7, 447), (8, 405), (9, 448), (10, 449)], 11, true, [junk, junk, junk, (.byt (nat_lit 0)), (.byt (nat_lit 0)), (.byt (nat_lit 0)), (.byt (nat_lit 0)), (.ref (nat_lit 9) (nat_lit 0) (nat_lit 0) (nat_lit 0)), (.ref (nat_lit 4) (nat_lit 0) (nat_lit 0) (nat_lit 0)), junk, junk]⟩,
 ⟨.struct [(0, 12), (1, 12), (2, 374), (3, 445), (4, 5), (5, 5), (6, 446), (7, 447), (8, 405), (9, 448), (10, 449)], 11, true, [junk, junk, junk, (.byt (nat_lit 0)), (.byt (nat_lit 0)), (.byt (nat_lit 0)), (.byt (nat_lit 0)), (.ref (nat_lit 9) (nat_lit 0) (nat_lit 0) (nat_lit 0)), (.ref (nat_lit 4) (nat_lit 0) (nat_lit 0) (nat_lit 0)), junk, junk]⟩]

def PU : List Nat := [10, 15, 16, 18, 19, 20, 23, 27, 28, 29, 35, 38, 40, 44, 46, 53, 55, 56, 57, 58, 60, 61, 64, 65, 69, 77, 82, 83, 86, 93, 95, 103, 106, 107, 109, 111, 119, 120, 121, 122, 125, 126, 127, 128, 142, 143, 147, 148, 154, 163, 164, 165, 179, 180, 182, 187, 192, 193, 194, 195, 198, 200, 201, 202, 203, 204, 205, 206, 207, 208, 209, 211, 218, 220, 221, 222, 223, 225, 226, 227, 228, 236, 243, 249, 252, 255, 256, 258, 259, 260, 261, 262, 263, 265, 270, 272, 278, 285, 286, 287, 288, 291, 294, 296, 297, 298, 300, 301, 311, 312, 313, 316, 317, 318, 319, 320, 321, 324, 326, 330, 333, 335, 342, 343, 346, 347, 348, 356, 364, 365, 366, 367, 368]
noncomputable abbrev dn (f : Func) (a : List Nat) (b c d : List (Nat × List Key)) (e : List (Nat × List Nat)) (n : Nat) : K → A → H → R := denF ⟨TT, a, b, c, d, f.results.toList, PU, f.ntmps, e⟩ n (f.body.getD .skip)
theorem f10_den : dn Tryz.f10 [4, 5, 6, 7, 9] [] [] [] [] 1 = f10 := by kernel_rfl
theorem f11_den : dn Tryz.f11 [2, 3, 4, 5] [] [] [] [] 2 = f11 := by kernel_rfl
theorem f12_den : dn Tryz.f12 [0, 5] [] [(0, [.b 0 5, .t 1]), (1, [.b 0 5, .t 1, .t 14, .t 15, .t 16])] [(0, [.b 0 5, .t 1, .t 14, .t 15, .t 16])] [] 0 = f12 := by kernel_rfl
theorem f13_den : dn Tryz.f13 [1, 2] [] [] [] [] 1 = f13 := by kernel_rfl
theorem f14_den : dn Tryz.f14 [6] [] [] [] [] 3 = f14 := by kernel_rfl
theorem f15_den : dn Tryz.f15 [2] [] [] [] [] 1 = f15 := by kernel_rfl
theorem f16_den : dn Tryz.f16 [] [] [] [] [] 2 = f16 := by kernel_rfl
theorem f17_den : dn Tryz.f17 [1, 2] [] [] [] [] 1 = f17 := by kernel_rfl
theorem f18_den : dn Tryz.f18 [2, 4] [] [] [] [] 2 = f18 := by kernel_rfl
theorem f19_den : dn Tryz.f19 [2] [] [] [] [] 2 = f19 := by kernel_rfl
theorem f20_den : dn Tryz.f20 [] [] [] [] [] 1 = f20 := by kernel_rfl
theorem f23_den : dn Tryz.f23 [1, 2, 3] [] [] [] [] 1 = f23 := by kernel_rfl
theorem f27_den : dn Tryz.f27 [1, 4, 6] [] [(0, [.b 1 5, .c 1 0, .c 1 1, .c 1 2, .c 1 3]), (1, [.b 1 5, .c 1 0, .c 1 1, .c 1 2, .c 1 3, .t 37, .t 38, .t 39]), (2, []), (3, [.b 1 5, .c 1 1, .c 1 2, .c 1 3, .t 55, .t 56, .t 57])] [(0, [.b 1 5, .c 1 0, .c 1 1, .c 1 2, .c 1 3, .t 37, .t 38, .t 39]), (2, [.b 1 5, .c 1 1, .c 1 2, .c 1 3, .t 55, .t 56, .t 57])] [] 1 = f27 := by kernel_rfl
theorem f28_den : dn Tryz.f28 [1] [] [] [] [] 1 = f28 := by kernel_rfl
theorem f29_den : dn Tryz.f29 [2, 8] [] [(0, [.b 2 5, .c 2 4, .t 1]), (1, [.b 2 5, .c 2 4, .t 1, .t 10, .t 11, .t 12]), (2, []), (3, [.t 1, .t 21, .t 22, .t 23])] [(0, [.b 2 5, .c 2 4, .t 1, .t 10, .t 11, .t 12]), (2, [.t 1, .t 21, .t 22, .t 23])] [] 2 = f29 := by kernel_rfl
theorem f30_den : dn Tryz.f30 [1, 2, 3, 5] [] [(0, [.b 2 5, .b 3 5, .c 3 0, .c 3 1, .c 3 2, .c 3 3, .c 3 4]), (1, [.b 2 5, .b 3 5, .c 3 0, .c 3 1, .c 3 2, .c 3 3, .c 3 4, .t 17, .t 18, .t 19])] [(0, [.b 2 5, .b 3 5, .c 3 0, .c 3 1, .c 3 2, .c 3 3, .c 3 4, .t 17, .t 18, .t 19])] [] 1 = f30 := by kernel_rfl
theorem f31_den : dn Tryz.f31 [4, 5, 6, 7] [(2300003, [.b 4 5, .b 5 8, .b 6 8, .b 7 5, .c 4 0, .c 4 1, .c 4 2, .c 4 3, .c 4 4, .c 5 0, .c 5 1, .c 5 2, .c 5 3, .c 5 4, .c 5 5, .c 5 6, .c 5 7, .t 0])] [] [] [] 3 = f31 := by kernel_rfl
theorem f32_den : dn Tryz.f32 [3, 4, 5, 6] [] [(0, [.b 3 5, .b 4 8, .c 3 0, .c 3 1, .c 3 2, .c 3 3, .c 3 4, .t 0]), (1, [.b 4 8, .t 0])] [] [] 2 = f32 := by kernel_rfl
theorem f33_den : dn Tryz.f33 [0] [] [] [] [] 0 = f33 := by kernel_rfl
theorem f34_den : dn Tryz.f34 [] [] [(0, [.t 4, .t 5]), (1, [.t 4, .t 5])] [(0, [.t 4, .t 5])] [] 1 = f34 := by kernel_rfl
theorem f35_den : dn Tryz.f35 [] [] [] [] [] 0 = f35 := by kernel_rfl
theorem f36_den : dn Tryz.f36 [3, 4] [] [] [] [] 2 = f36 := by kernel_rfl
theorem f37_den : dn Tryz.f37 [1, 2, 3, 5] [] [(0, [.b 2 5, .b 3 5, .c 3 0, .c 3 1, .c 3 2, .c 3 3, .c 3 4]), (1, [.b 2 5, .b 3 5, .c 3 0, .c 3 1, .c 3 2, .c 3 3, .c 3 4, .t 14, .t 15, .t 16])] [(0, [.b 2 5, .b 3 5, .c 3 0, .c 3 1, .c 3 2, .c 3 3, .c 3 4, .t 14, .t 15, .t 16])] [] 1 = f37 := by kernel_rfl
theorem f38_den : dn Tryz.f38 [1] [] [] [] [] 1 = f38 := by kernel_rfl
theorem f39_den : dn Tryz.f39 [6] [] [] [] [] 3 = f39 := by kernel_rfl
theorem f40_den : dn Tryz.f40 [2] [] [(0, [.b 2 8, .c 2 0, .c 2 1, .c 2 2, .c 2 3, .c 2 4, .c 2 5, .c 2 6, .c 2 7, .t 6]), (1, [.b 2 8, .c 2 0, .c 2 1, .c 2 2, .c 2 3, .c 2 4, .c 2 5, .c 2 6, .c 2 7, .t 6, .t 23, .t 24, .t 25]), (2, []), (3, [.t 6, .t 33, .t 34, .t 35])] [(0, [.b 2 8, .c 2 0, .c 2 1, .c 2 2, .c 2 3, .c 2 4, .c 2 5, .c 2 6, .c 2 7, .t 6, .t 23, .t 24, .t 25]), (2, [.t 6, .t 33, .t 34, .t 35])] [] 2 = f40 := by kernel_rfl
theorem f41_den : dn Tryz.f41 [9] [(6200019, [.b 9 8, .c 9 0, .c 9 1, .c 9 2, .c 9 3, .c 9 4, .c 9 5, .c 9 6, .c 9 7, .t 0, .t 1, .t 11, .t 52, .t 53, .t 54])] [(0, [.b 9 8, .c 9 0, .c 9 1, .c 9 2, .c 9 3, .c 9 4, .c 9 5, .c 9 6, .c 9 7, .t 0, .t 1, .t 2, .t 11]), (1, [.b 9 8, .c 9 0, .c 9 1, .c 9 2, .c 9 3, .c 9 4, .c 9 5, .c 9 6, .c 9 7, .t 0, .t 1, .t 2, .t 11, .t 31, .t 32, .t 33]), (2, [.b 9 8, .c 9 0, .c 9 1, .c 9 2, .c 9 3, .c 9 4, .c 9 5, .c 9 6, .c 9 7, .t 0, .t 1, .t 2, .t 11]), (3, [.b 9 8, .c 9 0, .c 9 1, .c 9 2, .c 9 3, .c 9 4, .c 9 5, .c 9 6, .c 9 7, .t 0, .t 1, .t 2, .t 11, .t 43, .t 44, .t 45]), (4, [.b 9 8, .c 9 0, .c 9 1, .c 9 2, .c 9 3, .c 9 4, .c 9 5, .c 9 6, .c 9 7, .t 0, .t 11]), (5, [.b 9 8, .c 9 0, .c 9 1, .c 9 2, .c 9 3, .c 9 4, .c 9 5, .c 9 6, .c 9 7, .t 0, .t 1, .t 11, .t 52, .t 53, .t 54])] [(0, [.b 9 8, .c 9 0, .c 9 1, .c 9 2, .c 9 3, .c 9 4, .c 9 5, .c 9 6, .c 9 7, .t 0, .t 1, .t 2, .t 11, .t 31, .t 32, .t 33]), (2, [.b 9 8, .c 9 0, .c 9 1, .c 9 2, .c 9 3, .c 9 4, .c 9 5, .c 9 6, .c 9 7, .t 0, .t 1, .t 2, .t 11, .t 43, .t 44, .t 45]), (4, [.b 9 8, .c 9 0, .c 9 1, .c 9 2, .c 9 3, .c 9 4, .c 9 5, .c 9 6, .c 9 7, .t 0, .t 1, .t 11, .t 52, .t 53, .t 54])] [] 5 = f41 := by kernel_rfl
theorem f42_den : dn Tryz.f42 [] [] [(0, [.t 3]), (1, [.t 3, .t 9, .t 10, .t 11]), (2, [.t 3, .t 9, .t 10, .t 11]), (3, [.t 3, .t 9, .t 10, .t 11, .t 15, .t 16, .t 17])] [(0, [.t 3, .t 9, .t 10, .t 11]), (2, [.t 3, .t 9, .t 10, .t 11, .t 15, .t 16, .t 17])] [] 1 = f42 := by kernel_rfl
theorem f43_den : dn Tryz.f43 [1] [] [] [] [] 1 = f43 := by kernel_rfl
theorem f44_den : dn Tryz.f44 [2, 9, 13] [(8900020, [.b 2 2, .c 2 0, .c 2 1, .t 5, .t 6, .t 7, .t 56, .t 57, .t 58, .t 81, .t 82, .t 83])] [(0, [.t 5, .t 6, .t 7]), (1, [.b 2 2, .c 2 0, .c 2 1, .t 5, .t 6, .t 7, .t 56, .t 57, .t 58]), (2, [.b 2 2, .c 2 0, .c 2 1, .t 5, .t 6, .t 7, .t 56, .t 57, .t 58]), (3, [.b 2 2, .c 2 0, .c 2 1, .t 5, .t 6, .t 7, .t 56, .t 57, .t 58, .t 81, .t 82, .t 83]), (4, [.t 6]), (5, [.t 6, .t 102, .t 103, .t 104])] [(0, [.b 2 2, .c 2 0, .c 2 1, .t 5, .t 6, .t 7, .t 56, .t 57, .t 58]), (2, [.b 2 2, .c 2 0, .c 2 1, .t 5, .t 6, .t 7, .t 56, .t 57, .t 58, .t 81, .t 82, .t 83]), (4, [.t 6, .t 102, .t 103, .t 104])] [] 2 = f44 := by kernel_rfl
theorem f45_den : dn Tryz.f45 [3] [] [] [] [] 3 = f45 := by kernel_rfl
theorem f50_den : dn Tryz.f50 [2, 3, 4] [] [(0, [.b 2 7, .b 3 4, .b 4 7, .c 2 0, .c 2 1, .c 2 2, .c 2 3, .c 2 4, .c 2 5, .c 2 6, .c 3 0, .c 3 1, .c 3 2, .c 3 3]), (1, [.b 2 7, .b 3 4, .b 4 7, .c 2 0, .c 2 1, .c 2 2, .c 2 3, .c 2 4, .c 2 5, .c 2 6, .c 3 0, .c 3 1, .c 3 2, .c 3 3, .t 27, .t 28, .t 29])] [(0, [.b 2 7, .b 3 4, .b 4 7, .c 2 0, .c 2 1, .c 2 2, .c 2 3, .c 2 4, .c 2 5, .c 2 6, .c 3 0, .c 3 1, .c 3 2, .c 3 3, .t 27, .t 28, .t 29])] [] 2 = f50 := by kernel_rfl
theorem f53_den : dn Tryz.f53 [3, 4, 6, 8, 12, 13, 15] [] [(0, [.b 6 5, .t 2, .t 10]), (1, [.b 6 5, .t 2, .t 10, .t 28, .t 29, .t 30])] [(0, [.b 6 5, .t 2, .t 10, .t 28, .t 29, .t 30])] [] 3 = f53 := by kernel_rfl
theorem f54_den : dn Tryz.f54 [0] [] [] [] [] 0 = f54 := by kernel_rfl
theorem f55_den : dn Tryz.f55 [4] [] [(0, [.t 0]), (1, [.t 0, .t 5, .t 6, .t 7])] [(0, [.t 0, .t 5, .t 6, .t 7])] [] 1 = f55 := by kernel_rfl
theorem f56_den : dn Tryz.f56 [] [] [] [] [] 3 = f56 := by kernel_rfl
theorem f57_den : dn Tryz.f57 [1, 5] [] [(0, [.t 3]), (1, [.b 1 3, .c 1 0, .c 1 2, .t 3, .t 29, .t 30, .t 31])] [(0, [.b 1 3, .c 1 0, .c 1 2, .t 3, .t 29, .t 30, .t 31])] [(9, [4, 0, 1, 2, 3, 5, 6, 7, 8, 9, 10])] 1 = f57 := by kernel_rfl
theorem f58_den : dn Tryz.f58 [2, 8] [] [(0, []), (1, [.t 1, .t 15, .t 16, .t 17]), (2, [.t 1, .t 15, .t 16, .t 17]), (3, [.t 1, .t 15, .t 16, .t 17, .t 21, .t 22, .t 23])] [(0, [.t 1, .t 15, .t 16, .t 17]), (2, [.t 1, .t 15, .t 16, .t 17, .t 21, .t 22, .t 23])] [] 2 = f58 := by kernel_rfl
theorem f59_den : dn Tryz.f59 [2] [] [(0, [.t 1]), (1, [.b 2 5, .c 2 4, .t 1, .t 5])] [(0, [.b 2 5, .c 2 4, .t 1, .t 5])] [] 2 = f59 := by kernel_rfl
theorem f60_den : dn Tryz.f60 [1, 5] [] [(0, [.t 3]), (1, [.t 3, .t 7, .t 8, .t 9])] [(0, [.t 3, .t 7, .t 8, .t 9])] [] 1 = f60 := by kernel_rfl
theorem f61_den : dn Tryz.f61 [1, 4] [] [(0, [.b 1 5, .c 1 0, .c 1 1, .c 1 2, .c 1 3, .c 1 4]), (1, [.b 1 5, .c 1 0, .c 1 1, .c 1 2, .c 1 3, .c 1 4, .t 6, .t 7, .t 8])] [(0, [.b 1 5, .c 1 0, .c 1 1, .c 1 2, .c 1 3, .c 1 4, .t 6, .t 7, .t 8])] [] 1 = f61 := by kernel_rfl
theorem f62_den : dn Tryz.f62 [5] [] [(0, [.t 3]), (1, [.t 3, .t 7, .t 8, .t 9])] [(0, [.t 3, .t 7, .t 8, .t 9])] [] 1 = f62 := by kernel_rfl
theorem f63_den : dn Tryz.f63 [1, 2, 3, 5, 7, 9] [] [(0, [.b 1 3, .b 2 3, .b 3 3, .c 1 1, .c 1 2, .c 3 0, .c 3 1, .c 3 2]), (1, [.b 1 3, .b 2 3, .b 3 3, .c 1 1, .c 1 2, .c 3 0, .c 3 1, .c 3 2, .t 12, .t 13, .t 14]), (2, [.b 1 3, .b 2 3, .b 3 3, .c 1 2, .c 3 0, .c 3 1, .c 3 2]), (3, [.b 1 3, .b 2 3, .b 3 3, .c 1 2, .c 3 0, .c 3 1, .c 3 2, .t 27, .t 28, .t 29]), (4, [.b 2 3, .b 3 3, .c 3 0, .c 3 1, .c 3 2]), (5, [.b 2 3, .b 3 3, .c 3 0, .c 3 1, .c 3 2, .t 42, .t 43, .t 44])] [(0, [.b 1 3, .b 2 3, .b 3 3, .c 1 1, .c 1 2, .c 3 0, .c 3 1, .c 3 2, .t 12, .t 13, .t 14]), (2, [.b 1 3, .b 2 3, .b 3 3, .c 1 2, .c 3 0, .c 3 1, .c 3 2, .t 27, .t 28, .t 29]), (4, [.b 2 3, .b 3 3, .c 3 0, .c 3 1, .c 3 2, .t 42, .t 43, .t 44])] [] 1 = f63 := by kernel_rfl
theorem f64_den : dn Tryz.f64 [1, 5] [] [(0, [.t 3]), (1, [.t 3, .t 7, .t 8, .t 9])] [(0, [.t 3, .t 7, .t 8, .t 9])] [] 1 = f64 := by kernel_rfl
theorem f65_den : dn Tryz.f65 [1, 5] [] [(0, [.t 3]), (1, [.t 3, .t 7, .t 8, .t 9])] [(0, [.t 3, .t 7, .t 8, .t 9])] [] 1 = f65 := by kernel_rfl
theorem f66_den : dn Tryz.f66 [] [(1400004, [.t 0])] [] [] [] 1 = f66 := by kernel_rfl
theorem f67_den : dn Tryz.f67 [3, 4, 5] [(1800005, [.b 4 4, .b 5 4, .c 5 0, .c 5 1, .c 5 2, .c 5 3]), (2200007, [.b 4 4, .b 5 4, .c 5 0, .c 5 1, .c 5 2, .c 5 3])] [(0, [.b 4 4, .b 5 4, .c 5 0, .c 5 1, .c 5 2, .c 5 3])] [] [] 2 = f67 := by kernel_rfl
theorem f68_den : dn Tryz.f68 [4] [(900003, [.b 4 8])] [] [] [] 2 = f68 := by kernel_rfl
theorem f69_den : dn Tryz.f69 [1, 2, 3, 5] [] [(0, [.b 2 4, .b 3 4, .c 3 0, .c 3 1, .c 3 2, .c 3 3]), (1, [.b 2 4, .b 3 4, .c 3 0, .c 3 1, .c 3 2, .c 3 3, .t 14, .t 15, .t 16])] [(0, [.b 2 4, .b 3 4, .c 3 0, .c 3 1, .c 3 2, .c 3 3, .t 14, .t 15, .t 16])] [] 1 = f69 := by kernel_rfl
theorem f70_den : dn Tryz.f70 [3, 4, 6] [] [] [] [] 2 = f70 := by kernel_rfl
theorem f71_den : dn Tryz.f71 [5, 6, 9] [] [] [] [] 3 = f71 := by kernel_rfl
theorem f72_den : dn Tryz.f72 [5, 6, 8] [(11900026, [.b 5 5, .b 6 8, .c 5 0, .c 5 1, .c 5 2, .c 5 3, .c 5 4, .t 0, .t 43, .t 119])] [(0, [.b 6 8, .t 0])] [] [] 3 = f72 := by kernel_rfl
theorem f73_den : dn Tryz.f73 [7] [] [(0, [.t 5]), (1, [.t 0, .t 5, .t 9, .t 10, .t 11])] [(0, [.t 0, .t 5, .t 9, .t 10, .t 11])] [] 2 = f73 := by kernel_rfl
theorem f74_den : dn Tryz.f74 [] [] [(0, [.t 1]), (1, [.t 1, .t 7, .t 8, .t 9]), (2, [.t 1]), (3, [.t 1, .t 21, .t 22, .t 23])] [(0, [.t 1, .t 7, .t 8, .t 9]), (2, [.t 1, .t 21, .t 22, .t 23])] [] 0 = f74 := by kernel_rfl
theorem f75_den : dn Tryz.f75 [] [(4500003, [.t 0])] [(0, []), (1, [.t 0]), (2, [.t 0]), (3, [.t 0])] [(0, [.t 0]), (2, [.t 0])] [] 1 = f75 := by kernel_rfl
theorem f76_den : dn Tryz.f76 [2, 4] [] [(0, [.b 2 4, .t 0]), (1, [.b 2 4, .t 0, .t 3]), (2, [.b 2 4, .t 0, .t 3]), (3, [.b 2 4, .b 4 4, .c 4 0, .c 4 1, .c 4 2, .c 4 3, .t 0]), (4, [.b 2 4, .b 4 4, .c 4 0, .c 4 1, .c 4 2, .c 4 3, .t 0])] [(1, [.b 2 4, .t 0, .t 3]), (3, [.b 2 4, .b 4 4, .c 4 0, .c 4 1, .c 4 2, .c 4 3, .t 0])] [] 1 = f76 := by kernel_rfl
theorem f77_den : dn Tryz.f77 [5] [] [(0, [.t 3]), (1, [.t 3, .t 6, .t 7, .t 8])] [(0, [.t 3, .t 6, .t 7, .t 8])] [] 1 = f77 := by kernel_rfl
theorem f78_den : dn Tryz.f78 [3, 4, 6, 8, 10] [] [(0, [.b 3 5, .b 4 3, .b 6 3, .c 3 4, .c 6 0, .c 6 1, .c 6 2]), (1, [.b 3 5, .b 4 3, .b 6 3, .c 3 4, .c 6 0, .c 6 1, .c 6 2, .t 43, .t 44, .t 45]), (2, [.b 4 3, .b 6 3, .c 6 0, .c 6 1, .c 6 2]), (3, [.b 4 3, .b 6 3, .c 6 0, .c 6 1, .c 6 2, .t 59, .t 60, .t 61])] [(0, [.b 3 5, .b 4 3, .b 6 3, .c 3 4, .c 6 0, .c 6 1, .c 6 2, .t 43, .t 44, .t 45]), (2, [.b 4 3, .b 6 3, .c 6 0, .c 6 1, .c 6 2, .t 59, .t 60, .t 61])] [] 2 = f78 := by kernel_rfl
theorem f79_den : dn Tryz.f79 [4, 5] [] [] [] [] 3 = f79 := by kernel_rfl
theorem f80_den : dn Tryz.f80 [3, 6, 7, 9] [(2200004, [.b 3 5, .b 6 5, .b 7 5, .c 3 4, .c 7 0, .c 7 1, .c 7 2, .c 7 3, .c 7 4, .t 1, .t 2]), (2400006, [.b 3 5, .b 6 5, .b 7 5, .c 3 4, .c 7 0, .c 7 1, .c 7 2, .c 7 3, .c 7 4, .t 1, .t 2]), (3100008, [.b 3 5, .b 6 5, .b 7 5, .c 3 4, .c 7 0, .c 7 1, .c 7 2, .c 7 3, .c 7 4, .t 1, .t 2]), (3800010, [.b 3 5, .b 6 5, .b 7 5, .c 3 4, .c 7 0, .c 7 1, .c 7 2, .c 7 3, .c 7 4, .t 1, .t 2])] [(0, [.b 3 5, .b 6 5, .b 7 5, .c 3 4, .c 7 0, .c 7 1, .c 7 2, .c 7 3, .c 7 4, .t 1, .t 2]), (1, [.b 6 5, .b 7 5, .c 7 0, .c 7 1, .c 7 2, .c 7 3, .c 7 4]), (2, [.b 6 5, .b 7 5, .c 7 0, .c 7 1, .c 7 2, .c 7 3, .c 7 4, .t 1, .t 2, .t 45, .t 46, .t 47])] [(1, [.b 6 5, .b 7 5, .c 7 0, .c 7 1, .c 7 2, .c 7 3, .c 7 4, .t 1, .t 2, .t 45, .t 46, .t 47])] [] 3 = f80 := by kernel_rfl
theorem f81_den : dn Tryz.f81 [2] [] [(0, [.t 1]), (1, [.b 2 4, .c 2 3, .t 1, .t 5])] [(0, [.b 2 4, .c 2 3, .t 1, .t 5])] [] 2 = f81 := by kernel_rfl
theorem f82_den : dn Tryz.f82 [1, 5] [] [(0, [.t 3]), (1, [.t 3, .t 7, .t 8, .t 9])] [(0, [.t 3, .t 7, .t 8, .t 9])] [] 1 = f82 := by kernel_rfl
theorem f83_den : dn Tryz.f83 [1, 4] [] [(0, [.b 1 4, .c 1 0, .c 1 1, .c 1 2, .c 1 3]), (1, [.b 1 4, .c 1 0, .c 1 1, .c 1 2, .c 1 3, .t 6, .t 7, .t 8])] [(0, [.b 1 4, .c 1 0, .c 1 1, .c 1 2, .c 1 3, .t 6, .t 7, .t 8])] [] 1 = f83 := by kernel_rfl
theorem f84_den : dn Tryz.f84 [6] [] [] [] [] 3 = f84 := by kernel_rfl
theorem f85_den : dn Tryz.f85 [3, 8] [] [(0, []), (1, [.t 1, .t 2, .t 28, .t 29, .t 30])] [(0, [.t 1, .t 2, .t 28, .t 29, .t 30])] [] 3 = f85 := by kernel_rfl
theorem f86_den : dn Tryz.f86 [] [] [(0, []), (1, [.t 3, .t 9, .t 10, .t 11]), (2, [.t 3, .t 9, .t 10, .t 11]), (3, [.t 3, .t 9, .t 10, .t 11, .t 15, .t 16, .t 17])] [(0, [.t 3, .t 9, .t 10, .t 11]), (2, [.t 3, .t 9, .t 10, .t 11, .t 15, .t 16, .t 17])] [] 1 = f86 := by kernel_rfl
theorem f87_den : dn Tryz.f87 [1] [] [] [] [] 1 = f87 := by kernel_rfl
theorem f88_den : dn Tryz.f88 [1] [] [] [] [] 1 = f88 := by kernel_rfl
theorem f89_den : dn Tryz.f89 [] [] [] [] [] 2 = f89 := by kernel_rfl
theorem f90_den : dn Tryz.f90 [] [] [] [] [] 3 = f90 := by kernel_rfl
theorem f91_den : dn Tryz.f91 [4, 7] [(2500010, []), (7100024, [.t 0, .t 2]), (8800026, [.t 0, .t 2]), (9400028, [.t 0, .t 2]), (10300029, [.t 0, .t 2]), (11200032, [.t 0, .t 2]), (12400035, [.t 0, .t 2]), (13400037, [.t 0, .t 2]), (14200039, [.t 0, .t 2]), (15200041, [])] [(0, [.t 0, .t 2]), (1, [.b 4 8, .c 4 7, .t 0, .t 2]), (2, [.b 4 8, .c 4 7, .t 0, .t 2, .t 15, .t 16, .t 17]), (3, [.b 4 8, .c 4 7, .t 0, .t 2]), (4, [.b 4 8, .c 4 7, .t 0, .t 2, .t 54, .t 55, .t 56])] [(1, [.b 4 8, .c 4 7, .t 0, .t 2, .t 15, .t 16, .t 17]), (3, [.b 4 8, .c 4 7, .t 0, .t 2, .t 54, .t 55, .t 56])] [] 3 = f91 := by kernel_rfl
theorem f92_den : dn Tryz.f92 [2, 7] [(1000004, [.b 2 8, .c 2 7, .t 1]), (1600006, [.b 2 8, .c 2 7, .t 1])] [(0, [.b 2 8, .c 2 7, .t 1]), (1, [.b 2 8, .c 2 7, .t 1]), (2, [.b 2 8, .c 2 7, .t 1, .t 19, .t 20, .t 21]), (3, []), (4, [.t 1, .t 30, .t 31, .t 32])] [(1, [.b 2 8, .c 2 7, .t 1, .t 19, .t 20, .t 21]), (3, [.t 1, .t 30, .t 31, .t 32])] [] 2 = f92 := by kernel_rfl
theorem f93_den : dn Tryz.f93 [2, 5, 7] [] [(0, []), (1, [.b 2 2, .b 5 4, .c 2 0, .c 2 1, .c 5 0, .c 5 1, .c 5 2, .c 5 3, .t 1, .t 56, .t 57, .t 58])] [(0, [.b 2 2, .b 5 4, .c 2 0, .c 2 1, .c 5 0, .c 5 1, .c 5 2, .c 5 3, .t 1, .t 56, .t 57, .t 58])] [] 2 = f93 := by kernel_rfl
theorem f94_den : dn Tryz.f94 [2, 10] [(7600024, [.b 2 2, .b 10 6, .c 2 0, .c 2 1, .c 10 1, .t 6, .t 7, .t 9, .t 13, .t 14, .t 37, .t 38, .t 39, .t 72, .t 76]), (7600025, [.b 2 2, .c 2 0, .c 2 1, .t 6, .t 7, .t 9, .t 13, .t 14, .t 37, .t 38, .t 39]), (8100028, [.b 2 2, .c 2 0, .c 2 1, .t 6, .t 7, .t 9, .t 13, .t 14, .t 37, .t 38, .t 39]), (8600030, [.b 2 2, .c 2 0, .c 2 1, .t 6, .t 7, .t 9, .t 13, .t 14, .t 37, .t 38, .t 39])] [(0, [.b 2 2, .c 2 0, .c 2 1, .t 6, .t 7]), (1, [.b 2 2, .c 2 0, .c 2 1, .t 6, .t 7, .t 27, .t 28]), (2, [.t 7]), (3, [.b 2 2, .c 2 0, .c 2 1, .t 6, .t 7, .t 37, .t 38, .t 39]), (4, [.b 2 2, .c 2 0, .c 2 1, .t 6, .t 7, .t 9, .t 13, .t 14, .t 37, .t 38, .t 39]), (5, [.b 2 2, .c 2 0, .c 2 1, .t 6, .t 7, .t 37, .t 38, .t 39]), (6, [.b 2 2, .c 2 0, .c 2 1, .t 6, .t 7, .t 9, .t 13, .t 37, .t 38, .t 39, .t 93, .t 94, .t 95])] [(0, [.b 2 2, .c 2 0, .c 2 1, .t 6, .t 7, .t 27, .t 28]), (2, [.b 2 2, .c 2 0, .c 2 1, .t 6, .t 7, .t 37, .t 38, .t 39]), (5, [.b 2 2, .c 2 0, .c 2 1, .t 6, .t 7, .t 9, .t 13, .t 37, .t 38, .t 39, .t 93, .t 94, .t 95])] [] 2 = f94 := by kernel_rfl
theorem f95_den : dn Tryz.f95 [] [] [] [] [] 1 = f95 := by kernel_rfl
theorem f96_den : dn Tryz.f96 [] [] [] [] [] 5 = f96 := by kernel_rfl
theorem f97_den : dn Tryz.f97 [3] [(4000005, [.b 3 6, .c 3 0, .c 3 1, .c 3 2, .c 3 3, .c 3 4, .c 3 5, .t 0, .t 2])] [(0, []), (1, [.t 0])] [(0, [.t 0])] [] 1 = f97 := by kernel_rfl
theorem f103_den : dn Tryz.f103 [1] [] [] [] [] 1 = f103 := by kernel_rfl
theorem f105_den : dn Tryz.f105 [5] [] [(0, [.t 3]), (1, [.t 3, .t 6, .t 7, .t 8])] [(0, [.t 3, .t 6, .t 7, .t 8])] [] 1 = f105 := by kernel_rfl
theorem f106_den : dn Tryz.f106 [1] [] [(0, [.b 1 4, .c 1 0, .c 1 1, .c 1 2, .c 1 3]), (1, [.b 1 4, .c 1 0, .c 1 1, .c 1 2, .c 1 3, .t 3, .t 29, .t 30, .t 31]), (2, [.b 1 4, .c 1 0, .c 1 1, .c 1 2, .c 1 3]), (3, [.b 1 4, .c 1 0, .c 1 1, .c 1 2, .c 1 3, .t 3, .t 49, .t 50, .t 51])] [(0, [.b 1 4, .c 1 0, .c 1 1, .c 1 2, .c 1 3, .t 3, .t 29, .t 30, .t 31]), (2, [.b 1 4, .c 1 0, .c 1 1, .c 1 2, .c 1 3, .t 3, .t 49, .t 50, .t 51])] [] 1 = f106 := by kernel_rfl
theorem f107_den : dn Tryz.f107 [1, 6, 13, 14] [(10000033, [.b 1 7, .c 1 1, .t 3, .t 4, .t 11, .t 68, .t 69, .t 70])] [(0, [.b 1 7, .c 1 1, .c 1 6, .t 3, .t 4]), (1, [.b 1 7, .c 1 1, .c 1 3, .c 1 6, .t 3, .t 4, .t 28, .t 29, .t 30]), (2, [.b 1 7, .b 6 10, .c 1 1, .c 1 3, .c 1 6, .c 6 1, .t 3, .t 4, .t 28, .t 29, .t 30]), (3, [.b 1 7, .b 6 10, .c 1 1, .c 1 3, .c 1 6, .c 6 1, .t 3, .t 4, .t 28, .t 29, .t 30, .t 43, .t 44, .t 45]), (4, [.b 1 7, .c 1 1, .c 1 3, .c 1 6, .t 3, .t 4, .t 28, .t 29, .t 30]), (5, [.b 1 7, .c 1 1, .c 1 3, .c 1 6, .t 3, .t 4, .t 28, .t 29, .t 30, .t 56, .t 57, .t 58]), (6, []), (7, [.b 1 7, .c 1 1, .t 3, .t 4, .t 11, .t 68, .t 69, .t 70]), (8, [.b 1 7, .c 1 1, .t 3, .t 4, .t 11, .t 68, .t 69, .t 70])] [(0, [.b 1 7, .c 1 1, .c 1 3, .c 1 6, .t 3, .t 4, .t 28, .t 29, .t 30]), (2, [.b 1 7, .b 6 10, .c 1 1, .c 1 3, .c 1 6, .c 6 1, .t 3, .t 4, .t 28, .t 29, .t 30, .t 43, .t 44, .t 45]), (4, [.b 1 7, .c 1 1, .c 1 3, .c 1 6, .t 3, .t 4, .t 28, .t 29, .t 30, .t 56, .t 57, .t 58]), (6, [.b 1 7, .c 1 1, .t 3, .t 4, .t 11, .t 68, .t 69, .t 70])] [] 1 = f107 := by kernel_rfl
theorem f108_den : dn Tryz.f108 [1, 2, 3, 5] [] [(0, [.b 2 7, .b 3 7, .c 3 0, .c 3 1, .c 3 2, .c 3 3, .c 3 4, .c 3 5, .c 3 6]), (1, [.b 2 7, .b 3 7, .c 3 0, .c 3 1, .c 3 2, .c 3 3, .c 3 4, .c 3 5, .c 3 6, .t 14, .t 15, .t 16])] [(0, [.b 2 7, .b 3 7, .c 3 0, .c 3 1, .c 3 2, .c 3 3, .c 3 4, .c 3 5, .c 3 6, .t 14, .t 15, .t 16])] [] 1 = f108 := by kernel_rfl
theorem f109_den : dn Tryz.f109 [2, 6] [] [(0, []), (1, [.t 1, .t 8, .t 9, .t 10])] [(0, [.t 1, .t 8, .t 9, .t 10])] [] 2 = f109 := by kernel_rfl
theorem f110_den : dn Tryz.f110 [3, 11, 18, 20] [(12300033, [.b 3 4, .b 20 8, .c 3 0, .c 20 0, .c 20 1, .c 20 2, .c 20 3, .c 20 4, .c 20 5, .c 20 6, .c 20 7, .t 0, .t 5, .t 14, .t 15])] [(0, [.b 3 4, .c 3 0, .c 3 2, .t 0, .t 5, .t 6, .t 9]), (1, [.b 3 4, .c 3 0, .c 3 2, .t 0, .t 5, .t 6, .t 9, .t 43, .t 44, .t 45]), (2, [.b 3 4, .c 3 0, .t 0, .t 5, .t 13, .t 14, .t 15]), (3, [.b 3 4, .c 3 0, .t 0, .t 5, .t 6, .t 13, .t 14, .t 15, .t 79, .t 80, .t 81])] [(0, [.b 3 4, .c 3 0, .c 3 2, .t 0, .t 5, .t 6, .t 9, .t 43, .t 44, .t 45]), (2, [.b 3 4, .c 3 0, .t 0, .t 5, .t 6, .t 13, .t 14, .t 15, .t 79, .t 80, .t 81])] [] 2 = f110 := by kernel_rfl
theorem f111_den : dn Tryz.f111 [9] [] [(0, [.t 4, .t 5, .t 6, .t 7]), (1, [.t 3, .t 4, .t 5, .t 6, .t 7, .t 14, .t 15, .t 16])] [(0, [.t 3, .t 4, .t 5, .t 6, .t 7, .t 14, .t 15, .t 16])] [] 1 = f111 := by kernel_rfl
theorem f112_den : dn Tryz.f112 [1, 2, 3, 5] [] [(0, [.b 2 8, .b 3 8, .c 3 0, .c 3 1, .c 3 2, .c 3 3, .c 3 4, .c 3 5, .c 3 6, .c 3 7]), (1, [.b 2 8, .b 3 8, .c 3 0, .c 3 1, .c 3 2, .c 3 3, .c 3 4, .c 3 5, .c 3 6, .c 3 7, .t 18, .t 19, .t 20])] [(0, [.b 2 8, .b 3 8, .c 3 0, .c 3 1, .c 3 2, .c 3 3, .c 3 4, .c 3 5, .c 3 6, .c 3 7, .t 18, .t 19, .t 20])] [] 1 = f112 := by kernel_rfl
theorem f114_den : dn Tryz.f114 [2, 6] [(1500007, [.b 2 8, .t 4, .t 7, .t 8, .t 9])] [(0, [.b 2 8, .t 4]), (1, [.b 2 8, .t 4, .t 7, .t 8, .t 9]), (2, [.b 2 8, .t 4])] [(0, [.b 2 8, .t 4, .t 7, .t 8, .t 9])] [] 1 = f114 := by kernel_rfl
theorem f116_den : dn Tryz.f116 [2, 3, 4, 6, 8] [] [(0, [.b 2 7, .b 4 7, .b 6 4, .c 2 0, .c 2 1, .c 2 2, .c 2 3, .c 2 4, .c 2 5, .c 2 6, .c 6 0, .c 6 1, .c 6 2, .c 6 3]), (1, [.b 2 7, .b 4 7, .b 6 4, .c 2 0, .c 2 1, .c 2 2, .c 2 3, .c 2 4, .c 2 5, .c 2 6, .c 6 0, .c 6 1, .c 6 2, .c 6 3, .t 13, .t 14, .t 15])] [(0, [.b 2 7, .b 4 7, .b 6 4, .c 2 0, .c 2 1, .c 2 2, .c 2 3, .c 2 4, .c 2 5, .c 2 6, .c 6 0, .c 6 1, .c 6 2, .c 6 3, .t 13, .t 14, .t 15])] [] 2 = f116 := by kernel_rfl
theorem f117_den : dn Tryz.f117 [1, 2] [(2600007, [.b 1 10, .b 2 5, .c 1 0, .c 1 2, .c 1 3, .c 1 4, .c 1 5, .c 1 6, .c 1 7, .c 1 8, .c 1 9, .t 4, .t 16, .t 17, .t 18])] [(0, [.b 1 10, .b 2 5, .c 1 0, .c 1 2, .c 1 3, .c 1 4, .c 1 5, .c 1 6, .c 1 7, .c 1 8, .c 1 9, .t 4]), (1, [.b 1 10, .b 2 5, .c 1 0, .c 1 2, .c 1 3, .c 1 4, .c 1 5, .c 1 6, .c 1 7, .c 1 8, .c 1 9, .t 4, .t 16, .t 17, .t 18])] [(0, [.b 1 10, .b 2 5, .c 1 0, .c 1 2, .c 1 3, .c 1 4, .c 1 5, .c 1 6, .c 1 7, .c 1 8, .c 1 9, .t 4, .t 16, .t 17, .t 18])] [(1, [6, 0, 1, 2, 3, 4, 5, 7])] 1 = f117 := by kernel_rfl
theorem f118_den : dn Tryz.f118 [2, 6, 7, 9, 20] [(7700023, [.b 2 2, .b 6 2, .b 7 4, .b 9 5, .c 6 0, .c 7 0, .c 7 2, .c 7 3, .c 9 1, .c 9 2, .c 9 3, .t 4, .t 5, .t 35, .t 36, .t 37]), (15100042, [.b 2 2, .b 6 2, .b 7 4, .b 20 4, .c 6 0, .c 7 0, .c 7 2, .c 7 3, .c 20 0, .c 20 1, .c 20 2, .c 20 3, .t 4, .t 5, .t 18, .t 35, .t 36, .t 37, .t 117, .t 118, .t 119, .t 129, .t 130])] [(0, [.b 2 2, .b 6 2, .b 7 4, .c 6 0, .c 7 0, .c 7 2, .c 7 3, .t 5]), (1, [.b 2 2, .b 6 2, .b 7 4, .c 6 0, .c 7 0, .c 7 2, .c 7 3, .t 4, .t 5, .t 35, .t 36, .t 37]), (2, [.b 2 2, .b 6 2, .b 7 4, .b 9 5, .c 6 0, .c 7 0, .c 7 2, .c 7 3, .c 9 1, .c 9 2, .c 9 3, .t 4, .t 5, .t 8, .t 35, .t 36, .t 37]), (3, [.b 2 2, .b 6 2, .b 7 4, .b 9 5, .c 6 0, .c 7 0, .c 7 2, .c 7 3, .c 9 1, .c 9 2, .c 9 3, .t 4, .t 5, .t 8, .t 35, .t 36, .t 37, .t 57, .t 58, .t 59]), (4, [.b 2 2, .b 6 2, .b 7 4, .b 9 5, .c 6 0, .c 7 0, .c 7 2, .c 7 3, .c 9 3, .t 4, .t 5, .t 35, .t 36, .t 37]), (5, [.b 2 2, .b 6 2, .b 7 4, .b 9 5, .c 6 0, .c 7 0, .c 7 2, .c 7 3, .c 9 3, .t 4, .t 5, .t 35, .t 36, .t 37, .t 89, .t 90, .t 91]), (6, [.b 2 2, .b 6 2, .b 7 4, .c 6 0, .c 7 0, .c 7 2, .c 7 3, .t 4, .t 5, .t 35, .t 36, .t 37]), (7, [.b 2 2, .b 6 2, .b 7 4, .c 6 0, .c 7 0, .c 7 2, .c 7 3, .t 4, .t 5, .t 18, .t 35, .t 36, .t 37, .t 117, .t 118, .t 119]), (8, [.b 2 2, .b 6 2, .b 7 4, .b 20 4, .c 6 0, .c 7 0, .c 7 2, .c 7 3, .c 20 0, .c 20 1, .c 20 2, .c 20 3, .t 4, .t 5, .t 18, .t 35, .t 36, .t 37, .t 117, .t 118, .t 119]), (9, [.b 2 2, .b 6 2, .b 7 4, .b 20 4, .c 6 0, .c 7 0, .c 7 2, .c 7 3, .c 20 0, .c 20 1, .c 20 2, .c 20 3, .t 4, .t 5, .t 18, .t 35, .t 36, .t 37, .t 117, .t 118, .t 119, .t 129, .t 130]), (10, [.b 2 2, .b 6 2, .b 7 4, .c 6 0, .c 7 0, .c 7 2, .c 7 3, .t 5, .t 22]), (11, [.b 2 2, .b 6 2, .b 7 4, .c 6 0, .c 7 0, .c 7 2, .c 7 3, .t 5, .t 22, .t 182, .t 183])] [(0, [.b 2 2, .b 6 2, .b 7 4, .c 6 0, .c 7 0, .c 7 2, .c 7 3, .t 4, .t 5, .t 35, .t 36, .t 37]), (2, [.b 2 2, .b 6 2, .b 7 4, .b 9 5, .c 6 0, .c 7 0, .c 7 2, .c 7 3, .c 9 1, .c 9 2, .c 9 3, .t 4, .t 5, .t 8, .t 35, .t 36, .t 37, .t 57, .t 58, .t 59]), (4, [.b 2 2, .b 6 2, .b 7 4, .b 9 5, .c 6 0, .c 7 0, .c 7 2, .c 7 3, .c 9 3, .t 4, .t 5, .t 35, .t 36, .t 37, .t 89, .t 90, .t 91]), (6, [.b 2 2, .b 6 2, .b 7 4, .c 6 0, .c 7 0, .c 7 2, .c 7 3, .t 4, .t 5, .t 18, .t 35, .t 36, .t 37, .t 117, .t 118, .t 119]), (8, [.b 2 2, .b 6 2, .b 7 4, .b 20 4, .c 6 0, .c 7 0, .c 7 2, .c 7 3, .c 20 0, .c 20 1, .c 20 2, .c 20 3, .t 4, .t 5, .t 18, .t 35, .t 36, .t 37, .t 117, .t 118, .t 119, .t 129, .t 130]), (10, [.b 2 2, .b 6 2, .b 7 4, .c 6 0, .c 7 0, .c 7 2, .c 7 3, .t 5, .t 22, .t 182, .t 183])] [] 1 = f118 := by kernel_rfl
theorem f119_den : dn Tryz.f119 [1] [(600005, [.b 1 4, .c 1 0, .c 1 1, .c 1 3, .t 3]), (1100007, [.b 1 4, .c 1 0, .c 1 1, .c 1 3, .t 3]), (1600009, [.b 1 4, .c 1 0, .c 1 1, .c 1 3, .t 3, .t 16]), (1600010, [.b 1 4, .c 1 0, .c 1 1, .c 1 3, .t 3])] [(0, [.b 1 4, .c 1 0, .c 1 1, .c 1 3, .t 3])] [] [] 1 = f119 := by kernel_rfl
theorem f120_den : dn Tryz.f120 [3, 6] [] [(0, []), (1, [.b 3 4, .c 3 0, .c 3 1, .t 7, .t 8, .t 9])] [(0, [.b 3 4, .c 3 0, .c 3 1, .t 7, .t 8, .t 9])] [] 2 = f120 := by kernel_rfl
theorem f121_den : dn Tryz.f121 [4] [] [(0, [.t 0]), (1, [.t 0, .t 5, .t 6, .t 7])] [(0, [.t 0, .t 5, .t 6, .t 7])] [] 1 = f121 := by kernel_rfl
theorem f122_den : dn Tryz.f122 [1] [] [] [] [] 1 = f122 := by kernel_rfl
theorem f123_den : dn Tryz.f123 [5, 13] [(6900016, [.b 13 5, .c 13 0, .c 13 1, .c 13 2, .c 13 3, .c 13 4, .t 0, .t 2, .t 3, .t 10, .t 14, .t 53, .t 54, .t 55])] [(0, [.t 3, .t 11]), (1, [.t 0, .t 2, .t 3, .t 10, .t 11, .t 53, .t 54, .t 55])] [(0, [.t 0, .t 2, .t 3, .t 10, .t 11, .t 53, .t 54, .t 55])] [] 4 = f123 := by kernel_rfl
theorem f124_den : dn Tryz.f124 [1, 2] [] [] [] [] 1 = f124 := by kernel_rfl
theorem f125_den : dn Tryz.f125 [3, 6] [] [(0, [.b 3 5, .c 3 0, .c 3 1, .c 3 2, .c 3 3, .c 3 4, .t 0]), (1, [.b 3 5, .c 3 0, .c 3 1, .c 3 2, .c 3 3, .c 3 4, .t 0, .t 7, .t 8, .t 9])] [(0, [.b 3 5, .c 3 0, .c 3 1, .c 3 2, .c 3 3, .c 3 4, .t 0, .t 7, .t 8, .t 9])] [] 2 = f125 := by kernel_rfl
theorem f126_den : dn Tryz.f126 [1, 5] [] [(0, [.t 3]), (1, [.t 3, .t 7, .t 8, .t 9])] [(0, [.t 3, .t 7, .t 8, .t 9])] [] 1 = f126 := by kernel_rfl
theorem f127_den : dn Tryz.f127 [] [] [(0, [])] [] [] 4 = f127 := by kernel_rfl
theorem f128_den : dn Tryz.f128 [] [] [(0, []), (1, [.t 0, .t 5, .t 6, .t 7])] [(0, [.t 0, .t 5, .t 6, .t 7])] [] 1 = f128 := by kernel_rfl
theorem f129_den : dn Tryz.f129 [] [] [] [] [] 1 = f129 := by kernel_rfl
theorem f130_den : dn Tryz.f130 [1, 2] [] [] [] [] 1 = f130 := by kernel_rfl
theorem f131_den : dn Tryz.f131 [3, 4, 7, 9, 11] [(3400010, [.b 4 4, .b 7 4, .c 7 0, .c 7 1, .c 7 2, .c 7 3, .t 6, .t 22, .t 23, .t 24])] [(0, [.b 4 4, .b 7 4, .c 7 0, .c 7 1, .c 7 2, .c 7 3, .t 6]), (1, [.b 4 4, .b 7 4, .c 7 0, .c 7 1, .c 7 2, .c 7 3, .t 6, .t 22, .t 23, .t 24]), (2, [.b 4 4, .b 7 4, .c 7 0, .c 7 1, .c 7 2, .c 7 3]), (3, [.b 4 4, .b 7 4, .c 7 0, .c 7 1, .c 7 2, .c 7 3, .t 37, .t 38, .t 39])] [(0, [.b 4 4, .b 7 4, .c 7 0, .c 7 1, .c 7 2, .c 7 3, .t 6, .t 22, .t 23, .t 24]), (2, [.b 4 4, .b 7 4, .c 7 0, .c 7 1, .c 7 2, .c 7 3, .t 37, .t 38, .t 39])] [] 2 = f131 := by kernel_rfl
theorem f132_den : dn Tryz.f132 [] [] [(0, [.t 0, .t 5]), (1, [.t 0, .t 1, .t 5])] [(0, [.t 0, .t 1, .t 5])] [] 2 = f132 := by kernel_rfl
theorem f133_den : dn Tryz.f133 [4, 5, 6, 9] [] [(0, [.b 6 5]), (1, [.b 4 3, .b 5 5, .b 6 5, .c 4 0, .c 4 2, .c 5 0, .c 5 1, .c 5 2, .c 5 3, .c 5 4, .t 0, .t 23, .t 24, .t 25])] [(0, [.b 4 3, .b 5 5, .b 6 5, .c 4 0, .c 4 2, .c 5 0, .c 5 1, .c 5 2, .c 5 3, .c 5 4, .t 0, .t 23, .t 24, .t 25])] [(6, [7, 0, 1, 2, 3, 4, 5, 6, 8, 9, 10, 11, 12, 13])] 3 = f133 := by kernel_rfl
theorem f134_den : dn Tryz.f134 [8] [] [] [] [] 4 = f134 := by kernel_rfl
theorem f135_den : dn Tryz.f135 [3, 4, 5] [] [] [] [] 2 = f135 := by kernel_rfl
theorem f136_den : dn Tryz.f136 [4, 5] [] [] [] [] 2 = f136 := by kernel_rfl
theorem f137_den : dn Tryz.f137 [4] [(4100007, [.b 4 8, .t 0, .t 6])] [] [] [] 2 = f137 := by kernel_rfl
theorem f138_den : dn Tryz.f138 [3, 4, 9, 10] [] [(0, [.b 3 5, .b 4 8, .c 3 4, .t 0, .t 5, .t 6, .t 7]), (1, [.b 3 5, .b 4 8, .c 3 4, .t 0, .t 5, .t 6, .t 7, .t 29, .t 30, .t 31]), (2, [.b 3 5, .b 4 8, .c 3 4, .t 0, .t 5]), (3, [.b 3 5, .b 4 8, .c 3 4, .t 0, .t 5, .t 6, .t 7, .t 86, .t 87])] [(0, [.b 3 5, .b 4 8, .c 3 4, .t 0, .t 5, .t 6, .t 7, .t 29, .t 30, .t 31]), (2, [.b 3 5, .b 4 8, .c 3 4, .t 0, .t 5, .t 6, .t 7, .t 86, .t 87])] [] 2 = f138 := by kernel_rfl
theorem f139_den : dn Tryz.f139 [13] [] [(0, [.t 2, .t 10, .t 11]), (1, [.t 0, .t 2, .t 10, .t 11, .t 30, .t 31, .t 32])] [(0, [.t 0, .t 2, .t 10, .t 11, .t 30, .t 31, .t 32])] [] 4 = f139 := by kernel_rfl
theorem f140_den : dn Tryz.f140 [] [] [] [] [] 0 = f140 := by kernel_rfl
theorem f141_den : dn Tryz.f141 [] [] [] [] [] 0 = f141 := by kernel_rfl
theorem f142_den : dn Tryz.f142 [] [] [] [] [] 1 = f142 := by kernel_rfl
theorem f143_den : dn Tryz.f143 [2] [] [] [] [] 1 = f143 := by kernel_rfl
theorem f144_den : dn Tryz.f144 [] [] [(0, [.t 0]), (1, [.t 0, .t 3])] [(0, [.t 0, .t 3])] [] 1 = f144 := by kernel_rfl
theorem f145_den : dn Tryz.f145 [2] [] [] [] [] 1 = f145 := by kernel_rfl
theorem f146_den : dn Tryz.f146 [2] [] [(0, [.b 2 4, .t 0, .t 3]), (1, [.b 2 4, .t 0, .t 3]), (2, [.b 2 4, .t 0])] [(0, [.b 2 4, .t 0, .t 3])] [] 1 = f146 := by kernel_rfl
theorem f147_den : dn Tryz.f147 [1, 5] [] [(0, [.t 3]), (1, [.t 3, .t 7, .t 8, .t 9])] [(0, [.t 3, .t 7, .t 8, .t 9])] [] 1 = f147 := by kernel_rfl
theorem f148_den : dn Tryz.f148 [4, 7] [] [] [] [] 3 = f148 := by kernel_rfl
theorem f149_den : dn Tryz.f149 [5, 8] [(3800007, [.t 0, .t 9])] [] [] [] 4 = f149 := by kernel_rfl
theorem f150_den : dn Tryz.f150 [] [(2200008, [.t 1, .t 5, .t 6, .t 8, .t 10, .t 11, .t 12]), (2500009, [.t 1, .t 5, .t 8, .t 10, .t 11, .t 12]), (3600014, [.t 5])] [(0, [.t 1, .t 5, .t 6]), (1, [.t 1, .t 5, .t 6, .t 10, .t 11, .t 12])] [(0, [.t 1, .t 5, .t 6, .t 10, .t 11, .t 12])] [] 2 = f150 := by kernel_rfl
theorem f151_den : dn Tryz.f151 [] [(2400009, [.t 1, .t 5, .t 16, .t 17, .t 18])] [(0, [.t 5]), (1, [.t 1, .t 5, .t 16, .t 17, .t 18])] [(0, [.t 1, .t 5, .t 16, .t 17, .t 18])] [] 2 = f151 := by kernel_rfl
theorem f152_den : dn Tryz.f152 [] [(1500007, [.t 3, .t 7, .t 8, .t 9])] [(0, [.t 3]), (1, [.t 3, .t 7, .t 8, .t 9])] [(0, [.t 3, .t 7, .t 8, .t 9])] [] 1 = f152 := by kernel_rfl
theorem f153_den : dn Tryz.f153 [3, 6, 8, 10] [(1300003, [.b 3 4, .b 6 4, .c 3 0, .c 3 1, .c 3 2, .c 3 3, .t 1, .t 2])] [(0, [.b 6 4, .b 8 4, .c 8 0, .c 8 1, .c 8 2, .c 8 3]), (1, [.b 6 4, .b 8 4, .c 8 0, .c 8 1, .c 8 2, .c 8 3, .t 1, .t 2, .t 39, .t 40, .t 41])] [(0, [.b 6 4, .b 8 4, .c 8 0, .c 8 1, .c 8 2, .c 8 3, .t 1, .t 2, .t 39, .t 40, .t 41])] [] 3 = f153 := by kernel_rfl
theorem f154_den : dn Tryz.f154 [1, 6] [] [(0, []), (1, []), (2, [.t 133, .t 134, .t 135])] [(1, [.t 133, .t 134, .t 135])] [] 1 = f154 := by kernel_rfl
theorem f155_den : dn Tryz.f155 [2, 6] [] [(0, [.t 1]), (1, [.t 1, .t 12, .t 13, .t 14])] [(0, [.t 1, .t 12, .t 13, .t 14])] [] 2 = f155 := by kernel_rfl
theorem f156_den : dn Tryz.f156 [3, 9] [(2600003, [.b 3 8, .c 3 2, .c 3 7, .t 1, .t 2])] [(0, [.b 3 8, .c 3 2, .c 3 7, .t 1, .t 2]), (1, [.b 3 8, .c 3 2, .c 3 7, .t 1, .t 2, .t 32, .t 33, .t 34]), (2, [.b 3 8, .c 3 2, .t 1]), (3, [.b 3 8, .c 3 2, .t 1, .t 2, .t 44, .t 45, .t 46]), (4, []), (5, [.t 1, .t 56, .t 57, .t 58])] [(0, [.b 3 8, .c 3 2, .c 3 7, .t 1, .t 2, .t 32, .t 33, .t 34]), (2, [.b 3 8, .c 3 2, .t 1, .t 2, .t 44, .t 45, .t 46]), (4, [.t 1, .t 56, .t 57, .t 58])] [] 3 = f156 := by kernel_rfl
theorem f157_den : dn Tryz.f157 [4] [(3600008, [.b 4 8, .c 4 7, .t 0, .t 2, .t 6, .t 7]), (6100012, [])] [] [] [] 3 = f157 := by kernel_rfl
theorem f158_den : dn Tryz.f158 [7] [(2900007, [.t 0, .t 1, .t 2, .t 9, .t 10, .t 11])] [(0, []), (1, [.t 0, .t 1, .t 2, .t 9, .t 10, .t 11])] [(0, [.t 0, .t 1, .t 2, .t 9, .t 10, .t 11])] [] 3 = f158 := by kernel_rfl
theorem f159_den : dn Tryz.f159 [1, 2] [] [] [] [] 1 = f159 := by kernel_rfl
theorem f160_den : dn Tryz.f160 [] [] [] [] [] 4 = f160 := by kernel_rfl
theorem f161_den : dn Tryz.f161 [7] [(2300007, [.b 7 8, .c 7 0, .c 7 1, .c 7 2, .c 7 3, .c 7 4, .c 7 5, .c 7 6, .c 7 7, .t 0, .t 1, .t 2, .t 8, .t 14, .t 15, .t 16])] [(0, [.b 7 8, .c 7 0, .c 7 1, .c 7 2, .c 7 3, .c 7 4, .c 7 5, .c 7 6, .c 7 7, .t 0, .t 1, .t 2, .t 8]), (1, [.b 7 8, .c 7 0, .c 7 1, .c 7 2, .c 7 3, .c 7 4, .c 7 5, .c 7 6, .c 7 7, .t 0, .t 1, .t 2, .t 8, .t 14, .t 15, .t 16]), (2, [.b 7 8, .c 7 0, .c 7 1, .c 7 2, .c 7 3, .c 7 4, .c 7 5, .c 7 6, .c 7 7, .t 0, .t 1, .t 2, .t 8]), (3, [.b 7 8, .c 7 0, .c 7 1, .c 7 2, .c 7 3, .c 7 4, .c 7 5, .c 7 6, .c 7 7, .t 0, .t 1, .t 2, .t 8, .t 29, .t 30, .t 31])] [(0, [.b 7 8, .c 7 0, .c 7 1, .c 7 2, .c 7 3, .c 7 4, .c 7 5, .c 7 6, .c 7 7, .t 0, .t 1, .t 2, .t 8, .t 14, .t 15, .t 16]), (2, [.b 7 8, .c 7 0, .c 7 1, .c 7 2, .c 7 3, .c 7 4, .c 7 5, .c 7 6, .c 7 7, .t 0, .t 1, .t 2, .t 8, .t 29, .t 30, .t 31])] [] 4 = f161 := by kernel_rfl
theorem f162_den : dn Tryz.f162 [] [(800002, [.t 0, .t 1]), (1900004, [])] [] [] [] 2 = f162 := by kernel_rfl
theorem f163_den : dn Tryz.f163 [1] [] [] [] [] 1 = f163 := by kernel_rfl
theorem f164_den : dn Tryz.f164 [4, 5, 7] [(1800006, [.b 4 2, .b 5 4, .b 7 6, .c 4 0, .c 5 0, .c 5 1, .c 5 2, .c 7 1, .t 2, .t 10, .t 18]), (1800007, [.b 4 2, .b 5 4, .b 7 6, .c 4 0, .c 5 0, .c 5 1, .c 5 2, .c 7 1, .t 2, .t 10, .t 18]), (4800014, [.b 4 2, .b 5 4, .b 7 6, .c 4 0, .c 5 2, .c 7 1, .t 2, .t 10, .t 48]), (4800015, [.b 4 2, .b 5 4, .b 7 6, .c 4 0, .c 5 2, .c 7 1, .t 2, .t 10, .t 48]), (6300020, [.b 4 2, .b 7 6, .c 4 0, .c 7 1, .t 2, .t 10, .t 63]), (9600025, [.b 7 6, .c 7 1, .t 96])] [(0, [])] [] [] 4 = f164 := by kernel_rfl
theorem f165_den : dn Tryz.f165 [2, 3] [(800004, [.b 2 2, .b 3 6, .c 2 0, .c 3 1, .t 7, .t 8]), (800005, [.b 2 2, .b 3 6, .c 2 0, .c 3 1, .t 7, .t 8]), (800006, [.b 2 2, .b 3 6, .c 2 0, .c 3 1, .t 7, .t 8]), (800007, [.b 2 2, .b 3 6, .c 2 0, .c 3 1, .t 7, .t 8]), (800008, [.b 2 2, .b 3 6, .c 2 0, .c 3 1, .t 7, .t 8]), (1500011, [.b 2 2, .b 3 6, .c 2 0, .c 3 1, .t 7, .t 15]), (1800014, [.b 2 2, .b 3 6, .c 2 0, .c 3 1, .t 7, .t 18]), (1800015, [.b 2 2, .b 3 6, .c 2 0, .c 3 1, .t 7, .t 18]), (1800016, [.b 2 2, .b 3 6, .c 2 0, .c 3 1, .t 7, .t 18]), (4000023, [.t 40]), (4000024, [.t 40])] [(0, [])] [] [] 2 = f165 := by kernel_rfl
theorem f166_den : dn Tryz.f166 [] [] [] [] [] 1 = f166 := by kernel_rfl
theorem f167_den : dn Tryz.f167 [1] [(1800008, [.b 1 6, .c 1 0, .c 1 1, .t 18])] [(0, [.b 1 6, .c 1 0, .c 1 1])] [] [] 1 = f167 := by kernel_rfl
theorem f168_den : dn Tryz.f168 [5, 6, 11, 12] [(1500004, []), (2600006, []), (3100008, []), (3900010, []), (5100012, []), (6300014, []), (7600016, []), (8900018, []), (10200020, []), (11500022, []), (12700024, []), (13800025, []), (15800027, []), (16300028, []), (19900032, [.b 5 6, .c 5 0, .c 5 1, .t 0, .t 1, .t 14, .t 199]), (19900033, []), (22100035, []), (22800037, [.b 5 6, .c 5 0, .c 5 1, .t 0, .t 1, .t 14, .t 228]), (22800038, []), (23800041, [.t 0, .t 9, .t 10]), (26000044, []), (26900046, []), (29200050, []), (29900052, []), (31200054, []), (31800056, [])] [(0, [])] [] [] 3 = f168 := by kernel_rfl
theorem f170_den : dn Tryz.f170 [] [] [(0, []), (1, [.t 0, .t 3])] [(0, [.t 0, .t 3])] [] 1 = f170 := by kernel_rfl
theorem f173_den : dn Tryz.f173 [3, 8] [] [(0, []), (1, [.t 1, .t 2, .t 36, .t 37, .t 38])] [(0, [.t 1, .t 2, .t 36, .t 37, .t 38])] [] 3 = f173 := by kernel_rfl
theorem f176_den : dn Tryz.f176 [3, 4, 6, 8] [] [(0, [.b 4 3, .b 6 3, .c 6 0, .c 6 1, .c 6 2]), (1, [.b 4 3, .b 6 3, .c 6 0, .c 6 1, .c 6 2, .t 45, .t 46, .t 47])] [(0, [.b 4 3, .b 6 3, .c 6 0, .c 6 1, .c 6 2, .t 45, .t 46, .t 47])] [] 2 = f176 := by kernel_rfl
theorem f177_den : dn Tryz.f177 [1, 2, 3, 5] [] [(0, [.b 2 5, .b 3 5, .c 3 0, .c 3 1, .c 3 2, .c 3 3, .c 3 4]), (1, [.b 2 5, .b 3 5, .c 3 0, .c 3 1, .c 3 2, .c 3 3, .c 3 4, .t 14, .t 15, .t 16])] [(0, [.b 2 5, .b 3 5, .c 3 0, .c 3 1, .c 3 2, .c 3 3, .c 3 4, .t 14, .t 15, .t 16])] [] 1 = f177 := by kernel_rfl
theorem f178_den : dn Tryz.f178 [4, 5] [] [] [] [] 3 = f178 := by kernel_rfl
theorem f179_den : dn Tryz.f179 [] [] [] [] [] 1 = f179 := by kernel_rfl
theorem f180_den : dn Tryz.f180 [] [] [(0, []), (1, [.t 0, .t 3])] [(0, [.t 0, .t 3])] [] 1 = f180 := by kernel_rfl
theorem f181_den : dn Tryz.f181 [1, 2] [] [] [] [] 1 = f181 := by kernel_rfl
theorem f182_den : dn Tryz.f182 [1, 4, 6] [] [(0, [.b 1 5, .c 1 0, .c 1 1, .c 1 2, .c 1 3]), (1, [.b 1 5, .c 1 0, .c 1 1, .c 1 2, .c 1 3, .t 48, .t 49, .t 50]), (2, []), (3, [.b 1 5, .c 1 1, .c 1 2, .c 1 3, .t 66, .t 67, .t 68])] [(0, [.b 1 5, .c 1 0, .c 1 1, .c 1 2, .c 1 3, .t 48, .t 49, .t 50]), (2, [.b 1 5, .c 1 1, .c 1 2, .c 1 3, .t 66, .t 67, .t 68])] [] 1 = f182 := by kernel_rfl
theorem f183_den : dn Tryz.f183 [] [] [] [] [] 1 = f183 := by kernel_rfl
theorem f184_den : dn Tryz.f184 [1, 2, 3, 5] [] [(0, [.b 2 5, .b 3 5, .c 3 0, .c 3 1, .c 3 2, .c 3 3, .c 3 4]), (1, [.b 2 5, .b 3 5, .c 3 0, .c 3 1, .c 3 2, .c 3 3, .c 3 4, .t 17, .t 18, .t 19])] [(0, [.b 2 5, .b 3 5, .c 3 0, .c 3 1, .c 3 2, .c 3 3, .c 3 4, .t 17, .t 18, .t 19])] [] 1 = f184 := by kernel_rfl
theorem f185_den : dn Tryz.f185 [1, 2] [] [] [] [] 1 = f185 := by kernel_rfl
theorem f186_den : dn Tryz.f186 [] [] [] [] [] 2 = f186 := by kernel_rfl
theorem f187_den : dn Tryz.f187 [6, 12, 13, 14] [] [(0, []), (1, [.t 0, .t 1, .t 3, .t 17, .t 18, .t 19]), (2, [.t 0, .t 1, .t 3, .t 17, .t 18, .t 19]), (3, [.t 0, .t 1, .t 3, .t 10, .t 17, .t 18, .t 19, .t 26, .t 27, .t 28])] [(0, [.t 0, .t 1, .t 3, .t 17, .t 18, .t 19]), (2, [.t 0, .t 1, .t 3, .t 10, .t 17, .t 18, .t 19, .t 26, .t 27, .t 28])] [] 4 = f187 := by kernel_rfl
theorem f188_den : dn Tryz.f188 [2, 4] [] [] [] [] 2 = f188 := by kernel_rfl
theorem f189_den : dn Tryz.f189 [8, 11, 15, 17] [(5800019, [.b 8 5, .c 8 0, .c 8 1, .c 8 2, .c 8 3, .c 8 4, .t 0, .t 6, .t 7, .t 14]), (6900023, [.t 0, .t 6, .t 7]), (7700025, [.t 0, .t 6, .t 7]), (9200030, [.t 0, .t 6, .t 7])] [(0, [.t 6]), (1, [.t 0, .t 6, .t 7]), (2, [.t 0, .t 6, .t 7])] [(0, [.t 0, .t 6, .t 7])] [] 2 = f189 := by kernel_rfl
theorem f190_den : dn Tryz.f190 [10, 11] [(2100010, [.b 10 9, .b 11 8, .c 10 0, .c 10 1, .c 11 0, .c 11 1, .c 11 2, .c 11 3, .c 11 4, .c 11 5, .c 11 6, .c 11 7, .t 0, .t 7, .t 8, .t 12, .t 13, .t 14, .t 15]), (4200015, [.b 11 8, .c 11 0, .c 11 1, .c 11 2, .c 11 3, .c 11 4, .c 11 5, .c 11 6, .c 11 7, .t 0, .t 7, .t 8, .t 13, .t 14, .t 15])] [(0, [.t 7, .t 8]), (1, [.t 0, .t 7, .t 8, .t 13, .t 14, .t 15])] [(0, [.t 0, .t 7, .t 8, .t 13, .t 14, .t 15])] [] 2 = f190 := by kernel_rfl
theorem f191_den : dn Tryz.f191 [3, 4, 8, 10] [(4500007, [.b 3 5, .b 4 4, .c 3 2, .c 3 3, .t 0, .t 6, .t 11, .t 12, .t 13])] [(0, [.b 3 5, .b 4 4, .c 3 2, .c 3 3, .t 0, .t 6]), (1, [.b 3 5, .b 4 4, .c 3 2, .c 3 3, .t 0, .t 6, .t 11, .t 12, .t 13]), (2, [.b 4 4, .t 0, .t 6]), (3, [.b 3 5, .b 4 4, .c 3 2, .c 3 3, .t 0, .t 6, .t 51, .t 52, .t 53])] [(0, [.b 3 5, .b 4 4, .c 3 2, .c 3 3, .t 0, .t 6, .t 11, .t 12, .t 13]), (2, [.b 3 5, .b 4 4, .c 3 2, .c 3 3, .t 0, .t 6, .t 51, .t 52, .t 53])] [] 2 = f191 := by kernel_rfl
theorem f192_den : dn Tryz.f192 [2] [] [] [] [] 2 = f192 := by kernel_rfl
theorem f193_den : dn Tryz.f193 [1, 5] [] [(0, [.t 3]), (1, [.t 3, .t 7, .t 8, .t 9])] [(0, [.t 3, .t 7, .t 8, .t 9])] [] 1 = f193 := by kernel_rfl
theorem f194_den : dn Tryz.f194 [1, 5] [] [(0, [.t 3]), (1, [.t 3, .t 7, .t 8, .t 9])] [(0, [.t 3, .t 7, .t 8, .t 9])] [] 1 = f194 := by kernel_rfl
theorem f195_den : dn Tryz.f195 [1] [] [] [] [] 1 = f195 := by kernel_rfl
theorem f197_den : dn Tryz.f197 [] [] [] [] [] 3 = f197 := by kernel_rfl
theorem f198_den : dn Tryz.f198 [2] [] [] [] [] 2 = f198 := by kernel_rfl
theorem f200_den : dn Tryz.f200 [] [] [(0, []), (1, [.t 1, .t 7, .t 8, .t 9])] [(0, [.t 1, .t 7, .t 8, .t 9])] [] 2 = f200 := by kernel_rfl
theorem f201_den : dn Tryz.f201 [1] [] [] [] [] 1 = f201 := by kernel_rfl
theorem f202_den : dn Tryz.f202 [] [] [(0, []), (1, [.t 0, .t 3])] [(0, [.t 0, .t 3])] [] 1 = f202 := by kernel_rfl
theorem f203_den : dn Tryz.f203 [] [] [(0, []), (1, [.t 0, .t 1, .t 12, .t 13])] [(0, [.t 0, .t 1, .t 12, .t 13])] [] 2 = f203 := by kernel_rfl
theorem f204_den : dn Tryz.f204 [1] [] [] [] [] 1 = f204 := by kernel_rfl
theorem f205_den : dn Tryz.f205 [3, 6] [] [(0, []), (1, [.b 3 5, .c 3 0, .c 3 1, .c 3 2, .c 3 3, .c 3 4, .t 7, .t 8, .t 9])] [(0, [.b 3 5, .c 3 0, .c 3 1, .c 3 2, .c 3 3, .c 3 4, .t 7, .t 8, .t 9])] [] 2 = f205 := by kernel_rfl
theorem f206_den : dn Tryz.f206 [3, 6] [] [(0, []), (1, [.b 3 5, .c 3 0, .c 3 1, .c 3 2, .c 3 3, .c 3 4, .t 7, .t 8, .t 9])] [(0, [.b 3 5, .c 3 0, .c 3 1, .c 3 2, .c 3 3, .c 3 4, .t 7, .t 8, .t 9])] [] 2 = f206 := by kernel_rfl
theorem f207_den : dn Tryz.f207 [6] [] [(0, [.t 4]), (1, [.t 4, .t 7, .t 8, .t 9])] [(0, [.t 4, .t 7, .t 8, .t 9])] [] 1 = f207 := by kernel_rfl
theorem f208_den : dn Tryz.f208 [4, 10] [(6000011, [.b 4 5, .b 10 5, .c 4 4, .c 10 0, .c 10 1, .c 10 2, .c 10 3, .c 10 4, .t 0, .t 2, .t 8, .t 9])] [(0, []), (1, [.b 4 5, .c 4 4, .t 0, .t 2, .t 8])] [(0, [.b 4 5, .c 4 4, .t 0, .t 2, .t 8])] [] 3 = f208 := by kernel_rfl
theorem f209_den : dn Tryz.f209 [] [] [] [] [] 1 = f209 := by kernel_rfl
theorem f210_den : dn Tryz.f210 [3, 7] [(2600007, [.b 3 5, .c 3 2, .c 3 3, .t 5, .t 9, .t 10, .t 11])] [(0, [.t 5]), (1, [.b 3 5, .c 3 2, .c 3 3, .t 5, .t 9, .t 10, .t 11])] [(0, [.b 3 5, .c 3 2, .c 3 3, .t 5, .t 9, .t 10, .t 11])] [] 2 = f210 := by kernel_rfl
theorem f211_den : dn Tryz.f211 [] [] [(0, []), (1, [.t 1, .t 7, .t 8, .t 9])] [(0, [.t 1, .t 7, .t 8, .t 9])] [] 2 = f211 := by kernel_rfl
theorem f212_den : dn Tryz.f212 [7, 8] [] [(0, [.b 7 5, .b 8 5, .c 7 0, .c 7 1, .c 7 2, .c 8 0, .c 8 1, .c 8 2, .t 4])] [] [] 5 = f212 := by kernel_rfl
theorem f213_den : dn Tryz.f213 [2, 4, 7] [] [] [] [] 2 = f213 := by kernel_rfl
theorem f214_den : dn Tryz.f214 [2, 5] [(1500007, [.b 2 8, .t 3, .t 7, .t 8, .t 9])] [(0, [.b 2 8, .t 3]), (1, [.b 2 8, .t 3, .t 7, .t 8, .t 9])] [(0, [.b 2 8, .t 3, .t 7, .t 8, .t 9])] [] 1 = f214 := by kernel_rfl
theorem f215_den : dn Tryz.f215 [6, 7] [(3400009, [.t 0, .t 1, .t 5]), (4900011, [.t 0, .t 1, .t 5]), (6800013, [.t 0, .t 1, .t 5]), (8600015, [.t 0, .t 1, .t 5])] [(0, [.t 5]), (1, [.t 0, .t 1, .t 5]), (2, [.t 0, .t 1, .t 5])] [(0, [.t 0, .t 1, .t 5])] [] 2 = f215 := by kernel_rfl
theorem f216_den : dn Tryz.f216 [7] [] [(0, [.t 5]), (1, [.t 1, .t 5, .t 9, .t 10, .t 11])] [(0, [.t 1, .t 5, .t 9, .t 10, .t 11])] [] 2 = f216 := by kernel_rfl
theorem f217_den : dn Tryz.f217 [9, 10] [(2100009, [.b 9 4, .b 10 8, .c 9 0, .c 10 0, .c 10 1, .c 10 2, .c 10 3, .c 10 4, .c 10 5, .c 10 6, .c 10 7, .t 0, .t 6, .t 7, .t 13, .t 14, .t 15]), (3600012, [.b 10 8, .c 10 0, .c 10 1, .c 10 2, .c 10 3, .c 10 4, .c 10 5, .c 10 6, .c 10 7, .t 0, .t 6, .t 7, .t 13, .t 14, .t 15])] [(0, [.t 6, .t 7]), (1, [.t 0, .t 6, .t 7, .t 13, .t 14, .t 15])] [(0, [.t 0, .t 6, .t 7, .t 13, .t 14, .t 15])] [] 2 = f217 := by kernel_rfl
theorem f218_den : dn Tryz.f218 [4] [] [(0, []), (1, [.t 5, .t 6, .t 7])] [(0, [.t 5, .t 6, .t 7])] [] 1 = f218 := by kernel_rfl
theorem f219_den : dn Tryz.f219 [3] [] [] [] [] 2 = f219 := by kernel_rfl
theorem f220_den : dn Tryz.f220 [] [] [] [] [] 1 = f220 := by kernel_rfl
theorem f221_den : dn Tryz.f221 [] [(1400004, [.t 0, .t 4]), (4700015, [.t 0, .t 5])] [(0, [.t 0, .t 4, .t 5]), (1, [.t 0, .t 4, .t 5, .t 6])] [(0, [.t 0, .t 4, .t 5, .t 6])] [] 1 = f221 := by kernel_rfl
theorem f222_den : dn Tryz.f222 [2] [] [] [] [] 1 = f222 := by kernel_rfl
theorem f223_den : dn Tryz.f223 [2] [] [] [] [] 1 = f223 := by kernel_rfl
theorem f224_den : dn Tryz.f224 [3] [] [] [] [(3, [2, 3, 0, 1, 4, 5, 6, 7])] 2 = f224 := by kernel_rfl
theorem f225_den : dn Tryz.f225 [] [] [(0, []), (1, [.t 1, .t 7, .t 8, .t 9])] [(0, [.t 1, .t 7, .t 8, .t 9])] [] 2 = f225 := by kernel_rfl
theorem f226_den : dn Tryz.f226 [] [] [(0, []), (1, [.t 1, .t 7, .t 8, .t 9])] [(0, [.t 1, .t 7, .t 8, .t 9])] [] 2 = f226 := by kernel_rfl
theorem f227_den : dn Tryz.f227 [1, 2, 3, 5] [] [(0, [.b 2 4, .b 3 4, .c 3 0, .c 3 1, .c 3 2, .c 3 3]), (1, [.b 2 4, .b 3 4, .c 3 0, .c 3 1, .c 3 2, .c 3 3, .t 14, .t 15, .t 16])] [(0, [.b 2 4, .b 3 4, .c 3 0, .c 3 1, .c 3 2, .c 3 3, .t 14, .t 15, .t 16])] [] 1 = f227 := by kernel_rfl
theorem f228_den : dn Tryz.f228 [2, 3] [] [(0, []), (1, [.b 2 4, .b 3 4, .c 2 3, .c 3 3, .t 36, .t 37])] [(0, [.b 2 4, .b 3 4, .c 2 3, .c 3 3, .t 36, .t 37])] [] 2 = f228 := by kernel_rfl
theorem f229_den : dn Tryz.f229 [] [] [] [] [] 0 = f229 := by kernel_rfl
theorem f230_den : dn Tryz.f230 [] [] [] [] [] 1 = f230 := by kernel_rfl
theorem f231_den : dn Tryz.f231 [1] [] [] [] [] 1 = f231 := by kernel_rfl
theorem f232_den : dn Tryz.f232 [3, 4, 6] [] [] [] [] 2 = f232 := by kernel_rfl
theorem f233_den : dn Tryz.f233 [3] [] [] [] [] 2 = f233 := by kernel_rfl
theorem f234_den : dn Tryz.f234 [5] [] [] [] [] 3 = f234 := by kernel_rfl
theorem f235_den : dn Tryz.f235 [5, 6] [] [] [] [] 3 = f235 := by kernel_rfl
theorem f236_den : dn Tryz.f236 [3] [] [] [] [] 2 = f236 := by kernel_rfl
theorem f237_den : dn Tryz.f237 [] [] [] [] [] 2 = f237 := by kernel_rfl
theorem f238_den : dn Tryz.f238 [] [] [] [] [] 2 = f238 := by kernel_rfl
theorem f239_den : dn Tryz.f239 [] [] [(0, [.t 0, .t 2, .t 6, .t 7]), (1, [.t 0, .t 2, .t 6, .t 7]), (2, [.t 0, .t 2, .t 6, .t 7, .t 8]), (3, [.t 0, .t 2, .t 6, .t 7, .t 8, .t 61, .t 62, .t 63])] [(0, [.t 0, .t 2, .t 6, .t 7]), (2, [.t 0, .t 2, .t 6, .t 7, .t 8, .t 61, .t 62, .t 63])] [] 3 = f239 := by kernel_rfl
theorem f240_den : dn Tryz.f240 [] [] [] [] [] 1 = f240 := by kernel_rfl
theorem f241_den : dn Tryz.f241 [5, 9, 12, 13] [(2800007, []), (6500012, []), (10600023, []), (11100025, [])] [(0, []), (1, [.b 5 4, .c 5 1, .t 0, .t 10]), (2, [.b 5 4, .c 5 1, .t 0, .t 10, .t 79, .t 80, .t 81]), (3, [.t 0, .t 2]), (4, [.t 0, .t 2, .t 129, .t 130, .t 131])] [(1, [.b 5 4, .c 5 1, .t 0, .t 10, .t 79, .t 80, .t 81]), (3, [.t 0, .t 2, .t 129, .t 130, .t 131])] [] 4 = f241 := by kernel_rfl
theorem f242_den : dn Tryz.f242 [3] [(1600005, [])] [] [] [] 2 = f242 := by kernel_rfl
theorem f243_den : dn Tryz.f243 [1] [] [] [] [] 1 = f243 := by kernel_rfl
theorem f249_den : dn Tryz.f249 [] [] [(0, [])] [] [] 4 = f249 := by kernel_rfl
theorem f252_den : dn Tryz.f252 [3, 5] [] [] [] [] 2 = f252 := by kernel_rfl
theorem f253_den : dn Tryz.f253 [5] [] [(0, [.t 3]), (1, [.t 3, .t 6, .t 7, .t 8])] [(0, [.t 3, .t 6, .t 7, .t 8])] [] 1 = f253 := by kernel_rfl
theorem f254_den : dn Tryz.f254 [1, 2] [] [] [] [] 1 = f254 := by kernel_rfl
theorem f255_den : dn Tryz.f255 [1, 5] [] [(0, [.t 3]), (1, [.b 1 3, .c 1 0, .c 1 2, .t 3, .t 34, .t 35, .t 36])] [(0, [.b 1 3, .c 1 0, .c 1 2, .t 3, .t 34, .t 35, .t 36])] [] 1 = f255 := by kernel_rfl
theorem f256_den : dn Tryz.f256 [8] [] [(0, []), (1, [.t 1, .t 2, .t 9, .t 10, .t 11])] [(0, [.t 1, .t 2, .t 9, .t 10, .t 11])] [] 3 = f256 := by kernel_rfl
theorem f257_den : dn Tryz.f257 [1, 2] [] [] [] [] 1 = f257 := by kernel_rfl
theorem f258_den : dn Tryz.f258 [] [] [] [] [] 1 = f258 := by kernel_rfl
theorem f259_den : dn Tryz.f259 [] [(1800006, [.t 18]), (1800007, [.t 18]), (1800008, [.t 18]), (1800009, [.t 18]), (1800010, [.t 18]), (1800011, [.t 18]), (1800012, [.t 18]), (1800013, [.t 18]), (1800014, [.t 18]), (1800015, [.t 18])] [(0, [])] [] [] 1 = f259 := by kernel_rfl
theorem f260_den : dn Tryz.f260 [2] [] [] [] [] 1 = f260 := by kernel_rfl
theorem f261_den : dn Tryz.f261 [2, 3] [] [(0, [.b 2 4, .b 3 4, .c 3 0, .c 3 1, .c 3 2, .c 3 3]), (1, [.b 2 4, .b 3 4, .c 3 0, .c 3 1, .c 3 2, .c 3 3, .t 6, .t 7, .t 8])] [(0, [.b 2 4, .b 3 4, .c 3 0, .c 3 1, .c 3 2, .c 3 3, .t 6, .t 7, .t 8])] [] 1 = f261 := by kernel_rfl
theorem f262_den : dn Tryz.f262 [5] [] [(0, []), (1, [.t 0, .t 3, .t 12, .t 13, .t 14]), (2, [.b 5 4, .c 5 0, .t 0, .t 3, .t 4, .t 12, .t 13, .t 14]), (3, [.b 5 4, .c 5 0, .c 5 1, .t 0, .t 3, .t 4, .t 12, .t 13, .t 14, .t 25, .t 26, .t 27])] [(0, [.t 0, .t 3, .t 12, .t 13, .t 14]), (2, [.b 5 4, .c 5 0, .c 5 1, .t 0, .t 3, .t 4, .t 12, .t 13, .t 14, .t 25, .t 26, .t 27])] [] 1 = f262 := by kernel_rfl
theorem f263_den : dn Tryz.f263 [2] [] [] [] [] 2 = f263 := by kernel_rfl
theorem f264_den : dn Tryz.f264 [5] [] [(0, [.t 3]), (1, [.t 3, .t 6, .t 7, .t 8])] [(0, [.t 3, .t 6, .t 7, .t 8])] [] 1 = f264 := by kernel_rfl
theorem f265_den : dn Tryz.f265 [] [] [(0, []), (1, [.t 0, .t 1, .t 5])] [(0, [.t 0, .t 1, .t 5])] [] 2 = f265 := by kernel_rfl
theorem f266_den : dn Tryz.f266 [2, 4, 5, 7] [(2000004, [.b 2 5, .b 4 5, .b 5 5, .c 2 4, .c 5 0, .c 5 1, .c 5 2, .c 5 3, .c 5 4, .t 1])] [(0, [.b 4 5, .b 5 5, .c 5 0, .c 5 1, .c 5 2, .c 5 3, .c 5 4]), (1, [.b 4 5, .b 5 5, .c 5 0, .c 5 1, .c 5 2, .c 5 3, .c 5 4, .t 1, .t 27, .t 28, .t 29])] [(0, [.b 4 5, .b 5 5, .c 5 0, .c 5 1, .c 5 2, .c 5 3, .c 5 4, .t 1, .t 27, .t 28, .t 29])] [] 2 = f266 := by kernel_rfl
theorem f267_den : dn Tryz.f267 [] [] [] [] [] 2 = f267 := by kernel_rfl
theorem f268_den : dn Tryz.f268 [] [(2100008, [.t 1, .t 5, .t 6, .t 8, .t 9, .t 10, .t 11]), (2400010, [.t 1, .t 5, .t 6, .t 8, .t 9, .t 10, .t 11]), (3500014, [.t 5])] [(0, [.t 1, .t 5, .t 6]), (1, [.t 1, .t 5, .t 6, .t 9, .t 10, .t 11])] [(0, [.t 1, .t 5, .t 6, .t 9, .t 10, .t 11])] [] 2 = f268 := by kernel_rfl
theorem f269_den : dn Tryz.f269 [] [] [] [] [] 1 = f269 := by kernel_rfl
theorem f270_den : dn Tryz.f270 [3, 5] [] [] [] [] 2 = f270 := by kernel_rfl
theorem f271_den : dn Tryz.f271 [4, 6, 11] [] [] [] [] 3 = f271 := by kernel_rfl
theorem f272_den : dn Tryz.f272 [3] [] [] [] [] 2 = f272 := by kernel_rfl
theorem f273_den : dn Tryz.f273 [] [] [] [] [] 0 = f273 := by kernel_rfl
theorem f274_den : dn Tryz.f274 [3, 4, 6, 7] [(2100008, [.b 4 9, .b 6 9, .b 7 5, .c 6 0, .c 6 2, .c 6 3, .c 6 4, .c 6 5, .c 6 6, .c 6 7, .c 6 8, .c 7 0, .c 7 1, .c 7 2, .c 7 3, .c 7 4, .t 0])] [(0, [.b 4 9, .b 6 9, .b 7 5, .c 6 0, .c 6 2, .c 6 3, .c 6 4, .c 6 5, .c 6 6, .c 6 7, .c 6 8, .c 7 0, .c 7 1, .c 7 2, .c 7 3, .c 7 4, .t 0])] [] [] 2 = f274 := by kernel_rfl
theorem f275_den : dn Tryz.f275 [] [(1900009, [.t 3, .t 11, .t 12, .t 13])] [(0, [.t 3]), (1, [.t 3, .t 11, .t 12, .t 13])] [(0, [.t 3, .t 11, .t 12, .t 13])] [] 1 = f275 := by kernel_rfl
theorem f276_den : dn Tryz.f276 [8, 13] [] [] [] [] 4 = f276 := by kernel_rfl
theorem f277_den : dn Tryz.f277 [3, 4, 7, 10] [(4800017, [.b 3 5, .b 4 8, .c 3 0, .c 3 1, .c 3 2, .c 3 3, .c 3 4, .t 0, .t 48]), (4800018, [.b 3 5, .b 4 8, .c 3 0, .c 3 1, .c 3 2, .c 3 3, .c 3 4, .t 0, .t 48])] [(0, [.b 3 5, .b 4 8, .c 3 0, .c 3 1, .c 3 2, .c 3 3, .c 3 4, .t 0]), (1, [.b 3 5, .b 4 8, .c 3 0, .c 3 1, .c 3 2, .c 3 3, .c 3 4, .t 0]), (2, [.b 3 5, .b 4 8, .c 3 0, .c 3 1, .c 3 2, .c 3 3, .c 3 4, .t 0]), (3, [.b 4 8])] [(0, [.b 3 5, .b 4 8, .c 3 0, .c 3 1, .c 3 2, .c 3 3, .c 3 4, .t 0])] [] 2 = f277 := by kernel_rfl
theorem f278_den : dn Tryz.f278 [] [] [(0, []), (1, [.t 1, .t 7, .t 8, .t 9])] [(0, [.t 1, .t 7, .t 8, .t 9])] [] 2 = f278 := by kernel_rfl
theorem f279_den : dn Tryz.f279 [1, 2] [] [] [] [] 1 = f279 := by kernel_rfl
theorem f283_den : dn Tryz.f283 [4, 7] [(8900030, [.t 0])] [(0, [.t 0]), (1, [.b 4 3, .c 4 0, .c 4 1, .c 4 2, .t 0, .t 2]), (2, [.b 4 3, .c 4 0, .c 4 1, .c 4 2, .t 0, .t 2])] [(1, [.b 4 3, .c 4 0, .c 4 1, .c 4 2, .t 0, .t 2])] [] 3 = f283 := by kernel_rfl
theorem f285_den : dn Tryz.f285 [] [] [] [] [] 1 = f285 := by kernel_rfl
theorem f286_den : dn Tryz.f286 [] [] [(0, []), (1, [.t 0, .t 3, .t 4])] [(0, [.t 0, .t 3, .t 4])] [] 1 = f286 := by kernel_rfl
theorem f287_den : dn Tryz.f287 [2, 3] [] [] [] [] 2 = f287 := by kernel_rfl
theorem f288_den : dn Tryz.f288 [4, 9] [] [(0, []), (1, [.t 0, .t 2, .t 28, .t 29, .t 30])] [(0, [.t 0, .t 2, .t 28, .t 29, .t 30])] [] 3 = f288 := by kernel_rfl
theorem f289_den : dn Tryz.f289 [4, 5, 7, 9] [] [] [] [] 3 = f289 := by kernel_rfl
theorem f290_den : dn Tryz.f290 [8] [(3300006, [.b 8 5, .c 8 0, .c 8 4, .t 0, .t 1, .t 2, .t 4, .t 12, .t 14, .t 15])] [(0, [.t 4, .t 16]), (1, [.b 8 5, .c 8 4, .t 0, .t 1, .t 2, .t 4, .t 12, .t 14, .t 15, .t 16, .t 17, .t 18]), (2, [.b 8 5, .c 8 4, .t 0, .t 1, .t 2, .t 4, .t 12, .t 14, .t 15, .t 16, .t 17, .t 18, .t 19]), (3, [.b 8 5, .c 8 4, .t 0, .t 1, .t 2, .t 4, .t 12, .t 14, .t 15, .t 16, .t 17, .t 18, .t 19, .t 102, .t 103]), (4, [.b 8 5, .c 8 4, .t 0, .t 1, .t 2, .t 4, .t 12, .t 14, .t 15, .t 16, .t 17, .t 18, .t 19]), (5, [.b 8 5, .c 8 4, .t 0, .t 1, .t 2, .t 4, .t 12, .t 14, .t 15, .t 16, .t 17, .t 18, .t 19, .t 22]), (6, [.b 8 5, .c 8 4, .t 0, .t 1, .t 2, .t 4, .t 12, .t 14, .t 15, .t 16, .t 17, .t 18, .t 19, .t 22]), (7, [.b 8 5, .c 8 4, .t 0, .t 1, .t 2, .t 4, .t 12, .t 14, .t 15, .t 16, .t 17, .t 18, .t 19, .t 22, .t 23, .t 24])] [(0, [.b 8 5, .c 8 4, .t 0, .t 1, .t 2, .t 4, .t 12, .t 14, .t 15, .t 16, .t 17, .t 18]), (2, [.b 8 5, .c 8 4, .t 0, .t 1, .t 2, .t 4, .t 12, .t 14, .t 15, .t 16, .t 17, .t 18, .t 19, .t 102, .t 103]), (4, [.b 8 5, .c 8 4, .t 0, .t 1, .t 2, .t 4, .t 12, .t 14, .t 15, .t 16, .t 17, .t 18, .t 19, .t 22]), (6, [.b 8 5, .c 8 4, .t 0, .t 1, .t 2, .t 4, .t 12, .t 14, .t 15, .t 16, .t 17, .t 18, .t 19, .t 22, .t 23, .t 24])] [(32, [0, 1, 2, 3, 4, 5, 6, 7, 8, 9, 10, 11, 12, 14, 15, 13, 16])] 5 = f290 := by kernel_rfl
theorem f291_den : dn Tryz.f291 [1, 4] [] [(0, [.b 1 5, .c 1 0, .c 1 1, .c 1 2, .c 1 3, .c 1 4]), (1, [.b 1 5, .c 1 0, .c 1 1, .c 1 2, .c 1 3, .c 1 4, .t 6, .t 7, .t 8])] [(0, [.b 1 5, .c 1 0, .c 1 1, .c 1 2, .c 1 3, .c 1 4, .t 6, .t 7, .t 8])] [] 1 = f291 := by kernel_rfl
theorem f292_den : dn Tryz.f292 [3, 6, 9, 11, 12, 17] [] [(0, [.b 6 5, .b 9 5, .c 9 0, .c 9 1, .c 9 2, .c 9 3, .c 9 4]), (1, [.b 3 5, .b 6 5, .b 9 5, .c 3 4, .c 9 0, .c 9 1, .c 9 2, .c 9 3, .c 9 4, .t 1, .t 2, .t 10]), (2, [.b 3 5, .b 6 5, .b 9 5, .c 3 4, .c 9 0, .c 9 1, .c 9 2, .c 9 3, .c 9 4, .t 1, .t 2, .t 10, .t 15]), (3, [.b 3 5, .b 6 5, .b 9 5, .b 11 5, .c 3 4, .c 9 0, .c 9 1, .c 9 2, .c 9 3, .c 9 4, .c 11 0, .c 11 1, .c 11 2, .c 11 3, .c 11 4, .t 1, .t 2, .t 10, .t 14, .t 15, .t 16])] [(0, [.b 3 5, .b 6 5, .b 9 5, .c 3 4, .c 9 0, .c 9 1, .c 9 2, .c 9 3, .c 9 4, .t 1, .t 2, .t 10]), (2, [.b 3 5, .b 6 5, .b 9 5, .b 11 5, .c 3 4, .c 9 0, .c 9 1, .c 9 2, .c 9 3, .c 9 4, .c 11 0, .c 11 1, .c 11 2, .c 11 3, .c 11 4, .t 1, .t 2, .t 10, .t 14, .t 15, .t 16])] [] 3 = f292 := by kernel_rfl
theorem f293_den : dn Tryz.f293 [3, 4, 5] [] [] [] [] 2 = f293 := by kernel_rfl
theorem f294_den : dn Tryz.f294 [] [(1600010, [.t 0, .t 3, .t 4, .t 5]), (2700013, [.t 3])] [(0, [.t 0, .t 3]), (1, [.t 0, .t 3, .t 4])] [(0, [.t 0, .t 3, .t 4])] [] 1 = f294 := by kernel_rfl
theorem f295_den : dn Tryz.f295 [3, 6] [(5500020, [.b 6 4, .c 6 0, .c 6 1, .c 6 2, .c 6 3, .t 0, .t 47, .t 48, .t 49])] [(0, [.b 3 4, .c 3 3, .t 0]), (1, [.t 0]), (2, [.t 0, .t 47, .t 48, .t 49])] [(1, [.t 0, .t 47, .t 48, .t 49])] [] 2 = f295 := by kernel_rfl
theorem f296_den : dn Tryz.f296 [1, 5] [] [(0, [.t 3]), (1, [.t 3, .t 10, .t 11, .t 12])] [(0, [.t 3, .t 10, .t 11, .t 12])] [] 1 = f296 := by kernel_rfl
theorem f297_den : dn Tryz.f297 [2, 4, 6, 8] [] [(0, [.b 2 4, .b 4 3, .c 2 3, .t 1]), (1, [.b 4 3, .b 6 3, .c 6 0, .c 6 1, .c 6 2, .t 1]), (2, [.b 2 4, .b 4 3, .b 6 3, .c 2 3, .c 6 0, .c 6 1, .c 6 2, .t 1, .t 7])] [(1, [.b 2 4, .b 4 3, .b 6 3, .c 2 3, .c 6 0, .c 6 1, .c 6 2, .t 1, .t 7])] [] 2 = f297 := by kernel_rfl
theorem f298_den : dn Tryz.f298 [3] [] [] [] [] 2 = f298 := by kernel_rfl
theorem f299_den : dn Tryz.f299 [] [] [] [] [] 1 = f299 := by kernel_rfl
theorem f300_den : dn Tryz.f300 [] [(1700007, [.t 17]), (1700008, [.t 17]), (1700009, [.t 17]), (1700010, [.t 17]), (1700011, [.t 17]), (1700012, [.t 17])] [(0, [])] [] [] 1 = f300 := by kernel_rfl
theorem f301_den : dn Tryz.f301 [6, 8] [] [(0, [.b 6 3, .t 0, .t 1, .t 2])] [] [] 3 = f301 := by kernel_rfl
theorem f311_den : dn Tryz.f311 [4] [] [(0, []), (1, [.t 8, .t 9, .t 10])] [(0, [.t 8, .t 9, .t 10])] [] 1 = f311 := by kernel_rfl
theorem f312_den : dn Tryz.f312 [1] [] [] [] [] 1 = f312 := by kernel_rfl
theorem f313_den : dn Tryz.f313 [1] [] [] [] [] 1 = f313 := by kernel_rfl
theorem f314_den : dn Tryz.f314 [3] [] [] [] [] 2 = f314 := by kernel_rfl
theorem f315_den : dn Tryz.f315 [1, 2] [] [] [] [] 1 = f315 := by kernel_rfl
theorem f316_den : dn Tryz.f316 [3, 6] [] [(0, [.b 3 5, .c 3 0, .c 3 1, .c 3 2, .c 3 3, .c 3 4, .t 0]), (1, [.b 3 5, .c 3 0, .c 3 1, .c 3 2, .c 3 3, .c 3 4, .t 0, .t 7, .t 8, .t 9])] [(0, [.b 3 5, .c 3 0, .c 3 1, .c 3 2, .c 3 3, .c 3 4, .t 0, .t 7, .t 8, .t 9])] [] 2 = f316 := by kernel_rfl
theorem f317_den : dn Tryz.f317 [1, 5] [] [(0, [.t 3]), (1, [.t 3, .t 7, .t 8, .t 9])] [(0, [.t 3, .t 7, .t 8, .t 9])] [] 1 = f317 := by kernel_rfl
theorem f318_den : dn Tryz.f318 [] [] [(0, []), (1, [.t 0, .t 1, .t 12, .t 13])] [(0, [.t 0, .t 1, .t 12, .t 13])] [] 2 = f318 := by kernel_rfl
theorem f319_den : dn Tryz.f319 [1] [(3400010, [.b 1 4, .c 1 3, .t 34])] [(0, [])] [] [] 1 = f319 := by kernel_rfl
theorem f320_den : dn Tryz.f320 [6] [] [(0, []), (1, [.t 1, .t 7, .t 8, .t 9])] [(0, [.t 1, .t 7, .t 8, .t 9])] [] 2 = f320 := by kernel_rfl
theorem f321_den : dn Tryz.f321 [] [] [(0, [])] [] [] 1 = f321 := by kernel_rfl
theorem f322_den : dn Tryz.f322 [4, 5, 6, 8, 10] [] [(0, [.b 6 5]), (1, [.b 4 3, .b 5 5, .b 6 5, .b 8 2, .c 4 2, .c 5 0, .c 5 1, .c 5 2, .c 5 3, .c 5 4, .c 8 0, .c 8 1, .t 28, .t 29, .t 30])] [(0, [.b 4 3, .b 5 5, .b 6 5, .b 8 2, .c 4 2, .c 5 0, .c 5 1, .c 5 2, .c 5 3, .c 5 4, .c 8 0, .c 8 1, .t 28, .t 29, .t 30])] [] 3 = f322 := by kernel_rfl
theorem f323_den : dn Tryz.f323 [2, 4] [] [] [] [] 2 = f323 := by kernel_rfl
theorem f324_den : dn Tryz.f324 [4] [] [(0, []), (1, [.t 5, .t 6, .t 7])] [(0, [.t 5, .t 6, .t 7])] [] 1 = f324 := by kernel_rfl
theorem f325_den : dn Tryz.f325 [3] [] [] [] [] 2 = f325 := by kernel_rfl
theorem f326_den : dn Tryz.f326 [] [] [(0, []), (1, [.t 0, .t 5, .t 6, .t 7])] [(0, [.t 0, .t 5, .t 6, .t 7])] [] 1 = f326 := by kernel_rfl
theorem f327_den : dn Tryz.f327 [15] [] [(0, [.t 3, .t 11, .t 13]), (1, [.t 0, .t 3, .t 11, .t 13, .t 35, .t 36, .t 37])] [(0, [.t 0, .t 3, .t 11, .t 13, .t 35, .t 36, .t 37])] [] 4 = f327 := by kernel_rfl
theorem f328_den : dn Tryz.f328 [4] [] [] [] [] 2 = f328 := by kernel_rfl
theorem f329_den : dn Tryz.f329 [3, 4, 6] [] [(0, [.b 4 4, .b 6 4, .c 6 0, .c 6 1, .c 6 2, .c 6 3])] [] [] 2 = f329 := by kernel_rfl
theorem f330_den : dn Tryz.f330 [1, 2, 3, 5] [] [(0, [.b 2 4, .b 3 4, .c 3 0, .c 3 1, .c 3 2, .c 3 3]), (1, [.b 2 4, .b 3 4, .c 3 0, .c 3 1, .c 3 2, .c 3 3, .t 14, .t 15, .t 16])] [(0, [.b 2 4, .b 3 4, .c 3 0, .c 3 1, .c 3 2, .c 3 3, .t 14, .t 15, .t 16])] [] 1 = f330 := by kernel_rfl
theorem f331_den : dn Tryz.f331 [4, 6, 9, 18, 20, 21] [(27600069, [.b 6 8, .t 276])] [(0, [.b 6 8])] [] [] 3 = f331 := by kernel_rfl
theorem f332_den : dn Tryz.f332 [8, 9] [] [(0, [.t 6]), (1, [.t 0, .t 6, .t 11, .t 12, .t 13])] [(0, [.t 0, .t 6, .t 11, .t 12, .t 13])] [] 2 = f332 := by kernel_rfl
theorem f333_den : dn Tryz.f333 [3, 8] [] [(0, [.t 6]), (1, [.t 0, .t 6, .t 12, .t 13, .t 14])] [(0, [.t 0, .t 6, .t 12, .t 13, .t 14])] [] 2 = f333 := by kernel_rfl
theorem f334_den : dn Tryz.f334 [4, 9] [(3400008, [.t 0, .t 2, .t 7, .t 16, .t 17, .t 18])] [(0, [.t 7]), (1, [.t 0, .t 2, .t 7, .t 16, .t 17, .t 18])] [(0, [.t 0, .t 2, .t 7, .t 16, .t 17, .t 18])] [] 3 = f334 := by kernel_rfl
theorem f335_den : dn Tryz.f335 [6, 9, 10] [(5100016, [.b 6 3, .b 9 3, .c 9 0, .c 9 1, .t 1, .t 2, .t 8, .t 51]), (10500032, [.b 6 3, .t 11]), (11200034, [.b 6 3, .t 11]), (11900036, [.b 6 3, .t 11])] [(0, [.b 6 3, .b 9 3, .c 9 0, .c 9 1, .t 1, .t 8]), (1, [.b 6 3, .t 11])] [] [] 3 = f335 := by kernel_rfl
theorem f342_den : dn Tryz.f342 [1] [] [] [] [] 1 = f342 := by kernel_rfl
theorem f343_den : dn Tryz.f343 [1] [] [] [] [] 1 = f343 := by kernel_rfl
theorem f344_den : dn Tryz.f344 [3, 8] [] [(0, []), (1, [.t 1, .t 2, .t 51, .t 52, .t 53])] [(0, [.t 1, .t 2, .t 51, .t 52, .t 53])] [] 3 = f344 := by kernel_rfl
theorem f345_den : dn Tryz.f345 [5, 11, 14] [(7700027, [.b 14 5, .c 14 0, .c 14 1, .c 14 2, .c 14 3, .c 14 4, .t 0, .t 2, .t 3, .t 12, .t 15, .t 63, .t 64, .t 65])] [(0, [.b 5 5, .c 5 4, .t 0, .t 2, .t 3]), (1, [.b 5 5, .c 5 0, .c 5 1, .c 5 2, .c 5 3, .c 5 4, .t 2, .t 3]), (2, [.b 5 5, .c 5 0, .c 5 1, .c 5 2, .c 5 3, .c 5 4, .t 2, .t 3, .t 34, .t 35, .t 36]), (3, [.t 3]), (4, [.t 0, .t 2, .t 3, .t 12, .t 63, .t 64, .t 65])] [(1, [.b 5 5, .c 5 0, .c 5 1, .c 5 2, .c 5 3, .c 5 4, .t 2, .t 3, .t 34, .t 35, .t 36]), (3, [.t 0, .t 2, .t 3, .t 12, .t 63, .t 64, .t 65])] [] 4 = f345 := by kernel_rfl
theorem f346_den : dn Tryz.f346 [1, 4] [] [(0, []), (1, [.b 1 5, .c 1 4, .t 8, .t 9, .t 10])] [(0, [.b 1 5, .c 1 4, .t 8, .t 9, .t 10])] [] 1 = f346 := by kernel_rfl
theorem f347_den : dn Tryz.f347 [4, 9] [(4800011, [.b 4 5, .b 9 5, .c 4 4, .c 9 0, .c 9 1, .c 9 2, .c 9 3, .c 9 4, .t 0, .t 2, .t 10, .t 24, .t 25, .t 26])] [(0, []), (1, [.b 4 5, .c 4 4, .t 0, .t 2, .t 24, .t 25, .t 26])] [(0, [.b 4 5, .c 4 4, .t 0, .t 2, .t 24, .t 25, .t 26])] [] 3 = f347 := by kernel_rfl
theorem f348_den : dn Tryz.f348 [2, 8] [] [(0, [.b 2 5, .c 2 4, .t 1]), (1, [.b 2 5, .c 2 4, .t 1, .t 10, .t 11, .t 12]), (2, []), (3, [.t 1, .t 21, .t 22, .t 23])] [(0, [.b 2 5, .c 2 4, .t 1, .t 10, .t 11, .t 12]), (2, [.t 1, .t 21, .t 22, .t 23])] [] 2 = f348 := by kernel_rfl
theorem f349_den : dn Tryz.f349 [4, 5, 6] [] [(0, [.b 4 2, .b 5 5, .b 6 5, .c 4 0, .c 4 1, .c 5 4, .c 6 4, .t 3]), (1, [.b 4 2, .b 6 5, .c 4 0, .c 4 1, .c 6 4, .t 3, .t 11, .t 12, .t 13, .t 15]), (2, [.b 4 2, .b 5 5, .b 6 5, .c 4 0, .c 4 1, .c 5 4, .c 6 4, .t 3, .t 10, .t 11, .t 12, .t 13, .t 15, .t 17]), (3, [.b 4 2, .b 5 5, .b 6 5, .c 4 0, .c 4 1, .c 5 4, .c 6 4, .t 3, .t 10, .t 11, .t 12, .t 13, .t 15, .t 17]), (4, [.b 4 2, .b 5 5, .b 6 5, .c 4 0, .c 4 1, .c 5 4, .c 6 4, .t 3, .t 10, .t 11, .t 12, .t 13, .t 15, .t 17, .t 18, .t 181, .t 182])] [(1, [.b 4 2, .b 5 5, .b 6 5, .c 4 0, .c 4 1, .c 5 4, .c 6 4, .t 3, .t 10, .t 11, .t 12, .t 13, .t 15, .t 17]), (3, [.b 4 2, .b 5 5, .b 6 5, .c 4 0, .c 4 1, .c 5 4, .c 6 4, .t 3, .t 10, .t 11, .t 12, .t 13, .t 15, .t 17, .t 18, .t 181, .t 182])] [(34, [0, 1, 2, 3, 4, 5, 6, 7, 8, 9, 10, 11, 12, 14, 15, 13, 16])] 4 = f349 := by kernel_rfl
theorem f350_den : dn Tryz.f350 [2, 4, 7] [] [] [] [] 2 = f350 := by kernel_rfl
theorem f351_den : dn Tryz.f351 [] [] [] [] [] 2 = f351 := by kernel_rfl
theorem f352_den : dn Tryz.f352 [] [] [] [] [] 2 = f352 := by kernel_rfl
theorem f353_den : dn Tryz.f353 [7] [] [(0, [.t 5]), (1, [.t 1, .t 5, .t 8, .t 9, .t 10])] [(0, [.t 1, .t 5, .t 8, .t 9, .t 10])] [] 2 = f353 := by kernel_rfl
theorem f354_den : dn Tryz.f354 [6, 12, 13, 16] [] [(0, [.b 6 8, .t 0, .t 1, .t 2, .t 8, .t 10]), (1, [.b 6 8, .t 0, .t 1, .t 2, .t 8, .t 10, .t 27, .t 28, .t 29]), (2, [.b 6 8, .t 0, .t 2, .t 8]), (3, [.b 6 8, .t 0, .t 2, .t 8, .t 10, .t 72, .t 73, .t 74])] [(0, [.b 6 8, .t 0, .t 1, .t 2, .t 8, .t 10, .t 27, .t 28, .t 29]), (2, [.b 6 8, .t 0, .t 2, .t 8, .t 10, .t 72, .t 73, .t 74])] [] 3 = f354 := by kernel_rfl
theorem f355_den : dn Tryz.f355 [2, 6] [(1500003, [.b 2 5, .c 2 4, .t 1])] [(0, [.t 1]), (1, [.t 1, .t 22, .t 23, .t 24])] [(0, [.t 1, .t 22, .t 23, .t 24])] [] 2 = f355 := by kernel_rfl
theorem f356_den : dn Tryz.f356 [2] [] [] [] [] 1 = f356 := by kernel_rfl
theorem f364_den : dn Tryz.f364 [3, 6] [] [(0, []), (1, [.b 3 5, .c 3 0, .c 3 1, .c 3 2, .c 3 3, .c 3 4, .t 7, .t 8, .t 9])] [(0, [.b 3 5, .c 3 0, .c 3 1, .c 3 2, .c 3 3, .c 3 4, .t 7, .t 8, .t 9])] [] 2 = f364 := by kernel_rfl
theorem f365_den : dn Tryz.f365 [2, 3] [] [] [] [] 2 = f365 := by kernel_rfl
theorem f366_den : dn Tryz.f366 [4] [] [(0, []), (1, [.t 5, .t 6, .t 7])] [(0, [.t 5, .t 6, .t 7])] [] 1 = f366 := by kernel_rfl
theorem f367_den : dn Tryz.f367 [3, 6] [] [(0, []), (1, [.b 3 5, .c 3 0, .c 3 1, .c 3 2, .c 3 3, .c 3 4, .t 14, .t 15, .t 16])] [(0, [.b 3 5, .c 3 0, .c 3 1, .c 3 2, .c 3 3, .c 3 4, .t 14, .t 15, .t 16])] [] 2 = f367 := by kernel_rfl
theorem f368_den : dn Tryz.f368 [3, 8] [(1300005, [.b 3 5, .c 3 4, .t 0, .t 5])] [(0, [.t 5]), (1, [.t 0, .t 5, .t 20, .t 21, .t 22])] [(0, [.t 0, .t 5, .t 20, .t 21, .t 22])] [] 2 = f368 := by kernel_rfl
theorem f369_den : dn Tryz.f369 [4, 5, 7, 9] [] [] [] [] 3 = f369 := by kernel_rfl
theorem f370_den : dn Tryz.f370 [4] [] [(0, [.t 3]), (1, [.b 4 2, .c 4 0, .c 4 1, .t 1, .t 2, .t 3, .t 14, .t 15])] [(0, [.b 4 2, .c 4 0, .c 4 1, .t 1, .t 2, .t 3, .t 14, .t 15])] [] 4 = f370 := by kernel_rfl
theorem f371_den : dn Tryz.f371 [4, 6, 10, 12, 13, 23] [] [(0, [.b 6 5, .b 10 5, .c 10 0, .c 10 1, .c 10 2, .c 10 3, .c 10 4]), (1, [.b 4 5, .b 6 5, .b 10 5, .c 4 4, .c 10 0, .c 10 1, .c 10 2, .c 10 3, .c 10 4, .t 0, .t 2, .t 11]), (2, [.b 4 5, .b 6 5, .b 10 5, .b 12 5, .c 4 4, .c 10 0, .c 10 1, .c 10 2, .c 10 3, .c 10 4, .c 12 0, .c 12 1, .c 12 2, .c 12 3, .c 12 4, .t 0, .t 2, .t 11, .t 15, .t 16]), (3, [.b 4 5, .b 6 5, .b 10 5, .b 12 5, .c 4 4, .c 10 0, .c 10 1, .c 10 2, .c 10 3, .c 10 4, .c 12 0, .c 12 1, .c 12 2, .c 12 3, .c 12 4, .t 0, .t 2, .t 11, .t 15, .t 16, .t 148, .t 149, .t 150]), (4, [.b 4 5, .b 6 5, .b 10 5, .c 4 4, .c 10 0, .c 10 1, .c 10 2, .c 10 3, .c 10 4, .t 0, .t 2, .t 11]), (5, [.b 4 5, .b 6 5, .b 10 5, .b 12 5, .c 4 4, .c 10 0, .c 10 1, .c 10 2, .c 10 3, .c 10 4, .c 12 0, .c 12 1, .c 12 2, .c 12 3, .c 12 4, .t 0, .t 2, .t 11, .t 15, .t 16, .t 19]), (6, [.b 4 5, .b 6 5, .b 10 5, .b 12 5, .c 4 4, .c 10 0, .c 10 1, .c 10 2, .c 10 3, .c 10 4, .c 12 0, .c 12 1, .c 12 2, .c 12 3, .c 12 4, .t 0, .t 2, .t 11, .t 15, .t 16, .t 19, .t 20]), (7, [.b 4 5, .b 6 5, .b 10 5, .b 12 5, .c 4 4, .c 10 0, .c 10 1, .c 10 2, .c 10 3, .c 10 4, .c 12 0, .c 12 1, .c 12 2, .c 12 3, .c 12 4, .t 0, .t 2, .t 11, .t 15, .t 16, .t 19, .t 20, .t 171, .t 172, .t 173])] [(0, [.b 4 5, .b 6 5, .b 10 5, .c 4 4, .c 10 0, .c 10 1, .c 10 2, .c 10 3, .c 10 4, .t 0, .t 2, .t 11]), (2, [.b 4 5, .b 6 5, .b 10 5, .b 12 5, .c 4 4, .c 10 0, .c 10 1, .c 10 2, .c 10 3, .c 10 4, .c 12 0, .c 12 1, .c 12 2, .c 12 3, .c 12 4, .t 0, .t 2, .t 11, .t 15, .t 16, .t 148, .t 149, .t 150]), (4, [.b 4 5, .b 6 5, .b 10 5, .b 12 5, .c 4 4, .c 10 0, .c 10 1, .c 10 2, .c 10 3, .c 10 4, .c 12 0, .c 12 1, .c 12 2, .c 12 3, .c 12 4, .t 0, .t 2, .t 11, .t 15, .t 16, .t 19]), (6, [.b 4 5, .b 6 5, .b 10 5, .b 12 5, .c 4 4, .c 10 0, .c 10 1, .c 10 2, .c 10 3, .c 10 4, .c 12 0, .c 12 1, .c 12 2, .c 12 3, .c 12 4, .t 0, .t 2, .t 11, .t 15, .t 16, .t 19, .t 20, .t 171, .t 172, .t 173])] [] 3 = f371 := by kernel_rfl
theorem f372_den : dn Tryz.f372 [] [(1600007, [.t 1, .t 5, .t 8, .t 9, .t 10])] [(0, [.t 5]), (1, [.t 1, .t 5, .t 8, .t 9, .t 10])] [(0, [.t 1, .t 5, .t 8, .t 9, .t 10])] [] 2 = f372 := by kernel_rfl
theorem f376_den : dn Tryz.f376 [3, 9] [(2800004, [.b 3 5, .c 3 4, .t 1, .t 2])] [(0, [.t 2]), (1, [.t 1, .t 2, .t 34, .t 35, .t 36])] [(0, [.t 1, .t 2, .t 34, .t 35, .t 36])] [] 3 = f376 := by kernel_rfl
end Go.X1
