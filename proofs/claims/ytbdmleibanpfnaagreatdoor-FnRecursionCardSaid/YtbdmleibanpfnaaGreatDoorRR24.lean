/-
  Evaluations.
-/
import Derived.Test.YtbdmleibanpfnaaGreatDoorRW
import Derived.KernelRfl
set_option linter.all false
set_option linter.all false
set_option maxRecDepth 100000
namespace Go.X1
theorem ev0_12:chkB1 pk0 rk0 (nat_lit 1) (nat_lit 12) (g0 (nat_lit 45))=true:=by kernel_rfl
theorem ev1_24:chkB1 pk1 rk1 (nat_lit 1) (nat_lit 24) (g0 (nat_lit 45))=true:=by kernel_rfl
theorem ev0_37:chkB1 pk0 rk0 (nat_lit 1) (nat_lit 37) (g0 (nat_lit 45))=true:=by kernel_rfl
theorem ev1_49:chkB1 pk1 rk1 (nat_lit 1) (nat_lit 49) (g0 (nat_lit 45))=true:=by kernel_rfl
theorem ev0_62:chkB1 pk0 rk0 (nat_lit 1) (nat_lit 62) (g0 (nat_lit 45))=true:=by kernel_rfl
theorem ev1_74:chkB1 pk1 rk1 (nat_lit 1) (nat_lit 74) (g0 (nat_lit 45))=true:=by kernel_rfl
theorem ev0_87:chkB1 pk0 rk0 (nat_lit 1) (nat_lit 87) (g0 (nat_lit 45))=true:=by kernel_rfl
theorem ev1_99:chkB1 pk1 rk1 (nat_lit 1) (nat_lit 99) (g0 (nat_lit 45))=true:=by kernel_rfl
end Go.X1
