/-
  Evaluations.
-/
import Derived.Test.YtbdmleibanpfnaaGreatDoorRW
import Derived.KernelRfl
set_option linter.all false
set_option linter.all false
set_option maxRecDepth 100000
namespace Go.X1
theorem ev0_0:chkB1 pk0 rk0 (nat_lit 1) (nat_lit 0) (g0 (nat_lit 45))=true:=by kernel_rfl
theorem ev1_12:chkB1 pk1 rk1 (nat_lit 1) (nat_lit 12) (g0 (nat_lit 45))=true:=by kernel_rfl
theorem ev0_25:chkB1 pk0 rk0 (nat_lit 1) (nat_lit 25) (g0 (nat_lit 45))=true:=by kernel_rfl
theorem ev1_37:chkB1 pk1 rk1 (nat_lit 1) (nat_lit 37) (g0 (nat_lit 45))=true:=by kernel_rfl
theorem ev0_50:chkB1 pk0 rk0 (nat_lit 1) (nat_lit 50) (g0 (nat_lit 45))=true:=by kernel_rfl
theorem ev1_62:chkB1 pk1 rk1 (nat_lit 1) (nat_lit 62) (g0 (nat_lit 45))=true:=by kernel_rfl
theorem ev0_75:chkB1 pk0 rk0 (nat_lit 1) (nat_lit 75) (g0 (nat_lit 45))=true:=by kernel_rfl
theorem ev1_87:chkB1 pk1 rk1 (nat_lit 1) (nat_lit 87) (g0 (nat_lit 45))=true:=by kernel_rfl
end Go.X1
