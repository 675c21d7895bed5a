/-
  Evaluations.
-/
import Derived.Test.YtbdmleibanpfnaaGreatDoorRW
import Derived.KernelRfl
set_option linter.all false
set_option linter.all false
set_option maxRecDepth 100000
namespace Go.X1
theorem ev1_0:chkB1 pk1 rk1 (nat_lit 1) (nat_lit 0) (g0 (nat_lit 45))=true:=by kernel_rfl
theorem ev0_13:chkB1 pk0 rk0 (nat_lit 1) (nat_lit 13) (g0 (nat_lit 45))=true:=by kernel_rfl
theorem ev1_25:chkB1 pk1 rk1 (nat_lit 1) (nat_lit 25) (g0 (nat_lit 45))=true:=by kernel_rfl
theorem ev0_38:chkB1 pk0 rk0 (nat_lit 1) (nat_lit 38) (g0 (nat_lit 45))=true:=by kernel_rfl
theorem ev1_50:chkB1 pk1 rk1 (nat_lit 1) (nat_lit 50) (g0 (nat_lit 45))=true:=by kernel_rfl
theorem ev0_63:chkB1 pk0 rk0 (nat_lit 1) (nat_lit 63) (g0 (nat_lit 45))=true:=by kernel_rfl
theorem ev1_75:chkB1 pk1 rk1 (nat_lit 1) (nat_lit 75) (g0 (nat_lit 45))=true:=by kernel_rfl
theorem ev0_88:chkB1 pk0 rk0 (nat_lit 1) (nat_lit 88) (g0 (nat_lit 45))=true:=by kernel_rfl
end Go.X1
