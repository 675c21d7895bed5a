/-
  Evaluations.
-/
import Derived.Test.YtbdmleibanpfnaaGreatDoorRW
import Derived.KernelRfl
set_option linter.all false
set_option linter.all false
set_option maxRecDepth 100000
namespace Go.X1
theorem ev1_7:chkB1 pk1 rk1 (nat_lit 1) (nat_lit 7) (g0 (nat_lit 45))=true:=by kernel_rfl
theorem ev0_20:chkB1 pk0 rk0 (nat_lit 1) (nat_lit 20) (g0 (nat_lit 45))=true:=by kernel_rfl
theorem ev1_32:chkB1 pk1 rk1 (nat_lit 1) (nat_lit 32) (g0 (nat_lit 45))=true:=by kernel_rfl
theorem ev0_45:chkB1 pk0 rk0 (nat_lit 1) (nat_lit 45) (g0 (nat_lit 45))=true:=by kernel_rfl
theorem ev1_57:chkB1 pk1 rk1 (nat_lit 1) (nat_lit 57) (g0 (nat_lit 45))=true:=by kernel_rfl
theorem ev0_70:chkB1 pk0 rk0 (nat_lit 1) (nat_lit 70) (g0 (nat_lit 45))=true:=by kernel_rfl
theorem ev1_82:chkB1 pk1 rk1 (nat_lit 1) (nat_lit 82) (g0 (nat_lit 45))=true:=by kernel_rfl
theorem ev0_95:chkB1 pk0 rk0 (nat_lit 1) (nat_lit 95) (g0 (nat_lit 45))=true:=by kernel_rfl
end Go.X1
