/-
  Evaluations.
-/
import Derived.Test.YtbdmleibanpfnaaGreatDoorRW
import Derived.KernelRfl
set_option linter.all false
set_option linter.all false
set_option maxRecDepth 100000
namespace Go.X1
theorem ev0_8:chkB1 pk0 rk0 (nat_lit 1) (nat_lit 8) (g0 (nat_lit 45))=true:=by kernel_rfl
theorem ev1_20:chkB1 pk1 rk1 (nat_lit 1) (nat_lit 20) (g0 (nat_lit 45))=true:=by kernel_rfl
theorem ev0_33:chkB1 pk0 rk0 (nat_lit 1) (nat_lit 33) (g0 (nat_lit 45))=true:=by kernel_rfl
theorem ev1_45:chkB1 pk1 rk1 (nat_lit 1) (nat_lit 45) (g0 (nat_lit 45))=true:=by kernel_rfl
theorem ev0_58:chkB1 pk0 rk0 (nat_lit 1) (nat_lit 58) (g0 (nat_lit 45))=true:=by kernel_rfl
theorem ev1_70:chkB1 pk1 rk1 (nat_lit 1) (nat_lit 70) (g0 (nat_lit 45))=true:=by kernel_rfl
theorem ev0_83:chkB1 pk0 rk0 (nat_lit 1) (nat_lit 83) (g0 (nat_lit 45))=true:=by kernel_rfl
theorem ev1_95:chkB1 pk1 rk1 (nat_lit 1) (nat_lit 95) (g0 (nat_lit 45))=true:=by kernel_rfl
end Go.X1
