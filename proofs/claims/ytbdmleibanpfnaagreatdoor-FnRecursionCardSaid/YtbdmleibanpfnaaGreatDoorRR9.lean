/-
  Evaluations.
-/
import Derived.Test.YtbdmleibanpfnaaGreatDoorRW
import Derived.KernelRfl
set_option linter.all false
set_option linter.all false
set_option maxRecDepth 100000
namespace Go.X1
theorem ev1_4:chkB1 pk1 rk1 (nat_lit 1) (nat_lit 4) (g0 (nat_lit 45))=true:=by kernel_rfl
theorem ev0_17:chkB1 pk0 rk0 (nat_lit 1) (nat_lit 17) (g0 (nat_lit 45))=true:=by kernel_rfl
theorem ev1_29:chkB1 pk1 rk1 (nat_lit 1) (nat_lit 29) (g0 (nat_lit 45))=true:=by kernel_rfl
theorem ev0_42:chkB1 pk0 rk0 (nat_lit 1) (nat_lit 42) (g0 (nat_lit 45))=true:=by kernel_rfl
theorem ev1_54:chkB1 pk1 rk1 (nat_lit 1) (nat_lit 54) (g0 (nat_lit 45))=true:=by kernel_rfl
theorem ev0_67:chkB1 pk0 rk0 (nat_lit 1) (nat_lit 67) (g0 (nat_lit 45))=true:=by kernel_rfl
theorem ev1_79:chkB1 pk1 rk1 (nat_lit 1) (nat_lit 79) (g0 (nat_lit 45))=true:=by kernel_rfl
theorem ev0_92:chkB1 pk0 rk0 (nat_lit 1) (nat_lit 92) (g0 (nat_lit 45))=true:=by kernel_rfl
end Go.X1
