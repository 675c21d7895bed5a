/-
  Evaluations.
-/
import Derived.Test.YtbdmleibanpfnaaGreatDoorRW
import Derived.KernelRfl
set_option linter.all false
set_option linter.all false
set_option maxRecDepth 100000
namespace Go.X1
theorem ev0_5:chkB1 pk0 rk0 (nat_lit 1) (nat_lit 5) (g0 (nat_lit 45))=true:=by kernel_rfl
theorem ev1_17:chkB1 pk1 rk1 (nat_lit 1) (nat_lit 17) (g0 (nat_lit 45))=true:=by kernel_rfl
theorem ev0_30:chkB1 pk0 rk0 (nat_lit 1) (nat_lit 30) (g0 (nat_lit 45))=true:=by kernel_rfl
theorem ev1_42:chkB1 pk1 rk1 (nat_lit 1) (nat_lit 42) (g0 (nat_lit 45))=true:=by kernel_rfl
theorem ev0_55:chkB1 pk0 rk0 (nat_lit 1) (nat_lit 55) (g0 (nat_lit 45))=true:=by kernel_rfl
theorem ev1_67:chkB1 pk1 rk1 (nat_lit 1) (nat_lit 67) (g0 (nat_lit 45))=true:=by kernel_rfl
theorem ev0_80:chkB1 pk0 rk0 (nat_lit 1) (nat_lit 80) (g0 (nat_lit 45))=true:=by kernel_rfl
theorem ev1_92:chkB1 pk1 rk1 (nat_lit 1) (nat_lit 92) (g0 (nat_lit 45))=true:=by kernel_rfl
end Go.X1
