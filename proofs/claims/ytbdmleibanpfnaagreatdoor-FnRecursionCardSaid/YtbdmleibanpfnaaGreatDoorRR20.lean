/-
  Evaluations.
-/
import Derived.Test.YtbdmleibanpfnaaGreatDoorRW
import Derived.KernelRfl
set_option linter.all false
set_option linter.all false
set_option maxRecDepth 100000
namespace Go.X1
theorem ev0_10:chkB1 pk0 rk0 (nat_lit 1) (nat_lit 10) (g0 (nat_lit 45))=true:=by kernel_rfl
theorem ev1_22:chkB1 pk1 rk1 (nat_lit 1) (nat_lit 22) (g0 (nat_lit 45))=true:=by kernel_rfl
theorem ev0_35:chkB1 pk0 rk0 (nat_lit 1) (nat_lit 35) (g0 (nat_lit 45))=true:=by kernel_rfl
theorem ev1_47:chkB1 pk1 rk1 (nat_lit 1) (nat_lit 47) (g0 (nat_lit 45))=true:=by kernel_rfl
theorem ev0_60:chkB1 pk0 rk0 (nat_lit 1) (nat_lit 60) (g0 (nat_lit 45))=true:=by kernel_rfl
theorem ev1_72:chkB1 pk1 rk1 (nat_lit 1) (nat_lit 72) (g0 (nat_lit 45))=true:=by kernel_rfl
theorem ev0_85:chkB1 pk0 rk0 (nat_lit 1) (nat_lit 85) (g0 (nat_lit 45))=true:=by kernel_rfl
theorem ev1_97:chkB1 pk1 rk1 (nat_lit 1) (nat_lit 97) (g0 (nat_lit 45))=true:=by kernel_rfl
end Go.X1
