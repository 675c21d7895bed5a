/-
  Evaluations.
-/
import Derived.Test.YtbdmleibanpfnaaGreatDoorRW
import Derived.KernelRfl
set_option linter.all false
set_option linter.all false
set_option maxRecDepth 100000
namespace Go.X1
theorem ev1_9:chkB1 pk1 rk1 (nat_lit 1) (nat_lit 9) (g0 (nat_lit 45))=true:=by kernel_rfl
theorem ev0_22:chkB1 pk0 rk0 (nat_lit 1) (nat_lit 22) (g0 (nat_lit 45))=true:=by kernel_rfl
theorem ev1_34:chkB1 pk1 rk1 (nat_lit 1) (nat_lit 34) (g0 (nat_lit 45))=true:=by kernel_rfl
theorem ev0_47:chkB1 pk0 rk0 (nat_lit 1) (nat_lit 47) (g0 (nat_lit 45))=true:=by kernel_rfl
theorem ev1_59:chkB1 pk1 rk1 (nat_lit 1) (nat_lit 59) (g0 (nat_lit 45))=true:=by kernel_rfl
theorem ev0_72:chkB1 pk0 rk0 (nat_lit 1) (nat_lit 72) (g0 (nat_lit 45))=true:=by kernel_rfl
theorem ev1_84:chkB1 pk1 rk1 (nat_lit 1) (nat_lit 84) (g0 (nat_lit 45))=true:=by kernel_rfl
theorem ev0_97:chkB1 pk0 rk0 (nat_lit 1) (nat_lit 97) (g0 (nat_lit 45))=true:=by kernel_rfl
end Go.X1
