/-
  Evaluations.
-/
import Derived.Test.YtbdmleibanpfnaaGreatDoorRW
import Derived.KernelRfl
set_option linter.all false
set_option linter.all false
set_option maxRecDepth 100000
namespace Go.X1
theorem ev0_9:chkB1 pk0 rk0 (nat_lit 1) (nat_lit 9) (g0 (nat_lit 45))=true:=by kernel_rfl
theorem ev1_21:chkB1 pk1 rk1 (nat_lit 1) (nat_lit 21) (g0 (nat_lit 45))=true:=by kernel_rfl
theorem ev0_34:chkB1 pk0 rk0 (nat_lit 1) (nat_lit 34) (g0 (nat_lit 45))=true:=by kernel_rfl
theorem ev1_46:chkB1 pk1 rk1 (nat_lit 1) (nat_lit 46) (g0 (nat_lit 45))=true:=by kernel_rfl
theorem ev0_59:chkB1 pk0 rk0 (nat_lit 1) (nat_lit 59) (g0 (nat_lit 45))=true:=by kernel_rfl
theorem ev1_71:chkB1 pk1 rk1 (nat_lit 1) (nat_lit 71) (g0 (nat_lit 45))=true:=by kernel_rfl
theorem ev0_84:chkB1 pk0 rk0 (nat_lit 1) (nat_lit 84) (g0 (nat_lit 45))=true:=by kernel_rfl
theorem ev1_96:chkB1 pk1 rk1 (nat_lit 1) (nat_lit 96) (g0 (nat_lit 45))=true:=by kernel_rfl
end Go.X1
