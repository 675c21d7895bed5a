/-
  Evaluations.
-/
import Derived.Test.YtbdmleibanpfnaaGreatDoorRW
import Derived.KernelRfl
set_option linter.all false
set_option linter.all false
set_option maxRecDepth 100000
namespace Go.X1
theorem ev1_3:chkB1 pk1 rk1 (nat_lit 1) (nat_lit 3) (g0 (nat_lit 45))=true:=by kernel_rfl
theorem ev0_16:chkB1 pk0 rk0 (nat_lit 1) (nat_lit 16) (g0 (nat_lit 45))=true:=by kernel_rfl
theorem ev1_28:chkB1 pk1 rk1 (nat_lit 1) (nat_lit 28) (g0 (nat_lit 45))=true:=by kernel_rfl
theorem ev0_41:chkB1 pk0 rk0 (nat_lit 1) (nat_lit 41) (g0 (nat_lit 45))=true:=by kernel_rfl
theorem ev1_53:chkB1 pk1 rk1 (nat_lit 1) (nat_lit 53) (g0 (nat_lit 45))=true:=by kernel_rfl
theorem ev0_66:chkB1 pk0 rk0 (nat_lit 1) (nat_lit 66) (g0 (nat_lit 45))=true:=by kernel_rfl
theorem ev1_78:chkB1 pk1 rk1 (nat_lit 1) (nat_lit 78) (g0 (nat_lit 45))=true:=by kernel_rfl
theorem ev0_91:chkB1 pk0 rk0 (nat_lit 1) (nat_lit 91) (g0 (nat_lit 45))=true:=by kernel_rfl
end Go.X1
