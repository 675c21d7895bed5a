/-
  Evaluations.
-/
import Derived.Test.YtbdmleibanpfnaaGreatDoorRW
import Derived.KernelRfl
set_option linter.all false
set_option linter.all false
set_option maxRecDepth 100000
namespace Go.X1
theorem ev0_4:chkB1 pk0 rk0 (nat_lit 1) (nat_lit 4) (g0 (nat_lit 45))=true:=by kernel_rfl
theorem ev1_16:chkB1 pk1 rk1 (nat_lit 1) (nat_lit 16) (g0 (nat_lit 45))=true:=by kernel_rfl
theorem ev0_29:chkB1 pk0 rk0 (nat_lit 1) (nat_lit 29) (g0 (nat_lit 45))=true:=by kernel_rfl
theorem ev1_41:chkB1 pk1 rk1 (nat_lit 1) (nat_lit 41) (g0 (nat_lit 45))=true:=by kernel_rfl
theorem ev0_54:chkB1 pk0 rk0 (nat_lit 1) (nat_lit 54) (g0 (nat_lit 45))=true:=by kernel_rfl
theorem ev1_66:chkB1 pk1 rk1 (nat_lit 1) (nat_lit 66) (g0 (nat_lit 45))=true:=by kernel_rfl
theorem ev0_79:chkB1 pk0 rk0 (nat_lit 1) (nat_lit 79) (g0 (nat_lit 45))=true:=by kernel_rfl
theorem ev1_91:chkB1 pk1 rk1 (nat_lit 1) (nat_lit 91) (g0 (nat_lit 45))=true:=by kernel_rfl
end Go.X1
