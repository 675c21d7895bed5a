/-
  Evaluations.
-/
import Derived.Test.YtbdmleibanpfnaaGreatDoorRW
import Derived.KernelRfl
set_option linter.all false
set_option linter.all false
set_option maxRecDepth 100000
namespace Go.X1
theorem ev1_8:chkB1 pk1 rk1 (nat_lit 1) (nat_lit 8) (g0 (nat_lit 45))=true:=by kernel_rfl
theorem ev0_21:chkB1 pk0 rk0 (nat_lit 1) (nat_lit 21) (g0 (nat_lit 45))=true:=by kernel_rfl
theorem ev1_33:chkB1 pk1 rk1 (nat_lit 1) (nat_lit 33) (g0 (nat_lit 45))=true:=by kernel_rfl
theorem ev0_46:chkB1 pk0 rk0 (nat_lit 1) (nat_lit 46) (g0 (nat_lit 45))=true:=by kernel_rfl
theorem ev1_58:chkB1 pk1 rk1 (nat_lit 1) (nat_lit 58) (g0 (nat_lit 45))=true:=by kernel_rfl
theorem ev0_71:chkB1 pk0 rk0 (nat_lit 1) (nat_lit 71) (g0 (nat_lit 45))=true:=by kernel_rfl
theorem ev1_83:chkB1 pk1 rk1 (nat_lit 1) (nat_lit 83) (g0 (nat_lit 45))=true:=by kernel_rfl
theorem ev0_96:chkB1 pk0 rk0 (nat_lit 1) (nat_lit 96) (g0 (nat_lit 45))=true:=by kernel_rfl
end Go.X1
