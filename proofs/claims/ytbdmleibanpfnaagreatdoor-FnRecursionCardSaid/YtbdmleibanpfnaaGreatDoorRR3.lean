/-
  Evaluations.
-/
import Derived.Test.YtbdmleibanpfnaaGreatDoorRW
import Derived.KernelRfl
set_option linter.all false
set_option linter.all false
set_option maxRecDepth 100000
namespace Go.X1
theorem ev1_1:chkB1 pk1 rk1 (nat_lit 1) (nat_lit 1) (g0 (nat_lit 45))=true:=by kernel_rfl
theorem ev0_14:chkB1 pk0 rk0 (nat_lit 1) (nat_lit 14) (g0 (nat_lit 45))=true:=by kernel_rfl
theorem ev1_26:chkB1 pk1 rk1 (nat_lit 1) (nat_lit 26) (g0 (nat_lit 45))=true:=by kernel_rfl
theorem ev0_39:chkB1 pk0 rk0 (nat_lit 1) (nat_lit 39) (g0 (nat_lit 45))=true:=by kernel_rfl
theorem ev1_51:chkB1 pk1 rk1 (nat_lit 1) (nat_lit 51) (g0 (nat_lit 45))=true:=by kernel_rfl
theorem ev0_64:chkB1 pk0 rk0 (nat_lit 1) (nat_lit 64) (g0 (nat_lit 45))=true:=by kernel_rfl
theorem ev1_76:chkB1 pk1 rk1 (nat_lit 1) (nat_lit 76) (g0 (nat_lit 45))=true:=by kernel_rfl
theorem ev0_89:chkB1 pk0 rk0 (nat_lit 1) (nat_lit 89) (g0 (nat_lit 45))=true:=by kernel_rfl
end Go.X1
