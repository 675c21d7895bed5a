/-
  Evaluations.
-/
import Derived.Test.YtbdmleibanpfnaaGreatDoorRW
import Derived.KernelRfl
set_option linter.all false
set_option linter.all false
set_option maxRecDepth 100000
namespace Go.X1
theorem ev0_1:chkB1 pk0 rk0 (nat_lit 1) (nat_lit 1) (g0 (nat_lit 45))=true:=by kernel_rfl
theorem ev1_13:chkB1 pk1 rk1 (nat_lit 1) (nat_lit 13) (g0 (nat_lit 45))=true:=by kernel_rfl
theorem ev0_26:chkB1 pk0 rk0 (nat_lit 1) (nat_lit 26) (g0 (nat_lit 45))=true:=by kernel_rfl
theorem ev1_38:chkB1 pk1 rk1 (nat_lit 1) (nat_lit 38) (g0 (nat_lit 45))=true:=by kernel_rfl
theorem ev0_51:chkB1 pk0 rk0 (nat_lit 1) (nat_lit 51) (g0 (nat_lit 45))=true:=by kernel_rfl
theorem ev1_63:chkB1 pk1 rk1 (nat_lit 1) (nat_lit 63) (g0 (nat_lit 45))=true:=by kernel_rfl
theorem ev0_76:chkB1 pk0 rk0 (nat_lit 1) (nat_lit 76) (g0 (nat_lit 45))=true:=by kernel_rfl
theorem ev1_88:chkB1 pk1 rk1 (nat_lit 1) (nat_lit 88) (g0 (nat_lit 45))=true:=by kernel_rfl
end Go.X1
