/-
  Evaluations.
-/
import Derived.Test.YtbdmleibanpfnaaGreatDoorRW
import Derived.KernelRfl
set_option linter.all false
set_option linter.all false
set_option maxRecDepth 100000
namespace Go.X1
theorem ev0_3:chkB1 pk0 rk0 (nat_lit 1) (nat_lit 3) (g0 (nat_lit 45))=true:=by kernel_rfl
theorem ev1_15:chkB1 pk1 rk1 (nat_lit 1) (nat_lit 15) (g0 (nat_lit 45))=true:=by kernel_rfl
theorem ev0_28:chkB1 pk0 rk0 (nat_lit 1) (nat_lit 28) (g0 (nat_lit 45))=true:=by kernel_rfl
theorem ev1_40:chkB1 pk1 rk1 (nat_lit 1) (nat_lit 40) (g0 (nat_lit 45))=true:=by kernel_rfl
theorem ev0_53:chkB1 pk0 rk0 (nat_lit 1) (nat_lit 53) (g0 (nat_lit 45))=true:=by kernel_rfl
theorem ev1_65:chkB1 pk1 rk1 (nat_lit 1) (nat_lit 65) (g0 (nat_lit 45))=true:=by kernel_rfl
theorem ev0_78:chkB1 pk0 rk0 (nat_lit 1) (nat_lit 78) (g0 (nat_lit 45))=true:=by kernel_rfl
theorem ev1_90:chkB1 pk1 rk1 (nat_lit 1) (nat_lit 90) (g0 (nat_lit 45))=true:=by kernel_rfl
end Go.X1
