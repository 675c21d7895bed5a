/-
  Evaluations.
-/
import Derived.Test.YtbdmleibanpfnaaGreatDoorRW
import Derived.KernelRfl
set_option linter.all false
set_option linter.all false
set_option maxRecDepth 100000
namespace Go.X1
theorem ev1_2:chkB1 pk1 rk1 (nat_lit 1) (nat_lit 2) (g0 (nat_lit 45))=true:=by kernel_rfl
theorem ev0_15:chkB1 pk0 rk0 (nat_lit 1) (nat_lit 15) (g0 (nat_lit 45))=true:=by kernel_rfl
theorem ev1_27:chkB1 pk1 rk1 (nat_lit 1) (nat_lit 27) (g0 (nat_lit 45))=true:=by kernel_rfl
theorem ev0_40:chkB1 pk0 rk0 (nat_lit 1) (nat_lit 40) (g0 (nat_lit 45))=true:=by kernel_rfl
theorem ev1_52:chkB1 pk1 rk1 (nat_lit 1) (nat_lit 52) (g0 (nat_lit 45))=true:=by kernel_rfl
theorem ev0_65:chkB1 pk0 rk0 (nat_lit 1) (nat_lit 65) (g0 (nat_lit 45))=true:=by kernel_rfl
theorem ev1_77:chkB1 pk1 rk1 (nat_lit 1) (nat_lit 77) (g0 (nat_lit 45))=true:=by kernel_rfl
theorem ev0_90:chkB1 pk0 rk0 (nat_lit 1) (nat_lit 90) (g0 (nat_lit 45))=true:=by kernel_rfl
end Go.X1
