/-
  Evaluations.
-/
import Derived.Test.YtbdmleibanpfnaaGreatDoorRW
import Derived.KernelRfl
set_option linter.all false
set_option linter.all false
set_option maxRecDepth 100000
namespace Go.X1
theorem ev0_2:chkB1 pk0 rk0 (nat_lit 1) (nat_lit 2) (g0 (nat_lit 45))=true:=by kernel_rfl
theorem ev1_14:chkB1 pk1 rk1 (nat_lit 1) (nat_lit 14) (g0 (nat_lit 45))=true:=by kernel_rfl
theorem ev0_27:chkB1 pk0 rk0 (nat_lit 1) (nat_lit 27) (g0 (nat_lit 45))=true:=by kernel_rfl
theorem ev1_39:chkB1 pk1 rk1 (nat_lit 1) (nat_lit 39) (g0 (nat_lit 45))=true:=by kernel_rfl
theorem ev0_52:chkB1 pk0 rk0 (nat_lit 1) (nat_lit 52) (g0 (nat_lit 45))=true:=by kernel_rfl
theorem ev1_64:chkB1 pk1 rk1 (nat_lit 1) (nat_lit 64) (g0 (nat_lit 45))=true:=by kernel_rfl
theorem ev0_77:chkB1 pk0 rk0 (nat_lit 1) (nat_lit 77) (g0 (nat_lit 45))=true:=by kernel_rfl
theorem ev1_89:chkB1 pk1 rk1 (nat_lit 1) (nat_lit 89) (g0 (nat_lit 45))=true:=by kernel_rfl
end Go.X1
