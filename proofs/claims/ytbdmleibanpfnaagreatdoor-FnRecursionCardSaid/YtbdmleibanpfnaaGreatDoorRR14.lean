/-
  Evaluations.
-/
import Derived.Test.YtbdmleibanpfnaaGreatDoorRW
import Derived.KernelRfl
set_option linter.all false
set_option linter.all false
set_option maxRecDepth 100000
namespace Go.X1
theorem ev0_7:chkB1 pk0 rk0 (nat_lit 1) (nat_lit 7) (g0 (nat_lit 45))=true:=by kernel_rfl
theorem ev1_19:chkB1 pk1 rk1 (nat_lit 1) (nat_lit 19) (g0 (nat_lit 45))=true:=by kernel_rfl
theorem ev0_32:chkB1 pk0 rk0 (nat_lit 1) (nat_lit 32) (g0 (nat_lit 45))=true:=by kernel_rfl
theorem ev1_44:chkB1 pk1 rk1 (nat_lit 1) (nat_lit 44) (g0 (nat_lit 45))=true:=by kernel_rfl
theorem ev0_57:chkB1 pk0 rk0 (nat_lit 1) (nat_lit 57) (g0 (nat_lit 45))=true:=by kernel_rfl
theorem ev1_69:chkB1 pk1 rk1 (nat_lit 1) (nat_lit 69) (g0 (nat_lit 45))=true:=by kernel_rfl
theorem ev0_82:chkB1 pk0 rk0 (nat_lit 1) (nat_lit 82) (g0 (nat_lit 45))=true:=by kernel_rfl
theorem ev1_94:chkB1 pk1 rk1 (nat_lit 1) (nat_lit 94) (g0 (nat_lit 45))=true:=by kernel_rfl
end Go.X1
