/-
  Evaluations.
-/
import Derived.Test.YtbdmleibanpfnaaGreatDoorRW
import Derived.KernelRfl
set_option linter.all false
set_option linter.all false
set_option maxRecDepth 100000
namespace Go.X1
theorem ev1_6:chkB1 pk1 rk1 (nat_lit 1) (nat_lit 6) (g0 (nat_lit 45))=true:=by kernel_rfl
theorem ev0_19:chkB1 pk0 rk0 (nat_lit 1) (nat_lit 19) (g0 (nat_lit 45))=true:=by kernel_rfl
theorem ev1_31:chkB1 pk1 rk1 (nat_lit 1) (nat_lit 31) (g0 (nat_lit 45))=true:=by kernel_rfl
theorem ev0_44:chkB1 pk0 rk0 (nat_lit 1) (nat_lit 44) (g0 (nat_lit 45))=true:=by kernel_rfl
theorem ev1_56:chkB1 pk1 rk1 (nat_lit 1) (nat_lit 56) (g0 (nat_lit 45))=true:=by kernel_rfl
theorem ev0_69:chkB1 pk0 rk0 (nat_lit 1) (nat_lit 69) (g0 (nat_lit 45))=true:=by kernel_rfl
theorem ev1_81:chkB1 pk1 rk1 (nat_lit 1) (nat_lit 81) (g0 (nat_lit 45))=true:=by kernel_rfl
theorem ev0_94:chkB1 pk0 rk0 (nat_lit 1) (nat_lit 94) (g0 (nat_lit 45))=true:=by kernel_rfl
end Go.X1
