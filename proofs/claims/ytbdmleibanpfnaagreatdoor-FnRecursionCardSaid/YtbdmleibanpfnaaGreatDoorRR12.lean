/-
  Evaluations.
-/
import Derived.Test.YtbdmleibanpfnaaGreatDoorRW
import Derived.KernelRfl
set_option linter.all false
set_option linter.all false
set_option maxRecDepth 100000
namespace Go.X1
theorem ev0_6:chkB1 pk0 rk0 (nat_lit 1) (nat_lit 6) (g0 (nat_lit 45))=true:=by kernel_rfl
theorem ev1_18:chkB1 pk1 rk1 (nat_lit 1) (nat_lit 18) (g0 (nat_lit 45))=true:=by kernel_rfl
theorem ev0_31:chkB1 pk0 rk0 (nat_lit 1) (nat_lit 31) (g0 (nat_lit 45))=true:=by kernel_rfl
theorem ev1_43:chkB1 pk1 rk1 (nat_lit 1) (nat_lit 43) (g0 (nat_lit 45))=true:=by kernel_rfl
theorem ev0_56:chkB1 pk0 rk0 (nat_lit 1) (nat_lit 56) (g0 (nat_lit 45))=true:=by kernel_rfl
theorem ev1_68:chkB1 pk1 rk1 (nat_lit 1) (nat_lit 68) (g0 (nat_lit 45))=true:=by kernel_rfl
theorem ev0_81:chkB1 pk0 rk0 (nat_lit 1) (nat_lit 81) (g0 (nat_lit 45))=true:=by kernel_rfl
theorem ev1_93:chkB1 pk1 rk1 (nat_lit 1) (nat_lit 93) (g0 (nat_lit 45))=true:=by kernel_rfl
end Go.X1
