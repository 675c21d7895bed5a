/-
  Evaluations.
-/
import Derived.Test.YtbdmleibanpfnaaGreatDoorRW
import Derived.KernelRfl
set_option linter.all false
set_option linter.all false
set_option maxRecDepth 100000
namespace Go.X1
theorem ev1_5:chkB1 pk1 rk1 (nat_lit 1) (nat_lit 5) (g0 (nat_lit 45))=true:=by kernel_rfl
theorem ev0_18:chkB1 pk0 rk0 (nat_lit 1) (nat_lit 18) (g0 (nat_lit 45))=true:=by kernel_rfl
theorem ev1_30:chkB1 pk1 rk1 (nat_lit 1) (nat_lit 30) (g0 (nat_lit 45))=true:=by kernel_rfl
theorem ev0_43:chkB1 pk0 rk0 (nat_lit 1) (nat_lit 43) (g0 (nat_lit 45))=true:=by kernel_rfl
theorem ev1_55:chkB1 pk1 rk1 (nat_lit 1) (nat_lit 55) (g0 (nat_lit 45))=true:=by kernel_rfl
theorem ev0_68:chkB1 pk0 rk0 (nat_lit 1) (nat_lit 68) (g0 (nat_lit 45))=true:=by kernel_rfl
theorem ev1_80:chkB1 pk1 rk1 (nat_lit 1) (nat_lit 80) (g0 (nat_lit 45))=true:=by kernel_rfl
theorem ev0_93:chkB1 pk0 rk0 (nat_lit 1) (nat_lit 93) (g0 (nat_lit 45))=true:=by kernel_rfl
end Go.X1
