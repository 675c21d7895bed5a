/-
  Evaluations.
-/
import Derived.Test.YtbdmleibanpfnaaGreatDoorRW
import Derived.KernelRfl
set_option linter.all false
set_option linter.all false
set_option maxRecDepth 100000
namespace Go.X1
theorem ev1_10:chkB1 pk1 rk1 (nat_lit 1) (nat_lit 10) (g0 (nat_lit 45))=true:=by kernel_rfl
theorem ev0_23:chkB1 pk0 rk0 (nat_lit 1) (nat_lit 23) (g0 (nat_lit 45))=true:=by kernel_rfl
theorem ev1_35:chkB1 pk1 rk1 (nat_lit 1) (nat_lit 35) (g0 (nat_lit 45))=true:=by kernel_rfl
theorem ev0_48:chkB1 pk0 rk0 (nat_lit 1) (nat_lit 48) (g0 (nat_lit 45))=true:=by kernel_rfl
theorem ev1_60:chkB1 pk1 rk1 (nat_lit 1) (nat_lit 60) (g0 (nat_lit 45))=true:=by kernel_rfl
theorem ev0_73:chkB1 pk0 rk0 (nat_lit 1) (nat_lit 73) (g0 (nat_lit 45))=true:=by kernel_rfl
theorem ev1_85:chkB1 pk1 rk1 (nat_lit 1) (nat_lit 85) (g0 (nat_lit 45))=true:=by kernel_rfl
theorem ev0_98:chkB1 pk0 rk0 (nat_lit 1) (nat_lit 98) (g0 (nat_lit 45))=true:=by kernel_rfl
end Go.X1
