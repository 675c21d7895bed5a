/-
  Evaluations.
-/
import Derived.Test.YtbdmleibanpfnaaGreatDoorRW
import Derived.KernelRfl
set_option linter.all false
set_option linter.all false
set_option maxRecDepth 100000
namespace Go.X1
theorem ev0_11:chkB1 pk0 rk0 (nat_lit 1) (nat_lit 11) (g0 (nat_lit 45))=true:=by kernel_rfl
theorem ev1_23:chkB1 pk1 rk1 (nat_lit 1) (nat_lit 23) (g0 (nat_lit 45))=true:=by kernel_rfl
theorem ev0_36:chkB1 pk0 rk0 (nat_lit 1) (nat_lit 36) (g0 (nat_lit 45))=true:=by kernel_rfl
theorem ev1_48:chkB1 pk1 rk1 (nat_lit 1) (nat_lit 48) (g0 (nat_lit 45))=true:=by kernel_rfl
theorem ev0_61:chkB1 pk0 rk0 (nat_lit 1) (nat_lit 61) (g0 (nat_lit 45))=true:=by kernel_rfl
theorem ev1_73:chkB1 pk1 rk1 (nat_lit 1) (nat_lit 73) (g0 (nat_lit 45))=true:=by kernel_rfl
theorem ev0_86:chkB1 pk0 rk0 (nat_lit 1) (nat_lit 86) (g0 (nat_lit 45))=true:=by kernel_rfl
theorem ev1_98:chkB1 pk1 rk1 (nat_lit 1) (nat_lit 98) (g0 (nat_lit 45))=true:=by kernel_rfl
end Go.X1
