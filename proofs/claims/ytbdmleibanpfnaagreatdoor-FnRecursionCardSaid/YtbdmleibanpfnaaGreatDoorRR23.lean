/-
  Evaluations.
-/
import Derived.Test.YtbdmleibanpfnaaGreatDoorRW
import Derived.KernelRfl
set_option linter.all false
set_option linter.all false
set_option maxRecDepth 100000
namespace Go.X1
theorem ev1_11:chkB1 pk1 rk1 (nat_lit 1) (nat_lit 11) (g0 (nat_lit 45))=true:=by kernel_rfl
theorem ev0_24:chkB1 pk0 rk0 (nat_lit 1) (nat_lit 24) (g0 (nat_lit 45))=true:=by kernel_rfl
theorem ev1_36:chkB1 pk1 rk1 (nat_lit 1) (nat_lit 36) (g0 (nat_lit 45))=true:=by kernel_rfl
theorem ev0_49:chkB1 pk0 rk0 (nat_lit 1) (nat_lit 49) (g0 (nat_lit 45))=true:=by kernel_rfl
theorem ev1_61:chkB1 pk1 rk1 (nat_lit 1) (nat_lit 61) (g0 (nat_lit 45))=true:=by kernel_rfl
theorem ev0_74:chkB1 pk0 rk0 (nat_lit 1) (nat_lit 74) (g0 (nat_lit 45))=true:=by kernel_rfl
theorem ev1_86:chkB1 pk1 rk1 (nat_lit 1) (nat_lit 86) (g0 (nat_lit 45))=true:=by kernel_rfl
theorem ev0_99:chkB1 pk0 rk0 (nat_lit 1) (nat_lit 99) (g0 (nat_lit 45))=true:=by kernel_rfl
end Go.X1
