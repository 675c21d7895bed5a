/-
  Evaluations.
-/
import Derived.Test.YtbdmleibanpfnaaGreatDoorLW
import Derived.KernelRfl
set_option linter.all false
set_option linter.all false
set_option maxRecDepth 100000
namespace Go.X1
theorem ev_9:chkB1 pk rk (nat_lit 1) (nat_lit 9) (g0 (nat_lit 45))=true:=by kernel_rfl
theorem ev_34:chkB1 pk rk (nat_lit 1) (nat_lit 34) (g0 (nat_lit 45))=true:=by kernel_rfl
theorem ev_59:chkB1 pk rk (nat_lit 1) (nat_lit 59) (g0 (nat_lit 45))=true:=by kernel_rfl
theorem ev_84:chkB1 pk rk (nat_lit 1) (nat_lit 84) (g0 (nat_lit 45))=true:=by kernel_rfl
theorem ev_109:chkB1 pk rk (nat_lit 1) (nat_lit 109) (g0 (nat_lit 45))=true:=by kernel_rfl
theorem ev_134:chkB1 pk rk (nat_lit 1) (nat_lit 134) (g0 (nat_lit 45))=true:=by kernel_rfl
theorem ev_159:chkB1 pk rk (nat_lit 1) (nat_lit 159) (g0 (nat_lit 45))=true:=by kernel_rfl
theorem ev_184:chkB1 pk rk (nat_lit 1) (nat_lit 184) (g0 (nat_lit 45))=true:=by kernel_rfl
end Go.X1
