/-
  Evaluations.
-/
import Derived.Test.YtbdmleibanpfnaaGreatDoorLW
import Derived.KernelRfl
set_option linter.all false
set_option linter.all false
set_option maxRecDepth 100000
namespace Go.X1
theorem ev_15:chkB1 pk rk (nat_lit 1) (nat_lit 15) (g0 (nat_lit 45))=true:=by kernel_rfl
theorem ev_40:chkB1 pk rk (nat_lit 1) (nat_lit 40) (g0 (nat_lit 45))=true:=by kernel_rfl
theorem ev_65:chkB1 pk rk (nat_lit 1) (nat_lit 65) (g0 (nat_lit 45))=true:=by kernel_rfl
theorem ev_90:chkB1 pk rk (nat_lit 1) (nat_lit 90) (g0 (nat_lit 45))=true:=by kernel_rfl
theorem ev_115:chkB1 pk rk (nat_lit 1) (nat_lit 115) (g0 (nat_lit 45))=true:=by kernel_rfl
theorem ev_140:chkB1 pk rk (nat_lit 1) (nat_lit 140) (g0 (nat_lit 45))=true:=by kernel_rfl
theorem ev_165:chkB1 pk rk (nat_lit 1) (nat_lit 165) (g0 (nat_lit 45))=true:=by kernel_rfl
theorem ev_190:chkB1 pk rk (nat_lit 1) (nat_lit 190) (g0 (nat_lit 45))=true:=by kernel_rfl
end Go.X1
