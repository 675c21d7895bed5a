/-
  Evaluations.
-/
import Derived.Test.YtbdmleibanpfnaaGreatDoorLW
import Derived.KernelRfl
set_option linter.all false
set_option linter.all false
set_option maxRecDepth 100000
namespace Go.X1
theorem ev_6:chkB1 pk rk (nat_lit 1) (nat_lit 6) (g0 (nat_lit 45))=true:=by kernel_rfl
theorem ev_31:chkB1 pk rk (nat_lit 1) (nat_lit 31) (g0 (nat_lit 45))=true:=by kernel_rfl
theorem ev_56:chkB1 pk rk (nat_lit 1) (nat_lit 56) (g0 (nat_lit 45))=true:=by kernel_rfl
theorem ev_81:chkB1 pk rk (nat_lit 1) (nat_lit 81) (g0 (nat_lit 45))=true:=by kernel_rfl
theorem ev_106:chkB1 pk rk (nat_lit 1) (nat_lit 106) (g0 (nat_lit 45))=true:=by kernel_rfl
theorem ev_131:chkB1 pk rk (nat_lit 1) (nat_lit 131) (g0 (nat_lit 45))=true:=by kernel_rfl
theorem ev_156:chkB1 pk rk (nat_lit 1) (nat_lit 156) (g0 (nat_lit 45))=true:=by kernel_rfl
theorem ev_181:chkB1 pk rk (nat_lit 1) (nat_lit 181) (g0 (nat_lit 45))=true:=by kernel_rfl
end Go.X1
