/-
  Evaluations.
-/
import Derived.Test.YtbdmleibanpfnaaGreatDoorLW
import Derived.KernelRfl
set_option linter.all false
set_option linter.all false
set_option maxRecDepth 100000
namespace Go.X1
theorem ev_1:chkB1 pk rk (nat_lit 1) (nat_lit 1) (g0 (nat_lit 45))=true:=by kernel_rfl
theorem ev_26:chkB1 pk rk (nat_lit 1) (nat_lit 26) (g0 (nat_lit 45))=true:=by kernel_rfl
theorem ev_51:chkB1 pk rk (nat_lit 1) (nat_lit 51) (g0 (nat_lit 45))=true:=by kernel_rfl
theorem ev_76:chkB1 pk rk (nat_lit 1) (nat_lit 76) (g0 (nat_lit 45))=true:=by kernel_rfl
theorem ev_101:chkB1 pk rk (nat_lit 1) (nat_lit 101) (g0 (nat_lit 45))=true:=by kernel_rfl
theorem ev_126:chkB1 pk rk (nat_lit 1) (nat_lit 126) (g0 (nat_lit 45))=true:=by kernel_rfl
theorem ev_151:chkB1 pk rk (nat_lit 1) (nat_lit 151) (g0 (nat_lit 45))=true:=by kernel_rfl
theorem ev_176:chkB1 pk rk (nat_lit 1) (nat_lit 176) (g0 (nat_lit 45))=true:=by kernel_rfl
end Go.X1
