/-
  Evaluations.
-/
import Derived.Test.YtbdmleibanpfnaaGreatDoorLW
import Derived.KernelRfl
set_option linter.all false
set_option linter.all false
set_option maxRecDepth 100000
namespace Go.X1
theorem ev_13:chkB1 pk rk (nat_lit 1) (nat_lit 13) (g0 (nat_lit 45))=true:=by kernel_rfl
theorem ev_38:chkB1 pk rk (nat_lit 1) (nat_lit 38) (g0 (nat_lit 45))=true:=by kernel_rfl
theorem ev_63:chkB1 pk rk (nat_lit 1) (nat_lit 63) (g0 (nat_lit 45))=true:=by kernel_rfl
theorem ev_88:chkB1 pk rk (nat_lit 1) (nat_lit 88) (g0 (nat_lit 45))=true:=by kernel_rfl
theorem ev_113:chkB1 pk rk (nat_lit 1) (nat_lit 113) (g0 (nat_lit 45))=true:=by kernel_rfl
theorem ev_138:chkB1 pk rk (nat_lit 1) (nat_lit 138) (g0 (nat_lit 45))=true:=by kernel_rfl
theorem ev_163:chkB1 pk rk (nat_lit 1) (nat_lit 163) (g0 (nat_lit 45))=true:=by kernel_rfl
theorem ev_188:chkB1 pk rk (nat_lit 1) (nat_lit 188) (g0 (nat_lit 45))=true:=by kernel_rfl
end Go.X1
