/-
  Evaluations.
-/
import Derived.Test.YtbdmleibanpfnaaGreatDoorLW
import Derived.KernelRfl
set_option linter.all false
set_option linter.all false
set_option maxRecDepth 100000
namespace Go.X1
theorem ev_0:chkB1 pk rk (nat_lit 1) (nat_lit 0) (g0 (nat_lit 45))=true:=by kernel_rfl
theorem ev_25:chkB1 pk rk (nat_lit 1) (nat_lit 25) (g0 (nat_lit 45))=true:=by kernel_rfl
theorem ev_50:chkB1 pk rk (nat_lit 1) (nat_lit 50) (g0 (nat_lit 45))=true:=by kernel_rfl
theorem ev_75:chkB1 pk rk (nat_lit 1) (nat_lit 75) (g0 (nat_lit 45))=true:=by kernel_rfl
theorem ev_100:chkB1 pk rk (nat_lit 1) (nat_lit 100) (g0 (nat_lit 45))=true:=by kernel_rfl
theorem ev_125:chkB1 pk rk (nat_lit 1) (nat_lit 125) (g0 (nat_lit 45))=true:=by kernel_rfl
theorem ev_150:chkB1 pk rk (nat_lit 1) (nat_lit 150) (g0 (nat_lit 45))=true:=by kernel_rfl
theorem ev_175:chkB1 pk rk (nat_lit 1) (nat_lit 175) (g0 (nat_lit 45))=true:=by kernel_rfl
end Go.X1
