/-
  Evaluations.
-/
import Derived.Test.YtbdmleibanpfnaaGreatDoorLW
import Derived.KernelRfl
set_option linter.all false
set_option linter.all false
set_option maxRecDepth 100000
namespace Go.X1
theorem ev_20:chkB1 pk rk (nat_lit 1) (nat_lit 20) (g0 (nat_lit 45))=true:=by kernel_rfl
theorem ev_45:chkB1 pk rk (nat_lit 1) (nat_lit 45) (g0 (nat_lit 45))=true:=by kernel_rfl
theorem ev_70:chkB1 pk rk (nat_lit 1) (nat_lit 70) (g0 (nat_lit 45))=true:=by kernel_rfl
theorem ev_95:chkB1 pk rk (nat_lit 1) (nat_lit 95) (g0 (nat_lit 45))=true:=by kernel_rfl
theorem ev_120:chkB1 pk rk (nat_lit 1) (nat_lit 120) (g0 (nat_lit 45))=true:=by kernel_rfl
theorem ev_145:chkB1 pk rk (nat_lit 1) (nat_lit 145) (g0 (nat_lit 45))=true:=by kernel_rfl
theorem ev_170:chkB1 pk rk (nat_lit 1) (nat_lit 170) (g0 (nat_lit 45))=true:=by kernel_rfl
theorem ev_195:chkB1 pk rk (nat_lit 1) (nat_lit 195) (g0 (nat_lit 45))=true:=by kernel_rfl
end Go.X1
