/-
  Evaluations.
-/
import Derived.Test.YtbdmleibanpfnaaGreatDoorLW
import Derived.KernelRfl
set_option linter.all false
set_option linter.all false
set_option maxRecDepth 100000
namespace Go.X1
theorem ev_10:chkB1 pk rk (nat_lit 1) (nat_lit 10) (g0 (nat_lit 45))=true:=by kernel_rfl
theorem ev_35:chkB1 pk rk (nat_lit 1) (nat_lit 35) (g0 (nat_lit 45))=true:=by kernel_rfl
theorem ev_60:chkB1 pk rk (nat_lit 1) (nat_lit 60) (g0 (nat_lit 45))=true:=by kernel_rfl
theorem ev_85:chkB1 pk rk (nat_lit 1) (nat_lit 85) (g0 (nat_lit 45))=true:=by kernel_rfl
theorem ev_110:chkB1 pk rk (nat_lit 1) (nat_lit 110) (g0 (nat_lit 45))=true:=by kernel_rfl
theorem ev_135:chkB1 pk rk (nat_lit 1) (nat_lit 135) (g0 (nat_lit 45))=true:=by kernel_rfl
theorem ev_160:chkB1 pk rk (nat_lit 1) (nat_lit 160) (g0 (nat_lit 45))=true:=by kernel_rfl
theorem ev_185:chkB1 pk rk (nat_lit 1) (nat_lit 185) (g0 (nat_lit 45))=true:=by kernel_rfl
end Go.X1
