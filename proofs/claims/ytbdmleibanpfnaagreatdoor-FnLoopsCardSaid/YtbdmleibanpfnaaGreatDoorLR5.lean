/-
  Evaluations.
-/
import Derived.Test.YtbdmleibanpfnaaGreatDoorLW
import Derived.KernelRfl
set_option linter.all false
set_option linter.all false
set_option maxRecDepth 100000
namespace Go.X1
theorem ev_5:chkB1 pk rk (nat_lit 1) (nat_lit 5) (g0 (nat_lit 45))=true:=by kernel_rfl
theorem ev_30:chkB1 pk rk (nat_lit 1) (nat_lit 30) (g0 (nat_lit 45))=true:=by kernel_rfl
theorem ev_55:chkB1 pk rk (nat_lit 1) (nat_lit 55) (g0 (nat_lit 45))=true:=by kernel_rfl
theorem ev_80:chkB1 pk rk (nat_lit 1) (nat_lit 80) (g0 (nat_lit 45))=true:=by kernel_rfl
theorem ev_105:chkB1 pk rk (nat_lit 1) (nat_lit 105) (g0 (nat_lit 45))=true:=by kernel_rfl
theorem ev_130:chkB1 pk rk (nat_lit 1) (nat_lit 130) (g0 (nat_lit 45))=true:=by kernel_rfl
theorem ev_155:chkB1 pk rk (nat_lit 1) (nat_lit 155) (g0 (nat_lit 45))=true:=by kernel_rfl
theorem ev_180:chkB1 pk rk (nat_lit 1) (nat_lit 180) (g0 (nat_lit 45))=true:=by kernel_rfl
end Go.X1
