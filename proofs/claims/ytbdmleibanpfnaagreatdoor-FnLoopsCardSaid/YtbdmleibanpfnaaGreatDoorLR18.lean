/-
  Evaluations.
-/
import Derived.Test.YtbdmleibanpfnaaGreatDoorLW
import Derived.KernelRfl
set_option linter.all false
set_option linter.all false
set_option maxRecDepth 100000
namespace Go.X1
theorem ev_18:chkB1 pk rk (nat_lit 1) (nat_lit 18) (g0 (nat_lit 45))=true:=by kernel_rfl
theorem ev_43:chkB1 pk rk (nat_lit 1) (nat_lit 43) (g0 (nat_lit 45))=true:=by kernel_rfl
theorem ev_68:chkB1 pk rk (nat_lit 1) (nat_lit 68) (g0 (nat_lit 45))=true:=by kernel_rfl
theorem ev_93:chkB1 pk rk (nat_lit 1) (nat_lit 93) (g0 (nat_lit 45))=true:=by kernel_rfl
theorem ev_118:chkB1 pk rk (nat_lit 1) (nat_lit 118) (g0 (nat_lit 45))=true:=by kernel_rfl
theorem ev_143:chkB1 pk rk (nat_lit 1) (nat_lit 143) (g0 (nat_lit 45))=true:=by kernel_rfl
theorem ev_168:chkB1 pk rk (nat_lit 1) (nat_lit 168) (g0 (nat_lit 45))=true:=by kernel_rfl
theorem ev_193:chkB1 pk rk (nat_lit 1) (nat_lit 193) (g0 (nat_lit 45))=true:=by kernel_rfl
end Go.X1
