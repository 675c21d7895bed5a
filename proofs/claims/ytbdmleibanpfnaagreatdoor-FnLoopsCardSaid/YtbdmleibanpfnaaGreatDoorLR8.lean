/-
  Evaluations.
-/
import Derived.Test.YtbdmleibanpfnaaGreatDoorLW
import Derived.KernelRfl
set_option linter.all false
set_option linter.all false
set_option maxRecDepth 100000
namespace Go.X1
theorem ev_8:chkB1 pk rk (nat_lit 1) (nat_lit 8) (g0 (nat_lit 45))=true:=by kernel_rfl
theorem ev_33:chkB1 pk rk (nat_lit 1) (nat_lit 33) (g0 (nat_lit 45))=true:=by kernel_rfl
theorem ev_58:chkB1 pk rk (nat_lit 1) (nat_lit 58) (g0 (nat_lit 45))=true:=by kernel_rfl
theorem ev_83:chkB1 pk rk (nat_lit 1) (nat_lit 83) (g0 (nat_lit 45))=true:=by kernel_rfl
theorem ev_108:chkB1 pk rk (nat_lit 1) (nat_lit 108) (g0 (nat_lit 45))=true:=by kernel_rfl
theorem ev_133:chkB1 pk rk (nat_lit 1) (nat_lit 133) (g0 (nat_lit 45))=true:=by kernel_rfl
theorem ev_158:chkB1 pk rk (nat_lit 1) (nat_lit 158) (g0 (nat_lit 45))=true:=by kernel_rfl
theorem ev_183:chkB1 pk rk (nat_lit 1) (nat_lit 183) (g0 (nat_lit 45))=true:=by kernel_rfl
end Go.X1
