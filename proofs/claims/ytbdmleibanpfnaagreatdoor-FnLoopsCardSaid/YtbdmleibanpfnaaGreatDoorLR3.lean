/-
  Evaluations.
-/
import Derived.Test.YtbdmleibanpfnaaGreatDoorLW
import Derived.KernelRfl
set_option linter.all false
set_option linter.all false
set_option maxRecDepth 100000
namespace Go.X1
theorem ev_3:chkB1 pk rk (nat_lit 1) (nat_lit 3) (g0 (nat_lit 45))=true:=by kernel_rfl
theorem ev_28:chkB1 pk rk (nat_lit 1) (nat_lit 28) (g0 (nat_lit 45))=true:=by kernel_rfl
theorem ev_53:chkB1 pk rk (nat_lit 1) (nat_lit 53) (g0 (nat_lit 45))=true:=by kernel_rfl
theorem ev_78:chkB1 pk rk (nat_lit 1) (nat_lit 78) (g0 (nat_lit 45))=true:=by kernel_rfl
theorem ev_103:chkB1 pk rk (nat_lit 1) (nat_lit 103) (g0 (nat_lit 45))=true:=by kernel_rfl
theorem ev_128:chkB1 pk rk (nat_lit 1) (nat_lit 128) (g0 (nat_lit 45))=true:=by kernel_rfl
theorem ev_153:chkB1 pk rk (nat_lit 1) (nat_lit 153) (g0 (nat_lit 45))=true:=by kernel_rfl
theorem ev_178:chkB1 pk rk (nat_lit 1) (nat_lit 178) (g0 (nat_lit 45))=true:=by kernel_rfl
end Go.X1
