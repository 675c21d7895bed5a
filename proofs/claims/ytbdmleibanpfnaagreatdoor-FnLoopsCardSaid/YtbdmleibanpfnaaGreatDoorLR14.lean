/-
  Evaluations.
-/
import Derived.Test.YtbdmleibanpfnaaGreatDoorLW
import Derived.KernelRfl
set_option linter.all false
set_option linter.all false
set_option maxRecDepth 100000
namespace Go.X1
theorem ev_14:chkB1 pk rk (nat_lit 1) (nat_lit 14) (g0 (nat_lit 45))=true:=by kernel_rfl
theorem ev_39:chkB1 pk rk (nat_lit 1) (nat_lit 39) (g0 (nat_lit 45))=true:=by kernel_rfl
theorem ev_64:chkB1 pk rk (nat_lit 1) (nat_lit 64) (g0 (nat_lit 45))=true:=by kernel_rfl
theorem ev_89:chkB1 pk rk (nat_lit 1) (nat_lit 89) (g0 (nat_lit 45))=true:=by kernel_rfl
theorem ev_114:chkB1 pk rk (nat_lit 1) (nat_lit 114) (g0 (nat_lit 45))=true:=by kernel_rfl
theorem ev_139:chkB1 pk rk (nat_lit 1) (nat_lit 139) (g0 (nat_lit 45))=true:=by kernel_rfl
theorem ev_164:chkB1 pk rk (nat_lit 1) (nat_lit 164) (g0 (nat_lit 45))=true:=by kernel_rfl
theorem ev_189:chkB1 pk rk (nat_lit 1) (nat_lit 189) (g0 (nat_lit 45))=true:=by kernel_rfl
end Go.X1
