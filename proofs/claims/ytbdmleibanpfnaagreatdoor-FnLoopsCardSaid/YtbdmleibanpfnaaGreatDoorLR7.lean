/-
  Evaluations.
-/
import Derived.Test.YtbdmleibanpfnaaGreatDoorLW
import Derived.KernelRfl
set_option linter.all false
set_option linter.all false
set_option maxRecDepth 100000
namespace Go.X1
theorem ev_7:chkB1 pk rk (nat_lit 1) (nat_lit 7) (g0 (nat_lit 45))=true:=by kernel_rfl
theorem ev_32:chkB1 pk rk (nat_lit 1) (nat_lit 32) (g0 (nat_lit 45))=true:=by kernel_rfl
theorem ev_57:chkB1 pk rk (nat_lit 1) (nat_lit 57) (g0 (nat_lit 45))=true:=by kernel_rfl
theorem ev_82:chkB1 pk rk (nat_lit 1) (nat_lit 82) (g0 (nat_lit 45))=true:=by kernel_rfl
theorem ev_107:chkB1 pk rk (nat_lit 1) (nat_lit 107) (g0 (nat_lit 45))=true:=by kernel_rfl
theorem ev_132:chkB1 pk rk (nat_lit 1) (nat_lit 132) (g0 (nat_lit 45))=true:=by kernel_rfl
theorem ev_157:chkB1 pk rk (nat_lit 1) (nat_lit 157) (g0 (nat_lit 45))=true:=by kernel_rfl
theorem ev_182:chkB1 pk rk (nat_lit 1) (nat_lit 182) (g0 (nat_lit 45))=true:=by kernel_rfl
end Go.X1
