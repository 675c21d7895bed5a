/-
  Evaluations.
-/
import Derived.Test.YtbdmleibanpfnaaGreatDoorLW
import Derived.KernelRfl
set_option linter.all false
set_option linter.all false
set_option maxRecDepth 100000
namespace Go.X1
theorem ev_17:chkB1 pk rk (nat_lit 1) (nat_lit 17) (g0 (nat_lit 45))=true:=by kernel_rfl
theorem ev_42:chkB1 pk rk (nat_lit 1) (nat_lit 42) (g0 (nat_lit 45))=true:=by kernel_rfl
theorem ev_67:chkB1 pk rk (nat_lit 1) (nat_lit 67) (g0 (nat_lit 45))=true:=by kernel_rfl
theorem ev_92:chkB1 pk rk (nat_lit 1) (nat_lit 92) (g0 (nat_lit 45))=true:=by kernel_rfl
theorem ev_117:chkB1 pk rk (nat_lit 1) (nat_lit 117) (g0 (nat_lit 45))=true:=by kernel_rfl
theorem ev_142:chkB1 pk rk (nat_lit 1) (nat_lit 142) (g0 (nat_lit 45))=true:=by kernel_rfl
theorem ev_167:chkB1 pk rk (nat_lit 1) (nat_lit 167) (g0 (nat_lit 45))=true:=by kernel_rfl
theorem ev_192:chkB1 pk rk (nat_lit 1) (nat_lit 192) (g0 (nat_lit 45))=true:=by kernel_rfl
end Go.X1
