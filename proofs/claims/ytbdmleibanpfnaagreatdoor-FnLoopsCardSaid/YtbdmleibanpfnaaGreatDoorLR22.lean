/-
  Evaluations.
-/
import Derived.Test.YtbdmleibanpfnaaGreatDoorLW
import Derived.KernelRfl
set_option linter.all false
set_option linter.all false
set_option maxRecDepth 100000
namespace Go.X1
theorem ev_22:chkB1 pk rk (nat_lit 1) (nat_lit 22) (g0 (nat_lit 45))=true:=by kernel_rfl
theorem ev_47:chkB1 pk rk (nat_lit 1) (nat_lit 47) (g0 (nat_lit 45))=true:=by kernel_rfl
theorem ev_72:chkB1 pk rk (nat_lit 1) (nat_lit 72) (g0 (nat_lit 45))=true:=by kernel_rfl
theorem ev_97:chkB1 pk rk (nat_lit 1) (nat_lit 97) (g0 (nat_lit 45))=true:=by kernel_rfl
theorem ev_122:chkB1 pk rk (nat_lit 1) (nat_lit 122) (g0 (nat_lit 45))=true:=by kernel_rfl
theorem ev_147:chkB1 pk rk (nat_lit 1) (nat_lit 147) (g0 (nat_lit 45))=true:=by kernel_rfl
theorem ev_172:chkB1 pk rk (nat_lit 1) (nat_lit 172) (g0 (nat_lit 45))=true:=by kernel_rfl
theorem ev_197:chkB1 pk rk (nat_lit 1) (nat_lit 197) (g0 (nat_lit 45))=true:=by kernel_rfl
end Go.X1
