/-
  Evaluations.
-/
import Derived.Test.YtbdmleibanpfnaaGreatDoorLW
import Derived.KernelRfl
set_option linter.all false
set_option linter.all false
set_option maxRecDepth 100000
namespace Go.X1
theorem ev_4:chkB1 pk rk (nat_lit 1) (nat_lit 4) (g0 (nat_lit 45))=true:=by kernel_rfl
theorem ev_29:chkB1 pk rk (nat_lit 1) (nat_lit 29) (g0 (nat_lit 45))=true:=by kernel_rfl
theorem ev_54:chkB1 pk rk (nat_lit 1) (nat_lit 54) (g0 (nat_lit 45))=true:=by kernel_rfl
theorem ev_79:chkB1 pk rk (nat_lit 1) (nat_lit 79) (g0 (nat_lit 45))=true:=by kernel_rfl
theorem ev_104:chkB1 pk rk (nat_lit 1) (nat_lit 104) (g0 (nat_lit 45))=true:=by kernel_rfl
theorem ev_129:chkB1 pk rk (nat_lit 1) (nat_lit 129) (g0 (nat_lit 45))=true:=by kernel_rfl
theorem ev_154:chkB1 pk rk (nat_lit 1) (nat_lit 154) (g0 (nat_lit 45))=true:=by kernel_rfl
theorem ev_179:chkB1 pk rk (nat_lit 1) (nat_lit 179) (g0 (nat_lit 45))=true:=by kernel_rfl
end Go.X1
