/-
  Evaluations.
-/
import Derived.Test.YtbdmleibanpfnaaGreatDoorLW
import Derived.KernelRfl
set_option linter.all false
set_option linter.all false
set_option maxRecDepth 100000
namespace Go.X1
theorem ev_24:chkB1 pk rk (nat_lit 1) (nat_lit 24) (g0 (nat_lit 45))=true:=by kernel_rfl
theorem ev_49:chkB1 pk rk (nat_lit 1) (nat_lit 49) (g0 (nat_lit 45))=true:=by kernel_rfl
theorem ev_74:chkB1 pk rk (nat_lit 1) (nat_lit 74) (g0 (nat_lit 45))=true:=by kernel_rfl
theorem ev_99:chkB1 pk rk (nat_lit 1) (nat_lit 99) (g0 (nat_lit 45))=true:=by kernel_rfl
theorem ev_124:chkB1 pk rk (nat_lit 1) (nat_lit 124) (g0 (nat_lit 45))=true:=by kernel_rfl
theorem ev_149:chkB1 pk rk (nat_lit 1) (nat_lit 149) (g0 (nat_lit 45))=true:=by kernel_rfl
theorem ev_174:chkB1 pk rk (nat_lit 1) (nat_lit 174) (g0 (nat_lit 45))=true:=by kernel_rfl
theorem ev_199:chkB1 pk rk (nat_lit 1) (nat_lit 199) (g0 (nat_lit 45))=true:=by kernel_rfl
end Go.X1
