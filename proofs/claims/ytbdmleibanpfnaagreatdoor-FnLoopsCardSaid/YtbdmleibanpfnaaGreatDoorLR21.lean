/-
  Evaluations.
-/
import Derived.Test.YtbdmleibanpfnaaGreatDoorLW
import Derived.KernelRfl
set_option linter.all false
set_option linter.all false
set_option maxRecDepth 100000
namespace Go.X1
theorem ev_21:chkB1 pk rk (nat_lit 1) (nat_lit 21) (g0 (nat_lit 45))=true:=by kernel_rfl
theorem ev_46:chkB1 pk rk (nat_lit 1) (nat_lit 46) (g0 (nat_lit 45))=true:=by kernel_rfl
theorem ev_71:chkB1 pk rk (nat_lit 1) (nat_lit 71) (g0 (nat_lit 45))=true:=by kernel_rfl
theorem ev_96:chkB1 pk rk (nat_lit 1) (nat_lit 96) (g0 (nat_lit 45))=true:=by kernel_rfl
theorem ev_121:chkB1 pk rk (nat_lit 1) (nat_lit 121) (g0 (nat_lit 45))=true:=by kernel_rfl
theorem ev_146:chkB1 pk rk (nat_lit 1) (nat_lit 146) (g0 (nat_lit 45))=true:=by kernel_rfl
theorem ev_171:chkB1 pk rk (nat_lit 1) (nat_lit 171) (g0 (nat_lit 45))=true:=by kernel_rfl
theorem ev_196:chkB1 pk rk (nat_lit 1) (nat_lit 196) (g0 (nat_lit 45))=true:=by kernel_rfl
end Go.X1
