/-
  Evaluations.
-/
import Derived.Test.YtbdmleibanpfnaaGreatDoorLW
import Derived.KernelRfl
set_option linter.all false
set_option linter.all false
set_option maxRecDepth 100000
namespace Go.X1
theorem ev_2:chkB1 pk rk (nat_lit 1) (nat_lit 2) (g0 (nat_lit 45))=true:=by kernel_rfl
theorem ev_27:chkB1 pk rk (nat_lit 1) (nat_lit 27) (g0 (nat_lit 45))=true:=by kernel_rfl
theorem ev_52:chkB1 pk rk (nat_lit 1) (nat_lit 52) (g0 (nat_lit 45))=true:=by kernel_rfl
theorem ev_77:chkB1 pk rk (nat_lit 1) (nat_lit 77) (g0 (nat_lit 45))=true:=by kernel_rfl
theorem ev_102:chkB1 pk rk (nat_lit 1) (nat_lit 102) (g0 (nat_lit 45))=true:=by kernel_rfl
theorem ev_127:chkB1 pk rk (nat_lit 1) (nat_lit 127) (g0 (nat_lit 45))=true:=by kernel_rfl
theorem ev_152:chkB1 pk rk (nat_lit 1) (nat_lit 152) (g0 (nat_lit 45))=true:=by kernel_rfl
theorem ev_177:chkB1 pk rk (nat_lit 1) (nat_lit 177) (g0 (nat_lit 45))=true:=by kernel_rfl
end Go.X1
