/-
  Evaluations.
-/
import Derived.Test.YtbdmleibanpfnaaGreatDoorLW
import Derived.KernelRfl
set_option linter.all false
set_option linter.all false
set_option maxRecDepth 100000
namespace Go.X1
theorem ev_12:chkB1 pk rk (nat_lit 1) (nat_lit 12) (g0 (nat_lit 45))=true:=by kernel_rfl
theorem ev_37:chkB1 pk rk (nat_lit 1) (nat_lit 37) (g0 (nat_lit 45))=true:=by kernel_rfl
theorem ev_62:chkB1 pk rk (nat_lit 1) (nat_lit 62) (g0 (nat_lit 45))=true:=by kernel_rfl
theorem ev_87:chkB1 pk rk (nat_lit 1) (nat_lit 87) (g0 (nat_lit 45))=true:=by kernel_rfl
theorem ev_112:chkB1 pk rk (nat_lit 1) (nat_lit 112) (g0 (nat_lit 45))=true:=by kernel_rfl
theorem ev_137:chkB1 pk rk (nat_lit 1) (nat_lit 137) (g0 (nat_lit 45))=true:=by kernel_rfl
theorem ev_162:chkB1 pk rk (nat_lit 1) (nat_lit 162) (g0 (nat_lit 45))=true:=by kernel_rfl
theorem ev_187:chkB1 pk rk (nat_lit 1) (nat_lit 187) (g0 (nat_lit 45))=true:=by kernel_rfl
end Go.X1
