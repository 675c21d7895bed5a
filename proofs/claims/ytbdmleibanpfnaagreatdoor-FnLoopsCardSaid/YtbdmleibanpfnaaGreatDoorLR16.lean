/-
  Evaluations.
-/
import Derived.Test.YtbdmleibanpfnaaGreatDoorLW
import Derived.KernelRfl
set_option linter.all false
set_option linter.all false
set_option maxRecDepth 100000
namespace Go.X1
theorem ev_16:chkB1 pk rk (nat_lit 1) (nat_lit 16) (g0 (nat_lit 45))=true:=by kernel_rfl
theorem ev_41:chkB1 pk rk (nat_lit 1) (nat_lit 41) (g0 (nat_lit 45))=true:=by kernel_rfl
theorem ev_66:chkB1 pk rk (nat_lit 1) (nat_lit 66) (g0 (nat_lit 45))=true:=by kernel_rfl
theorem ev_91:chkB1 pk rk (nat_lit 1) (nat_lit 91) (g0 (nat_lit 45))=true:=by kernel_rfl
theorem ev_116:chkB1 pk rk (nat_lit 1) (nat_lit 116) (g0 (nat_lit 45))=true:=by kernel_rfl
theorem ev_141:chkB1 pk rk (nat_lit 1) (nat_lit 141) (g0 (nat_lit 45))=true:=by kernel_rfl
theorem ev_166:chkB1 pk rk (nat_lit 1) (nat_lit 166) (g0 (nat_lit 45))=true:=by kernel_rfl
theorem ev_191:chkB1 pk rk (nat_lit 1) (nat_lit 191) (g0 (nat_lit 45))=true:=by kernel_rfl
end Go.X1
