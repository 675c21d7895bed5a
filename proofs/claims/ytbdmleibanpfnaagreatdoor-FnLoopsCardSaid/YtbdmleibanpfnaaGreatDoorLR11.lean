/-
  Evaluations.
-/
import Derived.Test.YtbdmleibanpfnaaGreatDoorLW
import Derived.KernelRfl
set_option linter.all false
set_option linter.all false
set_option maxRecDepth 100000
namespace Go.X1
theorem ev_11:chkB1 pk rk (nat_lit 1) (nat_lit 11) (g0 (nat_lit 45))=true:=by kernel_rfl
theorem ev_36:chkB1 pk rk (nat_lit 1) (nat_lit 36) (g0 (nat_lit 45))=true:=by kernel_rfl
theorem ev_61:chkB1 pk rk (nat_lit 1) (nat_lit 61) (g0 (nat_lit 45))=true:=by kernel_rfl
theorem ev_86:chkB1 pk rk (nat_lit 1) (nat_lit 86) (g0 (nat_lit 45))=true:=by kernel_rfl
theorem ev_111:chkB1 pk rk (nat_lit 1) (nat_lit 111) (g0 (nat_lit 45))=true:=by kernel_rfl
theorem ev_136:chkB1 pk rk (nat_lit 1) (nat_lit 136) (g0 (nat_lit 45))=true:=by kernel_rfl
theorem ev_161:chkB1 pk rk (nat_lit 1) (nat_lit 161) (g0 (nat_lit 45))=true:=by kernel_rfl
theorem ev_186:chkB1 pk rk (nat_lit 1) (nat_lit 186) (g0 (nat_lit 45))=true:=by kernel_rfl
end Go.X1
