/-
  Evaluations.
-/
import Derived.Test.YtbdmleibanpfnaaGreatDoorLW
import Derived.KernelRfl
set_option linter.all false
set_option linter.all false
set_option maxRecDepth 100000
namespace Go.X1
theorem ev_23:chkB1 pk rk (nat_lit 1) (nat_lit 23) (g0 (nat_lit 45))=true:=by kernel_rfl
theorem ev_48:chkB1 pk rk (nat_lit 1) (nat_lit 48) (g0 (nat_lit 45))=true:=by kernel_rfl
theorem ev_73:chkB1 pk rk (nat_lit 1) (nat_lit 73) (g0 (nat_lit 45))=true:=by kernel_rfl
theorem ev_98:chkB1 pk rk (nat_lit 1) (nat_lit 98) (g0 (nat_lit 45))=true:=by kernel_rfl
theorem ev_123:chkB1 pk rk (nat_lit 1) (nat_lit 123) (g0 (nat_lit 45))=true:=by kernel_rfl
theorem ev_148:chkB1 pk rk (nat_lit 1) (nat_lit 148) (g0 (nat_lit 45))=true:=by kernel_rfl
theorem ev_173:chkB1 pk rk (nat_lit 1) (nat_lit 173) (g0 (nat_lit 45))=true:=by kernel_rfl
theorem ev_198:chkB1 pk rk (nat_lit 1) (nat_lit 198) (g0 (nat_lit 45))=true:=by kernel_rfl
end Go.X1
