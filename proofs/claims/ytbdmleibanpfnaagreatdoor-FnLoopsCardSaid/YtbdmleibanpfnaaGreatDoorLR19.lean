/-
  Evaluations.
-/
import Derived.Test.YtbdmleibanpfnaaGreatDoorLW
import Derived.KernelRfl
set_option linter.all false
set_option linter.all false
set_option maxRecDepth 100000
namespace Go.X1
theorem ev_19:chkB1 pk rk (nat_lit 1) (nat_lit 19) (g0 (nat_lit 45))=true:=by kernel_rfl
theorem ev_44:chkB1 pk rk (nat_lit 1) (nat_lit 44) (g0 (nat_lit 45))=true:=by kernel_rfl
theorem ev_69:chkB1 pk rk (nat_lit 1) (nat_lit 69) (g0 (nat_lit 45))=true:=by kernel_rfl
theorem ev_94:chkB1 pk rk (nat_lit 1) (nat_lit 94) (g0 (nat_lit 45))=true:=by kernel_rfl
theorem ev_119:chkB1 pk rk (nat_lit 1) (nat_lit 119) (g0 (nat_lit 45))=true:=by kernel_rfl
theorem ev_144:chkB1 pk rk (nat_lit 1) (nat_lit 144) (g0 (nat_lit 45))=true:=by kernel_rfl
theorem ev_169:chkB1 pk rk (nat_lit 1) (nat_lit 169) (g0 (nat_lit 45))=true:=by kernel_rfl
theorem ev_194:chkB1 pk rk (nat_lit 1) (nat_lit 194) (g0 (nat_lit 45))=true:=by kernel_rfl
end Go.X1
