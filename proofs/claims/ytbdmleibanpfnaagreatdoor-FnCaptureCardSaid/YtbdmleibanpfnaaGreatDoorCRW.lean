/-
  Evaluations.
-/
import Derived.Test.YtbdmleibanpfnaaGreatDoorCW
import Derived.KernelRfl
set_option linter.all false
set_option linter.all false
set_option maxRecDepth 100000
namespace Go.X1
theorem evle:Nat.ble pw.lo pw.nx=true:=by kernel_rfl
theorem evf:fullB pw.t pw.nx=true:=by kernel_rfl
theorem evw:okW pw rhw (nat_lit 319) (g0 (nat_lit 12) .nl (.mk .lf (nat_lit 0) (nat_lit 0)))=true:=by kernel_rfl
end Go.X1
