/-
  Evaluations.
-/
import Derived.Test.YtbdmleibanpfnaaGreatDoorCW
import Derived.KernelRfl
set_option linter.all false
set_option linter.all false
set_option maxRecDepth 100000
namespace Go.X1
theorem evy0_6 : isRes x0 (oCallP gY (nat_lit 23) (kn (nat_lit 0) (nat_lit 6) x0).a (kn (nat_lit 0) (nat_lit 6) x0).h fun v h => ret1 v h) = true := by kernel_rfl
theorem evy0_7 : isRes x0 (oCallP gY (nat_lit 23) (kn (nat_lit 0) (nat_lit 7) x0).a (kn (nat_lit 0) (nat_lit 7) x0).h fun v h => ret1 v h) = true := by kernel_rfl
theorem evy0_8 : isRes x0 (oCallP gY (nat_lit 23) (kn (nat_lit 0) (nat_lit 8) x0).a (kn (nat_lit 0) (nat_lit 8) x0).h fun v h => ret1 v h) = true := by kernel_rfl
end Go.X1
