/-
  Evaluations.
-/
import Derived.Test.YtbdmleibanpfnaaGreatDoorCW
import Derived.KernelRfl
set_option linter.all false
set_option linter.all false
set_option maxRecDepth 100000
namespace Go.X1
theorem evy0_0 : isRes x0 (oCallP gY (nat_lit 23) (kn (nat_lit 0) (nat_lit 0) x0).a (kn (nat_lit 0) (nat_lit 0) x0).h fun v h => ret1 v h) = true := by kernel_rfl
theorem evy0_1 : isRes x0 (oCallP gY (nat_lit 23) (kn (nat_lit 0) (nat_lit 1) x0).a (kn (nat_lit 0) (nat_lit 1) x0).h fun v h => ret1 v h) = true := by kernel_rfl
theorem evy0_2 : isRes x0 (oCallP gY (nat_lit 23) (kn (nat_lit 0) (nat_lit 2) x0).a (kn (nat_lit 0) (nat_lit 2) x0).h fun v h => ret1 v h) = true := by kernel_rfl
end Go.X1
