/-
  Evaluations.
-/
import Derived.Test.YtbdmleibanpfnaaGreatDoorCW
import Derived.KernelRfl
set_option linter.all false
set_option linter.all false
set_option maxRecDepth 100000
namespace Go.X1
theorem evy1_2 : isRes x1 (oCallP gY (nat_lit 23) (kn (nat_lit 1) (nat_lit 2) x1).a (kn (nat_lit 1) (nat_lit 2) x1).h fun v h => ret1 v h) = true := by kernel_rfl
theorem evy1_3 : isRes x1 (oCallP gY (nat_lit 23) (kn (nat_lit 1) (nat_lit 3) x1).a (kn (nat_lit 1) (nat_lit 3) x1).h fun v h => ret1 v h) = true := by kernel_rfl
theorem evy1_4 : isRes x1 (oCallP gY (nat_lit 23) (kn (nat_lit 1) (nat_lit 4) x1).a (kn (nat_lit 1) (nat_lit 4) x1).h fun v h => ret1 v h) = true := by kernel_rfl
end Go.X1
