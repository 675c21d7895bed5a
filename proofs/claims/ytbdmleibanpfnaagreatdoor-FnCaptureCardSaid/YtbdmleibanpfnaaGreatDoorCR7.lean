/-
  Evaluations.
-/
import Derived.Test.YtbdmleibanpfnaaGreatDoorCW
import Derived.KernelRfl
set_option linter.all false
set_option linter.all false
set_option maxRecDepth 100000
namespace Go.X1
theorem evy1_5 : isRes x1 (oCallP gY (nat_lit 23) (kn (nat_lit 1) (nat_lit 5) x1).a (kn (nat_lit 1) (nat_lit 5) x1).h fun v h => ret1 v h) = true := by kernel_rfl
theorem evy1_6 : isRes x1 (oCallP gY (nat_lit 23) (kn (nat_lit 1) (nat_lit 6) x1).a (kn (nat_lit 1) (nat_lit 6) x1).h fun v h => ret1 v h) = true := by kernel_rfl
theorem evy1_7 : isRes x1 (oCallP gY (nat_lit 23) (kn (nat_lit 1) (nat_lit 7) x1).a (kn (nat_lit 1) (nat_lit 7) x1).h fun v h => ret1 v h) = true := by kernel_rfl
end Go.X1
