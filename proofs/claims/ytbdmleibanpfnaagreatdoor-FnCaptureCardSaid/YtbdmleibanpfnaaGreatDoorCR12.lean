/-
  Evaluations.
-/
import Derived.Test.YtbdmleibanpfnaaGreatDoorCW
import Derived.KernelRfl
set_option linter.all false
set_option linter.all false
set_option maxRecDepth 100000
namespace Go.X1
theorem evy3_0 : isRes x3 (oCallP gY (nat_lit 23) (kn (nat_lit 3) (nat_lit 0) x3).a (kn (nat_lit 3) (nat_lit 0) x3).h fun v h => ret1 v h) = true := by kernel_rfl
theorem evy3_1 : isRes x3 (oCallP gY (nat_lit 23) (kn (nat_lit 3) (nat_lit 1) x3).a (kn (nat_lit 3) (nat_lit 1) x3).h fun v h => ret1 v h) = true := by kernel_rfl
theorem evy3_2 : isRes x3 (oCallP gY (nat_lit 23) (kn (nat_lit 3) (nat_lit 2) x3).a (kn (nat_lit 3) (nat_lit 2) x3).h fun v h => ret1 v h) = true := by kernel_rfl
end Go.X1
