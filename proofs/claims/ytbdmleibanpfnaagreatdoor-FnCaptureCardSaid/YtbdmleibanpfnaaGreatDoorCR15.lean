/-
  Evaluations.
-/
import Derived.Test.YtbdmleibanpfnaaGreatDoorCW
import Derived.KernelRfl
set_option linter.all false
set_option linter.all false
set_option maxRecDepth 100000
namespace Go.X1
theorem evy3_9 : isRes x3 (oCallP gY (nat_lit 23) (kn (nat_lit 3) (nat_lit 9) x3).a (kn (nat_lit 3) (nat_lit 9) x3).h fun v h => ret1 v h) = true := by kernel_rfl
theorem evy4_0 : isRes x4 (oCallP gY (nat_lit 23) (kn (nat_lit 4) (nat_lit 0) x4).a (kn (nat_lit 4) (nat_lit 0) x4).h fun v h => ret1 v h) = true := by kernel_rfl
theorem evy4_1 : isRes x4 (oCallP gY (nat_lit 23) (kn (nat_lit 4) (nat_lit 1) x4).a (kn (nat_lit 4) (nat_lit 1) x4).h fun v h => ret1 v h) = true := by kernel_rfl
end Go.X1
