/-
  Evaluations.
-/
import Derived.Test.YtbdmleibanpfnaaGreatDoorCW
import Derived.KernelRfl
set_option linter.all false
set_option linter.all false
set_option maxRecDepth 100000
namespace Go.X1
theorem evy4_8 : isRes x4 (oCallP gY (nat_lit 23) (kn (nat_lit 4) (nat_lit 8) x4).a (kn (nat_lit 4) (nat_lit 8) x4).h fun v h => ret1 v h) = true := by kernel_rfl
theorem evy4_9 : isRes x4 (oCallP gY (nat_lit 23) (kn (nat_lit 4) (nat_lit 9) x4).a (kn (nat_lit 4) (nat_lit 9) x4).h fun v h => ret1 v h) = true := by kernel_rfl
theorem evy5_0 : isRes x5 (oCallP gY (nat_lit 23) (kn (nat_lit 5) (nat_lit 0) x5).a (kn (nat_lit 5) (nat_lit 0) x5).h fun v h => ret1 v h) = true := by kernel_rfl
end Go.X1
