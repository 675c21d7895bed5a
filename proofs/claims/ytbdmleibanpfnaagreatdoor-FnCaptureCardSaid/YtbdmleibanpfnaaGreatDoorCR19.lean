/-
  Evaluations.
-/
import Derived.Test.YtbdmleibanpfnaaGreatDoorCW
import Derived.KernelRfl
set_option linter.all false
set_option linter.all false
set_option maxRecDepth 100000
namespace Go.X1
theorem evy5_1 : isRes x5 (oCallP gY (nat_lit 23) (kn (nat_lit 5) (nat_lit 1) x5).a (kn (nat_lit 5) (nat_lit 1) x5).h fun v h => ret1 v h) = true := by kernel_rfl
theorem evy5_2 : isRes x5 (oCallP gY (nat_lit 23) (kn (nat_lit 5) (nat_lit 2) x5).a (kn (nat_lit 5) (nat_lit 2) x5).h fun v h => ret1 v h) = true := by kernel_rfl
theorem evy5_3 : isRes x5 (oCallP gY (nat_lit 23) (kn (nat_lit 5) (nat_lit 3) x5).a (kn (nat_lit 5) (nat_lit 3) x5).h fun v h => ret1 v h) = true := by kernel_rfl
end Go.X1
