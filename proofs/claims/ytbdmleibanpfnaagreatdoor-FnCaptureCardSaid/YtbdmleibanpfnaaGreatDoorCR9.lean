/-
  Evaluations.
-/
import Derived.Test.YtbdmleibanpfnaaGreatDoorCW
import Derived.KernelRfl
set_option linter.all false
set_option linter.all false
set_option maxRecDepth 100000
namespace Go.X1
theorem evy2_1 : isRes x2 (oCallP gY (nat_lit 23) (kn (nat_lit 2) (nat_lit 1) x2).a (kn (nat_lit 2) (nat_lit 1) x2).h fun v h => ret1 v h) = true := by kernel_rfl
theorem evy2_2 : isRes x2 (oCallP gY (nat_lit 23) (kn (nat_lit 2) (nat_lit 2) x2).a (kn (nat_lit 2) (nat_lit 2) x2).h fun v h => ret1 v h) = true := by kernel_rfl
theorem evy2_3 : isRes x2 (oCallP gY (nat_lit 23) (kn (nat_lit 2) (nat_lit 3) x2).a (kn (nat_lit 2) (nat_lit 3) x2).h fun v h => ret1 v h) = true := by kernel_rfl
end Go.X1
