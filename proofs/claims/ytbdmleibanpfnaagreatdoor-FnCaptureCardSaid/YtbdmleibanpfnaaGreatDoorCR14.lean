/-
  Evaluations.
-/
import Derived.Test.YtbdmleibanpfnaaGreatDoorCW
import Derived.KernelRfl
set_option linter.all false
set_option linter.all false
set_option maxRecDepth 100000
namespace Go.X1
theorem evy3_6 : isRes x3 (oCallP gY (nat_lit 23) (kn (nat_lit 3) (nat_lit 6) x3).a (kn (nat_lit 3) (nat_lit 6) x3).h fun v h => ret1 v h) = true := by kernel_rfl
theorem evy3_7 : isRes x3 (oCallP gY (nat_lit 23) (kn (nat_lit 3) (nat_lit 7) x3).a (kn (nat_lit 3) (nat_lit 7) x3).h fun v h => ret1 v h) = true := by kernel_rfl
theorem evy3_8 : isRes x3 (oCallP gY (nat_lit 23) (kn (nat_lit 3) (nat_lit 8) x3).a (kn (nat_lit 3) (nat_lit 8) x3).h fun v h => ret1 v h) = true := by kernel_rfl
end Go.X1
