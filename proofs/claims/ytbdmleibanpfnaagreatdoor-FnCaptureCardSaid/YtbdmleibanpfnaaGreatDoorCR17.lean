/-
  Evaluations.
-/
import Derived.Test.YtbdmleibanpfnaaGreatDoorCW
import Derived.KernelRfl
set_option linter.all false
set_option linter.all false
set_option maxRecDepth 100000
namespace Go.X1
theorem evy4_5 : isRes x4 (oCallP gY (nat_lit 23) (kn (nat_lit 4) (nat_lit 5) x4).a (kn (nat_lit 4) (nat_lit 5) x4).h fun v h => ret1 v h) = true := by kernel_rfl
theorem evy4_6 : isRes x4 (oCallP gY (nat_lit 23) (kn (nat_lit 4) (nat_lit 6) x4).a (kn (nat_lit 4) (nat_lit 6) x4).h fun v h => ret1 v h) = true := by kernel_rfl
theorem evy4_7 : isRes x4 (oCallP gY (nat_lit 23) (kn (nat_lit 4) (nat_lit 7) x4).a (kn (nat_lit 4) (nat_lit 7) x4).h fun v h => ret1 v h) = true := by kernel_rfl
end Go.X1
