/-
  Evaluations.
-/
import Derived.Test.YtbdmleibanpfnaaGreatDoorCW
import Derived.KernelRfl
set_option linter.all false
set_option linter.all false
set_option maxRecDepth 100000
namespace Go.X1
theorem evz0 : isRes x0 (oCallP gY (nat_lit 23) zp0.a zp0.h fun v h => ret1 v h) = true := by kernel_rfl
theorem evz1 : isRes x1 (oCallP gY (nat_lit 23) zp1.a zp1.h fun v h => ret1 v h) = true := by kernel_rfl
theorem evz2 : isRes x2 (oCallP gY (nat_lit 23) zp2.a zp2.h fun v h => ret1 v h) = true := by kernel_rfl
end Go.X1
