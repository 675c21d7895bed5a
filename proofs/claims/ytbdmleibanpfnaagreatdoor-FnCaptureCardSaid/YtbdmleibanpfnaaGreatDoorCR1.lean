/-
  Evaluations.
-/
import Derived.Test.YtbdmleibanpfnaaGreatDoorCW
import Derived.KernelRfl
set_option linter.all false
set_option linter.all false
set_option maxRecDepth 100000
namespace Go.X1
theorem evz3 : isRes x3 (oCallP gY (nat_lit 23) zp3.a zp3.h fun v h => ret1 v h) = true := by kernel_rfl
theorem evz4 : isRes x4 (oCallP gY (nat_lit 23) zp4.a zp4.h fun v h => ret1 v h) = true := by kernel_rfl
theorem evz5 : isRes x5 (oCallP gY (nat_lit 23) zp5.a zp5.h fun v h => ret1 v h) = true := by kernel_rfl
end Go.X1
