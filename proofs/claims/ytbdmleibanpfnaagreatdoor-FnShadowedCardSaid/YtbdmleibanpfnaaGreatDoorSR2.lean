/-
  Evaluations.
-/
import Derived.Test.YtbdmleibanpfnaaGreatDoorSW
import Derived.KernelRfl
set_option linter.all false
set_option linter.all false
set_option maxRecDepth 100000
namespace Go.X1
theorem ev2 : isRes x2 (oCallP (run fItoa (fText txL f198) noF f23 (nat_lit 100)) (nat_lit 23) kn2.a kn2.h fun v h => ret1 v h) = true := by kernel_rfl
end Go.X1
