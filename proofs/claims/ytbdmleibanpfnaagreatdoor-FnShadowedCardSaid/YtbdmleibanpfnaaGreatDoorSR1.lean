/-
  Evaluations.
-/
import Derived.Test.YtbdmleibanpfnaaGreatDoorSW
import Derived.KernelRfl
set_option linter.all false
set_option linter.all false
set_option maxRecDepth 100000
namespace Go.X1
theorem ev1 : isRes x1 (oCallP (run fItoa (fText txL f198) noF f23 (nat_lit 100)) (nat_lit 23) kn1.a kn1.h fun v h => ret1 v h) = true := by kernel_rfl
end Go.X1
