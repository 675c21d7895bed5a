/-
  Evaluations.
-/
import Derived.Test.YtbdmleibanpfnaaGreatDoorRW
import Derived.KernelRfl
set_option linter.all false
set_option linter.all false
set_option maxRecDepth 100000
namespace Go.X1
theorem evB:isT (run fItoa f198 noF noF noF (nat_lit 100) (nat_lit 10) inp1 hE)=true:=by kernel_rfl
end Go.X1
