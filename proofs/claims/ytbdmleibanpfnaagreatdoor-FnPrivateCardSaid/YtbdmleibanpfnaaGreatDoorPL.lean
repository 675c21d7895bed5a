/-
  Texts by digits.
-/
import Derived.Test.YtbdmleibanpfnaaGreatDoorPW
import Derived.KernelRfl
import Derived.Test.YtbdmleibanpfnaaGreatDoorLibE
set_option linter.all false
set_option linter.all false
set_option maxRecDepth 100000
namespace Go.X1
theorem evT0_1:isRes (.nd (nat_lit 2) (expP [((nat_lit 1001),(nat_lit 1))] tok0)) (run (fItoaD [((nat_lit 1001),(nat_lit 1))]) f198 noF noF noF noF noF (nat_lit 100) (nat_lit 198) tx0.a tx0.h)=true:=by kernel_rfl
theorem evT0_2:isRes (.nd (nat_lit 2) (expP [((nat_lit 1001),(nat_lit 2))] tok0)) (run (fItoaD [((nat_lit 1001),(nat_lit 2))]) f198 noF noF noF noF noF (nat_lit 100) (nat_lit 198) tx0.a tx0.h)=true:=by kernel_rfl
theorem evB:isT (run fItoa f198 noF noF noF noF noF (nat_lit 100) (nat_lit 4) inp1 hE)=true:=by kernel_rfl
end Go.X1
