/-
  Texts by digits.
-/
import Derived.Test.YtbdmleibanpfnaaGreatDoorCW
import Derived.KernelRfl
import Derived.Test.YtbdmleibanpfnaaGreatDoorLibE
set_option linter.all false
set_option linter.all false
set_option maxRecDepth 100000
namespace Go.X1
theorem evT0_1 : isRes (.nd (nat_lit 2) (expP [((nat_lit 1), (nat_lit 1))] tok0)) (run (fItoaD [((nat_lit 1), (nat_lit 1))]) f198 noF noF noF (nat_lit 100) (nat_lit 198) tx0.a tx0.h) = true := by kernel_rfl
theorem evT0_2 : isRes (.nd (nat_lit 2) (expP [((nat_lit 1), (nat_lit 2))] tok0)) (run (fItoaD [((nat_lit 1), (nat_lit 2))]) f198 noF noF noF (nat_lit 100) (nat_lit 198) tx0.a tx0.h) = true := by kernel_rfl
theorem evT1_1 : isRes (.nd (nat_lit 2) (expP [((nat_lit 1), (nat_lit 1))] tok1)) (run (fItoaD [((nat_lit 1), (nat_lit 1))]) f198 noF noF noF (nat_lit 100) (nat_lit 198) tx1.a tx1.h) = true := by kernel_rfl
theorem evT1_2 : isRes (.nd (nat_lit 2) (expP [((nat_lit 1), (nat_lit 2))] tok1)) (run (fItoaD [((nat_lit 1), (nat_lit 2))]) f198 noF noF noF (nat_lit 100) (nat_lit 198) tx1.a tx1.h) = true := by kernel_rfl
theorem evT2_1 : isRes (.nd (nat_lit 2) (expP [((nat_lit 1), (nat_lit 1))] tok2)) (run (fItoaD [((nat_lit 1), (nat_lit 1))]) f198 noF noF noF (nat_lit 100) (nat_lit 198) tx2.a tx2.h) = true := by kernel_rfl
theorem evT2_2 : isRes (.nd (nat_lit 2) (expP [((nat_lit 1), (nat_lit 2))] tok2)) (run (fItoaD [((nat_lit 1), (nat_lit 2))]) f198 noF noF noF (nat_lit 100) (nat_lit 198) tx2.a tx2.h) = true := by kernel_rfl
theorem evT3_1 : isRes (.nd (nat_lit 2) (expP [((nat_lit 1), (nat_lit 1))] tok3)) (run (fItoaD [((nat_lit 1), (nat_lit 1))]) f198 noF noF noF (nat_lit 100) (nat_lit 198) tx3.a tx3.h) = true := by kernel_rfl
theorem evT3_2 : isRes (.nd (nat_lit 2) (expP [((nat_lit 1), (nat_lit 2))] tok3)) (run (fItoaD [((nat_lit 1), (nat_lit 2))]) f198 noF noF noF (nat_lit 100) (nat_lit 198) tx3.a tx3.h) = true := by kernel_rfl
theorem evB : isT (run fItoa f198 noF noF noF (nat_lit 100) (nat_lit 9) inp1 hE) = true := by kernel_rfl
end Go.X1
