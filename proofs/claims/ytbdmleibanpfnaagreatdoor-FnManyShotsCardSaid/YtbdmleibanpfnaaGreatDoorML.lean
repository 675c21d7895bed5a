/-
  Evaluations.
-/
import Derived.Test.YtbdmleibanpfnaaGreatDoorMW
import Derived.KernelRfl
import Derived.Test.YtbdmleibanpfnaaGreatDoorLibD
set_option linter.all false
set_option linter.all false
set_option maxRecDepth 100000
namespace Go.X1
theorem evL : isT (run fItoa f198 (fAt atL) (fRun [kn1, kn2] noF) (nat_lit 100) (nat_lit 7) inp0 hE) = true := by kernel_rfl
theorem evB : isT (run fItoa f198 noF noF (nat_lit 100) (nat_lit 7) inp1 hE) = true := by kernel_rfl
theorem evT0_1 : isRes (.nd (nat_lit 2) (expP [((nat_lit 112), (nat_lit 1))] tok0)) (run (fItoaD [((nat_lit 112), (nat_lit 1))]) f198 noF noF (nat_lit 100) (nat_lit 198) tx0.a tx0.h) = true := by kernel_rfl
theorem evT0_2 : isRes (.nd (nat_lit 2) (expP [((nat_lit 112), (nat_lit 2))] tok0)) (run (fItoaD [((nat_lit 112), (nat_lit 2))]) f198 noF noF (nat_lit 100) (nat_lit 198) tx0.a tx0.h) = true := by kernel_rfl
theorem evT0_3 : isRes (.nd (nat_lit 2) (expP [((nat_lit 112), (nat_lit 3))] tok0)) (run (fItoaD [((nat_lit 112), (nat_lit 3))]) f198 noF noF (nat_lit 100) (nat_lit 198) tx0.a tx0.h) = true := by kernel_rfl
theorem evT1_1_1 : isRes (.nd (nat_lit 2) (expP [((nat_lit 1), (nat_lit 1)), ((nat_lit 10), (nat_lit 1))] tok1)) (run (fItoaD [((nat_lit 1), (nat_lit 1)), ((nat_lit 10), (nat_lit 1))]) f198 noF noF (nat_lit 100) (nat_lit 198) tx1.a tx1.h) = true := by kernel_rfl
theorem evT1_1_2 : isRes (.nd (nat_lit 2) (expP [((nat_lit 1), (nat_lit 1)), ((nat_lit 10), (nat_lit 2))] tok1)) (run (fItoaD [((nat_lit 1), (nat_lit 1)), ((nat_lit 10), (nat_lit 2))]) f198 noF noF (nat_lit 100) (nat_lit 198) tx1.a tx1.h) = true := by kernel_rfl
theorem evT1_2_1 : isRes (.nd (nat_lit 2) (expP [((nat_lit 1), (nat_lit 2)), ((nat_lit 10), (nat_lit 1))] tok1)) (run (fItoaD [((nat_lit 1), (nat_lit 2)), ((nat_lit 10), (nat_lit 1))]) f198 noF noF (nat_lit 100) (nat_lit 198) tx1.a tx1.h) = true := by kernel_rfl
theorem evT1_2_2 : isRes (.nd (nat_lit 2) (expP [((nat_lit 1), (nat_lit 2)), ((nat_lit 10), (nat_lit 2))] tok1)) (run (fItoaD [((nat_lit 1), (nat_lit 2)), ((nat_lit 10), (nat_lit 2))]) f198 noF noF (nat_lit 100) (nat_lit 198) tx1.a tx1.h) = true := by kernel_rfl
end Go.X1
