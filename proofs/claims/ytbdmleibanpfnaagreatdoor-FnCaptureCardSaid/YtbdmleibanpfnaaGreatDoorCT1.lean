/-
  Evaluations.
-/
import Derived.Test.YtbdmleibanpfnaaGreatDoorCW
import Derived.KernelRfl
set_option linter.all false
set_option linter.all false
set_option maxRecDepth 100000
namespace Go.X1
theorem evl2_0 : isT (run fItoa f198 (fAt (atC (nat_lit 2) (nat_lit 0))) (rn (nat_lit 2) (nat_lit 0) zp2 rho2) noF (nat_lit 100) (nat_lit 9) inp0 hE) = true := by kernel_rfl
theorem evl2_1 : isT (run fItoa f198 (fAt (atC (nat_lit 2) (nat_lit 1))) (rn (nat_lit 2) (nat_lit 1) zp2 rho2) noF (nat_lit 100) (nat_lit 9) inp0 hE) = true := by kernel_rfl
theorem evl2_2 : isT (run fItoa f198 (fAt (atC (nat_lit 2) (nat_lit 2))) (rn (nat_lit 2) (nat_lit 2) zp2 rho2) noF (nat_lit 100) (nat_lit 9) inp0 hE) = true := by kernel_rfl
theorem evl2_3 : isT (run fItoa f198 (fAt (atC (nat_lit 2) (nat_lit 3))) (rn (nat_lit 2) (nat_lit 3) zp2 rho2) noF (nat_lit 100) (nat_lit 9) inp0 hE) = true := by kernel_rfl
theorem evl2_4 : isT (run fItoa f198 (fAt (atC (nat_lit 2) (nat_lit 4))) (rn (nat_lit 2) (nat_lit 4) zp2 rho2) noF (nat_lit 100) (nat_lit 9) inp0 hE) = true := by kernel_rfl
theorem evl2_5 : isT (run fItoa f198 (fAt (atC (nat_lit 2) (nat_lit 5))) (rn (nat_lit 2) (nat_lit 5) zp2 rho2) noF (nat_lit 100) (nat_lit 9) inp0 hE) = true := by kernel_rfl
theorem evl2_6 : isT (run fItoa f198 (fAt (atC (nat_lit 2) (nat_lit 6))) (rn (nat_lit 2) (nat_lit 6) zp2 rho2) noF (nat_lit 100) (nat_lit 9) inp0 hE) = true := by kernel_rfl
theorem evl2_7 : isT (run fItoa f198 (fAt (atC (nat_lit 2) (nat_lit 7))) (rn (nat_lit 2) (nat_lit 7) zp2 rho2) noF (nat_lit 100) (nat_lit 9) inp0 hE) = true := by kernel_rfl
theorem evl2_8 : isT (run fItoa f198 (fAt (atC (nat_lit 2) (nat_lit 8))) (rn (nat_lit 2) (nat_lit 8) zp2 rho2) noF (nat_lit 100) (nat_lit 9) inp0 hE) = true := by kernel_rfl
theorem evl2_9 : isT (run fItoa f198 (fAt (atC (nat_lit 2) (nat_lit 9))) (rn (nat_lit 2) (nat_lit 9) zp2 rho2) noF (nat_lit 100) (nat_lit 9) inp0 hE) = true := by kernel_rfl
theorem evl3_0 : isT (run fItoa f198 (fAt (atC (nat_lit 3) (nat_lit 0))) (rn (nat_lit 3) (nat_lit 0) zp3 rho3) noF (nat_lit 100) (nat_lit 9) inp0 hE) = true := by kernel_rfl
theorem evl3_1 : isT (run fItoa f198 (fAt (atC (nat_lit 3) (nat_lit 1))) (rn (nat_lit 3) (nat_lit 1) zp3 rho3) noF (nat_lit 100) (nat_lit 9) inp0 hE) = true := by kernel_rfl
theorem evl3_2 : isT (run fItoa f198 (fAt (atC (nat_lit 3) (nat_lit 2))) (rn (nat_lit 3) (nat_lit 2) zp3 rho3) noF (nat_lit 100) (nat_lit 9) inp0 hE) = true := by kernel_rfl
theorem evl3_3 : isT (run fItoa f198 (fAt (atC (nat_lit 3) (nat_lit 3))) (rn (nat_lit 3) (nat_lit 3) zp3 rho3) noF (nat_lit 100) (nat_lit 9) inp0 hE) = true := by kernel_rfl
theorem evl3_4 : isT (run fItoa f198 (fAt (atC (nat_lit 3) (nat_lit 4))) (rn (nat_lit 3) (nat_lit 4) zp3 rho3) noF (nat_lit 100) (nat_lit 9) inp0 hE) = true := by kernel_rfl
theorem evl3_5 : isT (run fItoa f198 (fAt (atC (nat_lit 3) (nat_lit 5))) (rn (nat_lit 3) (nat_lit 5) zp3 rho3) noF (nat_lit 100) (nat_lit 9) inp0 hE) = true := by kernel_rfl
theorem evl3_6 : isT (run fItoa f198 (fAt (atC (nat_lit 3) (nat_lit 6))) (rn (nat_lit 3) (nat_lit 6) zp3 rho3) noF (nat_lit 100) (nat_lit 9) inp0 hE) = true := by kernel_rfl
theorem evl3_7 : isT (run fItoa f198 (fAt (atC (nat_lit 3) (nat_lit 7))) (rn (nat_lit 3) (nat_lit 7) zp3 rho3) noF (nat_lit 100) (nat_lit 9) inp0 hE) = true := by kernel_rfl
theorem evl3_8 : isT (run fItoa f198 (fAt (atC (nat_lit 3) (nat_lit 8))) (rn (nat_lit 3) (nat_lit 8) zp3 rho3) noF (nat_lit 100) (nat_lit 9) inp0 hE) = true := by kernel_rfl
theorem evl3_9 : isT (run fItoa f198 (fAt (atC (nat_lit 3) (nat_lit 9))) (rn (nat_lit 3) (nat_lit 9) zp3 rho3) noF (nat_lit 100) (nat_lit 9) inp0 hE) = true := by kernel_rfl
end Go.X1
