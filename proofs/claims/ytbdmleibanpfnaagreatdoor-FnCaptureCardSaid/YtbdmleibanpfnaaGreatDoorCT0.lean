/-
  Evaluations.
-/
import Derived.Test.YtbdmleibanpfnaaGreatDoorCW
import Derived.KernelRfl
set_option linter.all false
set_option linter.all false
set_option maxRecDepth 100000
namespace Go.X1
theorem evl0_0 : isT (run fItoa f198 (fAt (atC (nat_lit 0) (nat_lit 0))) (rn (nat_lit 0) (nat_lit 0) zp0 rho0) noF (nat_lit 100) (nat_lit 9) inp0 hE) = true := by kernel_rfl
theorem evl0_1 : isT (run fItoa f198 (fAt (atC (nat_lit 0) (nat_lit 1))) (rn (nat_lit 0) (nat_lit 1) zp0 rho0) noF (nat_lit 100) (nat_lit 9) inp0 hE) = true := by kernel_rfl
theorem evl0_2 : isT (run fItoa f198 (fAt (atC (nat_lit 0) (nat_lit 2))) (rn (nat_lit 0) (nat_lit 2) zp0 rho0) noF (nat_lit 100) (nat_lit 9) inp0 hE) = true := by kernel_rfl
theorem evl0_3 : isT (run fItoa f198 (fAt (atC (nat_lit 0) (nat_lit 3))) (rn (nat_lit 0) (nat_lit 3) zp0 rho0) noF (nat_lit 100) (nat_lit 9) inp0 hE) = true := by kernel_rfl
theorem evl0_4 : isT (run fItoa f198 (fAt (atC (nat_lit 0) (nat_lit 4))) (rn (nat_lit 0) (nat_lit 4) zp0 rho0) noF (nat_lit 100) (nat_lit 9) inp0 hE) = true := by kernel_rfl
theorem evl0_5 : isT (run fItoa f198 (fAt (atC (nat_lit 0) (nat_lit 5))) (rn (nat_lit 0) (nat_lit 5) zp0 rho0) noF (nat_lit 100) (nat_lit 9) inp0 hE) = true := by kernel_rfl
theorem evl0_6 : isT (run fItoa f198 (fAt (atC (nat_lit 0) (nat_lit 6))) (rn (nat_lit 0) (nat_lit 6) zp0 rho0) noF (nat_lit 100) (nat_lit 9) inp0 hE) = true := by kernel_rfl
theorem evl0_7 : isT (run fItoa f198 (fAt (atC (nat_lit 0) (nat_lit 7))) (rn (nat_lit 0) (nat_lit 7) zp0 rho0) noF (nat_lit 100) (nat_lit 9) inp0 hE) = true := by kernel_rfl
theorem evl0_8 : isT (run fItoa f198 (fAt (atC (nat_lit 0) (nat_lit 8))) (rn (nat_lit 0) (nat_lit 8) zp0 rho0) noF (nat_lit 100) (nat_lit 9) inp0 hE) = true := by kernel_rfl
theorem evl0_9 : isT (run fItoa f198 (fAt (atC (nat_lit 0) (nat_lit 9))) (rn (nat_lit 0) (nat_lit 9) zp0 rho0) noF (nat_lit 100) (nat_lit 9) inp0 hE) = true := by kernel_rfl
theorem evl1_0 : isT (run fItoa f198 (fAt (atC (nat_lit 1) (nat_lit 0))) (rn (nat_lit 1) (nat_lit 0) zp1 rho1) noF (nat_lit 100) (nat_lit 9) inp0 hE) = true := by kernel_rfl
theorem evl1_1 : isT (run fItoa f198 (fAt (atC (nat_lit 1) (nat_lit 1))) (rn (nat_lit 1) (nat_lit 1) zp1 rho1) noF (nat_lit 100) (nat_lit 9) inp0 hE) = true := by kernel_rfl
theorem evl1_2 : isT (run fItoa f198 (fAt (atC (nat_lit 1) (nat_lit 2))) (rn (nat_lit 1) (nat_lit 2) zp1 rho1) noF (nat_lit 100) (nat_lit 9) inp0 hE) = true := by kernel_rfl
theorem evl1_3 : isT (run fItoa f198 (fAt (atC (nat_lit 1) (nat_lit 3))) (rn (nat_lit 1) (nat_lit 3) zp1 rho1) noF (nat_lit 100) (nat_lit 9) inp0 hE) = true := by kernel_rfl
theorem evl1_4 : isT (run fItoa f198 (fAt (atC (nat_lit 1) (nat_lit 4))) (rn (nat_lit 1) (nat_lit 4) zp1 rho1) noF (nat_lit 100) (nat_lit 9) inp0 hE) = true := by kernel_rfl
theorem evl1_5 : isT (run fItoa f198 (fAt (atC (nat_lit 1) (nat_lit 5))) (rn (nat_lit 1) (nat_lit 5) zp1 rho1) noF (nat_lit 100) (nat_lit 9) inp0 hE) = true := by kernel_rfl
theorem evl1_6 : isT (run fItoa f198 (fAt (atC (nat_lit 1) (nat_lit 6))) (rn (nat_lit 1) (nat_lit 6) zp1 rho1) noF (nat_lit 100) (nat_lit 9) inp0 hE) = true := by kernel_rfl
theorem evl1_7 : isT (run fItoa f198 (fAt (atC (nat_lit 1) (nat_lit 7))) (rn (nat_lit 1) (nat_lit 7) zp1 rho1) noF (nat_lit 100) (nat_lit 9) inp0 hE) = true := by kernel_rfl
theorem evl1_8 : isT (run fItoa f198 (fAt (atC (nat_lit 1) (nat_lit 8))) (rn (nat_lit 1) (nat_lit 8) zp1 rho1) noF (nat_lit 100) (nat_lit 9) inp0 hE) = true := by kernel_rfl
theorem evl1_9 : isT (run fItoa f198 (fAt (atC (nat_lit 1) (nat_lit 9))) (rn (nat_lit 1) (nat_lit 9) zp1 rho1) noF (nat_lit 100) (nat_lit 9) inp0 hE) = true := by kernel_rfl
end Go.X1
