/-
  Evaluations.
-/
import Derived.Test.YtbdmleibanpfnaaGreatDoorCW
import Derived.KernelRfl
set_option linter.all false
set_option linter.all false
set_option maxRecDepth 100000
namespace Go.X1
theorem evl4_0 : isT (run fItoa f198 (fAt (atC (nat_lit 4) (nat_lit 0))) (rn (nat_lit 4) (nat_lit 0) zp4 rho4) noF (nat_lit 100) (nat_lit 9) inp0 hE) = true := by kernel_rfl
theorem evl4_1 : isT (run fItoa f198 (fAt (atC (nat_lit 4) (nat_lit 1))) (rn (nat_lit 4) (nat_lit 1) zp4 rho4) noF (nat_lit 100) (nat_lit 9) inp0 hE) = true := by kernel_rfl
theorem evl4_2 : isT (run fItoa f198 (fAt (atC (nat_lit 4) (nat_lit 2))) (rn (nat_lit 4) (nat_lit 2) zp4 rho4) noF (nat_lit 100) (nat_lit 9) inp0 hE) = true := by kernel_rfl
theorem evl4_3 : isT (run fItoa f198 (fAt (atC (nat_lit 4) (nat_lit 3))) (rn (nat_lit 4) (nat_lit 3) zp4 rho4) noF (nat_lit 100) (nat_lit 9) inp0 hE) = true := by kernel_rfl
theorem evl4_4 : isT (run fItoa f198 (fAt (atC (nat_lit 4) (nat_lit 4))) (rn (nat_lit 4) (nat_lit 4) zp4 rho4) noF (nat_lit 100) (nat_lit 9) inp0 hE) = true := by kernel_rfl
theorem evl4_5 : isT (run fItoa f198 (fAt (atC (nat_lit 4) (nat_lit 5))) (rn (nat_lit 4) (nat_lit 5) zp4 rho4) noF (nat_lit 100) (nat_lit 9) inp0 hE) = true := by kernel_rfl
theorem evl4_6 : isT (run fItoa f198 (fAt (atC (nat_lit 4) (nat_lit 6))) (rn (nat_lit 4) (nat_lit 6) zp4 rho4) noF (nat_lit 100) (nat_lit 9) inp0 hE) = true := by kernel_rfl
theorem evl4_7 : isT (run fItoa f198 (fAt (atC (nat_lit 4) (nat_lit 7))) (rn (nat_lit 4) (nat_lit 7) zp4 rho4) noF (nat_lit 100) (nat_lit 9) inp0 hE) = true := by kernel_rfl
theorem evl4_8 : isT (run fItoa f198 (fAt (atC (nat_lit 4) (nat_lit 8))) (rn (nat_lit 4) (nat_lit 8) zp4 rho4) noF (nat_lit 100) (nat_lit 9) inp0 hE) = true := by kernel_rfl
theorem evl4_9 : isT (run fItoa f198 (fAt (atC (nat_lit 4) (nat_lit 9))) (rn (nat_lit 4) (nat_lit 9) zp4 rho4) noF (nat_lit 100) (nat_lit 9) inp0 hE) = true := by kernel_rfl
theorem evl5_0 : isT (run fItoa f198 (fAt (atC (nat_lit 5) (nat_lit 0))) (rn (nat_lit 5) (nat_lit 0) zp5 rho5) noF (nat_lit 100) (nat_lit 9) inp0 hE) = true := by kernel_rfl
theorem evl5_1 : isT (run fItoa f198 (fAt (atC (nat_lit 5) (nat_lit 1))) (rn (nat_lit 5) (nat_lit 1) zp5 rho5) noF (nat_lit 100) (nat_lit 9) inp0 hE) = true := by kernel_rfl
theorem evl5_2 : isT (run fItoa f198 (fAt (atC (nat_lit 5) (nat_lit 2))) (rn (nat_lit 5) (nat_lit 2) zp5 rho5) noF (nat_lit 100) (nat_lit 9) inp0 hE) = true := by kernel_rfl
theorem evl5_3 : isT (run fItoa f198 (fAt (atC (nat_lit 5) (nat_lit 3))) (rn (nat_lit 5) (nat_lit 3) zp5 rho5) noF (nat_lit 100) (nat_lit 9) inp0 hE) = true := by kernel_rfl
theorem evl5_4 : isT (run fItoa f198 (fAt (atC (nat_lit 5) (nat_lit 4))) (rn (nat_lit 5) (nat_lit 4) zp5 rho5) noF (nat_lit 100) (nat_lit 9) inp0 hE) = true := by kernel_rfl
theorem evl5_5 : isT (run fItoa f198 (fAt (atC (nat_lit 5) (nat_lit 5))) (rn (nat_lit 5) (nat_lit 5) zp5 rho5) noF (nat_lit 100) (nat_lit 9) inp0 hE) = true := by kernel_rfl
theorem evl5_6 : isT (run fItoa f198 (fAt (atC (nat_lit 5) (nat_lit 6))) (rn (nat_lit 5) (nat_lit 6) zp5 rho5) noF (nat_lit 100) (nat_lit 9) inp0 hE) = true := by kernel_rfl
theorem evl5_7 : isT (run fItoa f198 (fAt (atC (nat_lit 5) (nat_lit 7))) (rn (nat_lit 5) (nat_lit 7) zp5 rho5) noF (nat_lit 100) (nat_lit 9) inp0 hE) = true := by kernel_rfl
theorem evl5_8 : isT (run fItoa f198 (fAt (atC (nat_lit 5) (nat_lit 8))) (rn (nat_lit 5) (nat_lit 8) zp5 rho5) noF (nat_lit 100) (nat_lit 9) inp0 hE) = true := by kernel_rfl
theorem evl5_9 : isT (run fItoa f198 (fAt (atC (nat_lit 5) (nat_lit 9))) (rn (nat_lit 5) (nat_lit 9) zp5 rho5) noF (nat_lit 100) (nat_lit 9) inp0 hE) = true := by kernel_rfl
end Go.X1
