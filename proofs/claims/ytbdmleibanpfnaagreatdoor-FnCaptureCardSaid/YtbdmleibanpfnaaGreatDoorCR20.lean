/-
  Evaluations.
-/
import Derived.Test.YtbdmleibanpfnaaGreatDoorCW
import Derived.KernelRfl
set_option linter.all false
set_option linter.all false
set_option maxRecDepth 100000
namespace Go.X1
theorem evy5_4 : isRes x5 (oCallP gY (nat_lit 23) (kn (nat_lit 5) (nat_lit 4) x5).a (kn (nat_lit 5) (nat_lit 4) x5).h fun v h => ret1 v h) = true := by kernel_rfl
theorem evy5_5 : isRes x5 (oCallP gY (nat_lit 23) (kn (nat_lit 5) (nat_lit 5) x5).a (kn (nat_lit 5) (nat_lit 5) x5).h fun v h => ret1 v h) = true := by kernel_rfl
theorem evy5_6 : isRes x5 (oCallP gY (nat_lit 23) (kn (nat_lit 5) (nat_lit 6) x5).a (kn (nat_lit 5) (nat_lit 6) x5).h fun v h => ret1 v h) = true := by kernel_rfl
end Go.X1
