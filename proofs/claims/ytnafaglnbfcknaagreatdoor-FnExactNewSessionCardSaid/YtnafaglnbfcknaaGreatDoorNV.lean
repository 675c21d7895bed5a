/-
  The evaluation.
-/
import Derived.Test.YtnafaglnbfcknaaGreatDoorNT
import Derived.KernelRfl
set_option linter.all false
set_option linter.all false
set_option maxRecDepth 100000
namespace Go.X1
theorem ev : isT (run 100 3 .nl (.mk .lf 0 0)) = true := by kernel_rfl
end Go.X1
