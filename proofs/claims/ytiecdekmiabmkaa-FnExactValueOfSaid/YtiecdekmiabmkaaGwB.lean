/-
  Walks, made by wip/gen: B
-/
import Derived.Test.YtiecdekmiabmkaaGpB
import Derived.Test.YtiecdekmiabmkaaGwA
set_option linter.unusedVariables false
set_option linter.unusedSimpArgs false
namespace Go.Proofs.Ytiecdekmiabmkaa
open Go.Abs
attribute [local irreducible] AT AOps FC DR DN
set_option maxRecDepth 10000
set_option maxHeartbeats 4000000



end Go.Proofs.Ytiecdekmiabmkaa
