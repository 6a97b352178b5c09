/-
  THE FUNCTION known ANSWERS true, in any world.
-/
import Derived.Test.YtejmdglmldjliaaAiTab
namespace Go.Proofs.Ytejmdglmldjliaa.Ae
open Go.AE
set_option maxRecDepth 1000000
theorem envKnown [Rho] : EnvOk (envL 13) := envL_ok (by kernel_rfl) (by kernel_rfl)
end Go.Proofs.Ytejmdglmldjliaa.Ae
