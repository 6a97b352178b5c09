/-
  THE FUNCTION known ANSWERS true, in any world.
-/
import Derived.Test.YtokieeiohfcgdaaAiTab
namespace Go.Proofs.Ytokieeiohfcgdaa.Ae
open Go.AE
set_option maxRecDepth 1000000
theorem envKnown [Rho] : EnvOk (envL 14) := envL_ok (by kernel_rfl) (by kernel_rfl)
end Go.Proofs.Ytokieeiohfcgdaa.Ae
