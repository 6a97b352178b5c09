/-
  THE FUNCTION known ANSWERS true, in any world.
-/
import Derived.Test.YtokieeiohfcgdaaAiTab
namespace Go.Proofs.Ytokieeiohfcgdaa.Ae
open Go.AE
set_option maxRecDepth 1000000
theorem envKnown1 [Rho] : EnvOk (envL 35) := envL_ok (by kernel_rfl) (by kernel_rfl)
end Go.Proofs.Ytokieeiohfcgdaa.Ae
