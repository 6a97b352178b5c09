/-
  THE FUNCTION known ANSWERS true, in any world.
-/
import Derived.Test.YtiecclkgjcnaoaaAhTab
namespace Go.Proofs.Ytiecclkgjcnaoaa.Ae
open Go.AE
set_option maxRecDepth 1000000
theorem envKnown [Rho] : EnvOk (envL 6) := envL_ok (by kernel_rfl) (by kernel_rfl)
end Go.Proofs.Ytiecclkgjcnaoaa.Ae
