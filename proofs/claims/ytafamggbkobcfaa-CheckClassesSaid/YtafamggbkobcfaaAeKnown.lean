/-
  THE FUNCTION known ANSWERS true, in any world.
-/
import Derived.Test.YtafamggbkobcfaaAeTab
namespace Go.Proofs.Ytafamggbkobcfaa.Ae
open Go.AE
set_option maxRecDepth 1000000
theorem envKnown : EnvOk (envL 8) := envL_ok (by kernel_rfl) (by kernel_rfl)
end Go.Proofs.Ytafamggbkobcfaa.Ae
