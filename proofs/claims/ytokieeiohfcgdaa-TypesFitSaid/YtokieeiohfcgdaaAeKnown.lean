/-
  THE FUNCTION known ANSWERS true, in any world.
-/
import Derived.Test.YtokieeiohfcgdaaAeOrc
import Derived.Test.YtokieeiohfcgdaaAeEnv
namespace Go.Proofs.Ytokieeiohfcgdaa.Ae
open Go.AE
set_option maxRecDepth 1000000
theorem knownRun : yes (AE.call (envOf Try.prog) 1000000 14 [] ⟨.nil, 0⟩) = true := by kernel_rfl
theorem envKnown : EnvOk (envK Try.prog 14) := envK_ok env (by kernel_rfl) fun w => top env knownRun (LRel.nil _) w
end Go.Proofs.Ytokieeiohfcgdaa.Ae
