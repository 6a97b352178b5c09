/-
  ClassBounds, the longest run: 200 instructions.
-/
import Derived.Test.YtiecclkgjcnaoaaAeKnown
namespace Go.Proofs.Ytiecclkgjcnaoaa.Ae
open Go.AE
set_option maxRecDepth 1000000
theorem bounds20 : yes (AE.call (envK Try.prog 6) 1000000 5 [.rest .u8 4 2, .rest .u8 2 0] ⟨.nil, 0⟩) = true := by kernel_rfl
end Go.Proofs.Ytiecclkgjcnaoaa.Ae
