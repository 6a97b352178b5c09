/-
  TypesChain: runs of the evaluator, part 8 of 20.
-/
import Derived.Test.YtokieeiohfcgdaaAeTypesChain0
namespace Go.Proofs.Ytokieeiohfcgdaa.Ae
open Go.AE Go.RowKit
set_option maxRecDepth 1000000
theorem typesChain_6_32 : span (typesChainRun 6) 4 32 = true := by kernel_rfl
theorem typesChain_7_32 : span (typesChainRun 7) 16 32 = true := by kernel_rfl
theorem typesChain_9_8 : span (typesChainRun 9) 8 8 = true := by kernel_rfl
theorem typesChain_11_64 : span (typesChainRun 11) 8 64 = true := by kernel_rfl
theorem typesChain_12_72 : span (typesChainRun 12) 8 72 = true := by kernel_rfl
theorem typesChain_13_96 : span (typesChainRun 13) 8 96 = true := by kernel_rfl
theorem typesChain_14_144 : span (typesChainRun 14) 8 144 = true := by kernel_rfl
theorem typesChain_15_208 : span (typesChainRun 15) 8 208 = true := by kernel_rfl
end Go.Proofs.Ytokieeiohfcgdaa.Ae
