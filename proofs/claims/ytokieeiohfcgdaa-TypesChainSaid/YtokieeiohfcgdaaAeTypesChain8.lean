/-
  TypesChain: runs of the evaluator, part 9 of 20.
-/
import Derived.Test.YtokieeiohfcgdaaAeTypesChain0
namespace Go.Proofs.Ytokieeiohfcgdaa.Ae
open Go.AE Go.RowKit
set_option maxRecDepth 1000000
theorem typesChain_6_0 : span (typesChainRun 6) 16 0 = true := by kernel_rfl
theorem typesChain_9_16 : span (typesChainRun 9) 8 16 = true := by kernel_rfl
theorem typesChain_11_72 : span (typesChainRun 11) 8 72 = true := by kernel_rfl
theorem typesChain_12_80 : span (typesChainRun 12) 8 80 = true := by kernel_rfl
theorem typesChain_14_32 : span (typesChainRun 14) 8 32 = true := by kernel_rfl
theorem typesChain_15_0 : span (typesChainRun 15) 8 0 = true := by kernel_rfl
theorem typesChain_15_96 : span (typesChainRun 15) 8 96 = true := by kernel_rfl
theorem typesChain_15_224 : span (typesChainRun 15) 1 224 = true := by kernel_rfl
end Go.Proofs.Ytokieeiohfcgdaa.Ae
