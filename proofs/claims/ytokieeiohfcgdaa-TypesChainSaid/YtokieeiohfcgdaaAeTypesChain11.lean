/-
  TypesChain: runs of the evaluator, part 12 of 20.
-/
import Derived.Test.YtokieeiohfcgdaaAeTypesChain0
namespace Go.Proofs.Ytokieeiohfcgdaa.Ae
open Go.AE Go.RowKit
set_option maxRecDepth 1000000
theorem typesChain_7_48 : span (typesChainRun 7) 1 48 = true := by kernel_rfl
theorem typesChain_9_48 : span (typesChainRun 9) 8 48 = true := by kernel_rfl
theorem typesChain_11_96 : span (typesChainRun 11) 8 96 = true := by kernel_rfl
theorem typesChain_13_8 : span (typesChainRun 13) 8 8 = true := by kernel_rfl
theorem typesChain_13_152 : span (typesChainRun 13) 8 152 = true := by kernel_rfl
theorem typesChain_14_56 : span (typesChainRun 14) 8 56 = true := by kernel_rfl
theorem typesChain_15_24 : span (typesChainRun 15) 8 24 = true := by kernel_rfl
theorem typesChain_15_120 : span (typesChainRun 15) 8 120 = true := by kernel_rfl
end Go.Proofs.Ytokieeiohfcgdaa.Ae
