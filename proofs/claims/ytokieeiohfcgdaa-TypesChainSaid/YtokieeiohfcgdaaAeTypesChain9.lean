/-
  TypesChain: runs of the evaluator, part 10 of 20.
-/
import Derived.Test.YtokieeiohfcgdaaAeTypesChain0
namespace Go.Proofs.Ytokieeiohfcgdaa.Ae
open Go.AE Go.RowKit
set_option maxRecDepth 1000000
theorem typesChain_6_16 : span (typesChainRun 6) 16 16 = true := by kernel_rfl
theorem typesChain_9_24 : span (typesChainRun 9) 8 24 = true := by kernel_rfl
theorem typesChain_11_80 : span (typesChainRun 11) 8 80 = true := by kernel_rfl
theorem typesChain_12_88 : span (typesChainRun 12) 8 88 = true := by kernel_rfl
theorem typesChain_13_168 : span (typesChainRun 13) 1 168 = true := by kernel_rfl
theorem typesChain_14_40 : span (typesChainRun 14) 8 40 = true := by kernel_rfl
theorem typesChain_15_8 : span (typesChainRun 15) 8 8 = true := by kernel_rfl
theorem typesChain_15_104 : span (typesChainRun 15) 8 104 = true := by kernel_rfl
end Go.Proofs.Ytokieeiohfcgdaa.Ae
