/-
  TypesChain: runs of the evaluator, part 6 of 20.
-/
import Derived.Test.YtokieeiohfcgdaaAeTypesChain0
namespace Go.Proofs.Ytokieeiohfcgdaa.Ae
open Go.AE Go.RowKit
set_option maxRecDepth 1000000
theorem typesChain_2_0 : span (typesChainRun 2) 4 0 = true := by kernel_rfl
theorem typesChain_4_0 : span (typesChainRun 4) 16 0 = true := by kernel_rfl
theorem typesChain_7_0 : span (typesChainRun 7) 16 0 = true := by kernel_rfl
theorem typesChain_11_48 : span (typesChainRun 11) 8 48 = true := by kernel_rfl
theorem typesChain_12_56 : span (typesChainRun 12) 8 56 = true := by kernel_rfl
theorem typesChain_13_80 : span (typesChainRun 13) 8 80 = true := by kernel_rfl
theorem typesChain_14_128 : span (typesChainRun 14) 8 128 = true := by kernel_rfl
theorem typesChain_15_192 : span (typesChainRun 15) 8 192 = true := by kernel_rfl
end Go.Proofs.Ytokieeiohfcgdaa.Ae
