/-
  TypesChain: runs of the evaluator, part 5 of 20.
-/
import Derived.Test.YtokieeiohfcgdaaAeTypesChain0
namespace Go.Proofs.Ytokieeiohfcgdaa.Ae
open Go.AE Go.RowKit
set_option maxRecDepth 1000000
theorem typesChain_8_48 : span (typesChainRun 8) 16 48 = true := by kernel_rfl
theorem typesChain_10_8 : span (typesChainRun 10) 8 8 = true := by kernel_rfl
theorem typesChain_10_88 : span (typesChainRun 10) 8 88 = true := by kernel_rfl
theorem typesChain_12_112 : span (typesChainRun 12) 8 112 = true := by kernel_rfl
theorem typesChain_13_120 : span (typesChainRun 13) 8 120 = true := by kernel_rfl
theorem typesChain_14_16 : span (typesChainRun 14) 8 16 = true := by kernel_rfl
theorem typesChain_14_168 : span (typesChainRun 14) 8 168 = true := by kernel_rfl
end Go.Proofs.Ytokieeiohfcgdaa.Ae
