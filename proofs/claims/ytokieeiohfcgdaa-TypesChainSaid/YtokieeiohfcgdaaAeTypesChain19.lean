/-
  TypesChain: runs of the evaluator, part 20 of 20.
-/
import Derived.Test.YtokieeiohfcgdaaAeTypesChain0
namespace Go.Proofs.Ytokieeiohfcgdaa.Ae
open Go.AE Go.RowKit
set_option maxRecDepth 1000000
theorem typesChain_10_72 : span (typesChainRun 10) 8 72 = true := by kernel_rfl
theorem typesChain_11_40 : span (typesChainRun 11) 8 40 = true := by kernel_rfl
theorem typesChain_12_48 : span (typesChainRun 12) 8 48 = true := by kernel_rfl
theorem typesChain_13_72 : span (typesChainRun 13) 8 72 = true := by kernel_rfl
theorem typesChain_14_120 : span (typesChainRun 14) 8 120 = true := by kernel_rfl
theorem typesChain_15_88 : span (typesChainRun 15) 8 88 = true := by kernel_rfl
theorem typesChain_15_184 : span (typesChainRun 15) 8 184 = true := by kernel_rfl
end Go.Proofs.Ytokieeiohfcgdaa.Ae
