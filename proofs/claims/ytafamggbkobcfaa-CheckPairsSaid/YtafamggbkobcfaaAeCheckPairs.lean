/-
  CheckPairs: every run ends in true; so does the model's call.
-/
import Derived.Test.YtafamggbkobcfaaAeCheckPairs0
import Derived.Test.YtafamggbkobcfaaAeCheckPairs1
import Derived.Test.YtafamggbkobcfaaAeCheckPairs2
import Derived.Test.YtafamggbkobcfaaAeCheckPairs3
import Derived.Test.YtafamggbkobcfaaAeCheckPairs4
import Derived.Test.YtafamggbkobcfaaAeCheckPairs5
import Derived.Test.YtafamggbkobcfaaAeCheckPairs6
import Derived.Test.YtafamggbkobcfaaAeCheckPairs7
import Derived.Test.YtafamggbkobcfaaAeCheckPairs8
namespace Go.Proofs.Ytafamggbkobcfaa.Ae
open Go.AE Go.RowKit
set_option maxRecDepth 1000000
theorem checkPairs_all (i : Nat) (h : i < 200) : checkPairsRun i = true := by
  by_cases h0 : i < 8
  · exact span_spec checkPairs_0 i (by omega) (by omega)
  by_cases h8 : i < 16
  · exact span_spec checkPairs_8 i (by omega) (by omega)
  by_cases h16 : i < 24
  · exact span_spec checkPairs_16 i (by omega) (by omega)
  by_cases h24 : i < 32
  · exact span_spec checkPairs_24 i (by omega) (by omega)
  by_cases h32 : i < 40
  · exact span_spec checkPairs_32 i (by omega) (by omega)
  by_cases h40 : i < 48
  · exact span_spec checkPairs_40 i (by omega) (by omega)
  by_cases h48 : i < 56
  · exact span_spec checkPairs_48 i (by omega) (by omega)
  by_cases h56 : i < 64
  · exact span_spec checkPairs_56 i (by omega) (by omega)
  by_cases h64 : i < 72
  · exact span_spec checkPairs_64 i (by omega) (by omega)
  by_cases h72 : i < 80
  · exact span_spec checkPairs_72 i (by omega) (by omega)
  by_cases h80 : i < 88
  · exact span_spec checkPairs_80 i (by omega) (by omega)
  by_cases h88 : i < 96
  · exact span_spec checkPairs_88 i (by omega) (by omega)
  by_cases h96 : i < 104
  · exact span_spec checkPairs_96 i (by omega) (by omega)
  by_cases h104 : i < 112
  · exact span_spec checkPairs_104 i (by omega) (by omega)
  by_cases h112 : i < 120
  · exact span_spec checkPairs_112 i (by omega) (by omega)
  by_cases h120 : i < 128
  · exact span_spec checkPairs_120 i (by omega) (by omega)
  by_cases h128 : i < 136
  · exact span_spec checkPairs_128 i (by omega) (by omega)
  by_cases h136 : i < 144
  · exact span_spec checkPairs_136 i (by omega) (by omega)
  by_cases h144 : i < 152
  · exact span_spec checkPairs_144 i (by omega) (by omega)
  by_cases h152 : i < 160
  · exact span_spec checkPairs_152 i (by omega) (by omega)
  by_cases h160 : i < 168
  · exact span_spec checkPairs_160 i (by omega) (by omega)
  by_cases h168 : i < 176
  · exact span_spec checkPairs_168 i (by omega) (by omega)
  by_cases h176 : i < 184
  · exact span_spec checkPairs_176 i (by omega) (by omega)
  by_cases h184 : i < 192
  · exact span_spec checkPairs_184 i (by omega) (by omega)
  exact span_spec checkPairs_192 i (by omega) (by omega)
theorem checkPairs (a0 : Int) (a1 : Int) (a2 : Int) (w0 : (Lit.int .u8 a0).wf = true) (w1 : (Lit.int .u8 a1).wf = true) (w2 : (Lit.int .u8 a2).wf = true) (w : World) : Calls Try.prog 7 #[.int .u8 a0, .int .u8 a1, .int .u8 a2] w fun e w' => e = .returned (.bool true) ∧ Below w.heap.size w w' := by
  obtain ⟨n0, hn0, rfl⟩ := byte_of w0
  obtain ⟨n1, hn1, rfl⟩ := byte_of w1
  obtain ⟨n2, hn2, rfl⟩ := byte_of w2
  have h := checkPairs_all (n0 % 5 * 1 + n1 % 5 * 5 + n2 % 8 * 25) (by omega)
  unfold checkPairsRun at h
  have e0 : Nat.mod (Nat.div (n0 % 5 * 1 + n1 % 5 * 5 + n2 % 8 * 25) 1) 5 = n0 % 5 := by
    show (n0 % 5 * 1 + n1 % 5 * 5 + n2 % 8 * 25) / 1 % 5 = n0 % 5
    omega
  have e1 : Nat.mod (Nat.div (n0 % 5 * 1 + n1 % 5 * 5 + n2 % 8 * 25) 5) 5 = n1 % 5 := by
    show (n0 % 5 * 1 + n1 % 5 * 5 + n2 % 8 * 25) / 5 % 5 = n1 % 5
    omega
  have e2 : Nat.mod (Nat.div (n0 % 5 * 1 + n1 % 5 * 5 + n2 % 8 * 25) 25) 8 = n2 % 8 := by
    show (n0 % 5 * 1 + n1 % 5 * 5 + n2 % 8 * 25) / 25 % 8 = n2 % 8
    omega
  rw [e0, e1, e2] at h
  exact R.top envKnown h (LRel.cons (.rest _ hn0 rfl) (LRel.cons (.rest _ hn1 rfl) (LRel.cons (.rest _ hn2 rfl) (LRel.nil _)))) w
end Go.Proofs.Ytafamggbkobcfaa.Ae
