/-
  TypesChain: every run ends in true; so does the model's call.
-/
import Derived.Test.YtokieeiohfcgdaaAeTypesChain0
import Derived.Test.YtokieeiohfcgdaaAeTypesChain1
import Derived.Test.YtokieeiohfcgdaaAeTypesChain2
import Derived.Test.YtokieeiohfcgdaaAeTypesChain3
import Derived.Test.YtokieeiohfcgdaaAeTypesChain4
import Derived.Test.YtokieeiohfcgdaaAeTypesChain5
import Derived.Test.YtokieeiohfcgdaaAeTypesChain6
import Derived.Test.YtokieeiohfcgdaaAeTypesChain7
import Derived.Test.YtokieeiohfcgdaaAeTypesChain8
import Derived.Test.YtokieeiohfcgdaaAeTypesChain9
import Derived.Test.YtokieeiohfcgdaaAeTypesChain10
import Derived.Test.YtokieeiohfcgdaaAeTypesChain11
import Derived.Test.YtokieeiohfcgdaaAeTypesChain12
import Derived.Test.YtokieeiohfcgdaaAeTypesChain13
import Derived.Test.YtokieeiohfcgdaaAeTypesChain14
import Derived.Test.YtokieeiohfcgdaaAeTypesChain15
import Derived.Test.YtokieeiohfcgdaaAeTypesChain16
import Derived.Test.YtokieeiohfcgdaaAeTypesChain17
import Derived.Test.YtokieeiohfcgdaaAeTypesChain18
import Derived.Test.YtokieeiohfcgdaaAeTypesChain19
namespace Go.Proofs.Ytokieeiohfcgdaa.Ae
open Go.AE Go.RowKit
set_option maxRecDepth 1000000
theorem typesChain_k1 (i : Nat) (h : i < 1) : typesChainRun 1 i = true := by
  exact span_spec typesChain_1_0 i (by omega) (by omega)
theorem typesChain_k2 (i : Nat) (h : i < 4) : typesChainRun 2 i = true := by
  exact span_spec typesChain_2_0 i (by omega) (by omega)
theorem typesChain_k3 (i : Nat) (h : i < 9) : typesChainRun 3 i = true := by
  exact span_spec typesChain_3_0 i (by omega) (by omega)
theorem typesChain_k4 (i : Nat) (h : i < 16) : typesChainRun 4 i = true := by
  exact span_spec typesChain_4_0 i (by omega) (by omega)
theorem typesChain_k5 (i : Nat) (h : i < 25) : typesChainRun 5 i = true := by
  exact span_spec typesChain_5_0 i (by omega) (by omega)
theorem typesChain_k6 (i : Nat) (h : i < 36) : typesChainRun 6 i = true := by
  by_cases h0 : i < 16
  · exact span_spec typesChain_6_0 i (by omega) (by omega)
  by_cases h16 : i < 32
  · exact span_spec typesChain_6_16 i (by omega) (by omega)
  exact span_spec typesChain_6_32 i (by omega) (by omega)
theorem typesChain_k7 (i : Nat) (h : i < 49) : typesChainRun 7 i = true := by
  by_cases h0 : i < 16
  · exact span_spec typesChain_7_0 i (by omega) (by omega)
  by_cases h16 : i < 32
  · exact span_spec typesChain_7_16 i (by omega) (by omega)
  by_cases h32 : i < 48
  · exact span_spec typesChain_7_32 i (by omega) (by omega)
  exact span_spec typesChain_7_48 i (by omega) (by omega)
theorem typesChain_k8 (i : Nat) (h : i < 64) : typesChainRun 8 i = true := by
  by_cases h0 : i < 16
  · exact span_spec typesChain_8_0 i (by omega) (by omega)
  by_cases h16 : i < 32
  · exact span_spec typesChain_8_16 i (by omega) (by omega)
  by_cases h32 : i < 48
  · exact span_spec typesChain_8_32 i (by omega) (by omega)
  exact span_spec typesChain_8_48 i (by omega) (by omega)
theorem typesChain_k9 (i : Nat) (h : i < 81) : typesChainRun 9 i = true := by
  by_cases h0 : i < 8
  · exact span_spec typesChain_9_0 i (by omega) (by omega)
  by_cases h8 : i < 16
  · exact span_spec typesChain_9_8 i (by omega) (by omega)
  by_cases h16 : i < 24
  · exact span_spec typesChain_9_16 i (by omega) (by omega)
  by_cases h24 : i < 32
  · exact span_spec typesChain_9_24 i (by omega) (by omega)
  by_cases h32 : i < 40
  · exact span_spec typesChain_9_32 i (by omega) (by omega)
  by_cases h40 : i < 48
  · exact span_spec typesChain_9_40 i (by omega) (by omega)
  by_cases h48 : i < 56
  · exact span_spec typesChain_9_48 i (by omega) (by omega)
  by_cases h56 : i < 64
  · exact span_spec typesChain_9_56 i (by omega) (by omega)
  by_cases h64 : i < 72
  · exact span_spec typesChain_9_64 i (by omega) (by omega)
  by_cases h72 : i < 80
  · exact span_spec typesChain_9_72 i (by omega) (by omega)
  exact span_spec typesChain_9_80 i (by omega) (by omega)
theorem typesChain_k10 (i : Nat) (h : i < 100) : typesChainRun 10 i = true := by
  by_cases h0 : i < 8
  · exact span_spec typesChain_10_0 i (by omega) (by omega)
  by_cases h8 : i < 16
  · exact span_spec typesChain_10_8 i (by omega) (by omega)
  by_cases h16 : i < 24
  · exact span_spec typesChain_10_16 i (by omega) (by omega)
  by_cases h24 : i < 32
  · exact span_spec typesChain_10_24 i (by omega) (by omega)
  by_cases h32 : i < 40
  · exact span_spec typesChain_10_32 i (by omega) (by omega)
  by_cases h40 : i < 48
  · exact span_spec typesChain_10_40 i (by omega) (by omega)
  by_cases h48 : i < 56
  · exact span_spec typesChain_10_48 i (by omega) (by omega)
  by_cases h56 : i < 64
  · exact span_spec typesChain_10_56 i (by omega) (by omega)
  by_cases h64 : i < 72
  · exact span_spec typesChain_10_64 i (by omega) (by omega)
  by_cases h72 : i < 80
  · exact span_spec typesChain_10_72 i (by omega) (by omega)
  by_cases h80 : i < 88
  · exact span_spec typesChain_10_80 i (by omega) (by omega)
  by_cases h88 : i < 96
  · exact span_spec typesChain_10_88 i (by omega) (by omega)
  exact span_spec typesChain_10_96 i (by omega) (by omega)
theorem typesChain_k11 (i : Nat) (h : i < 121) : typesChainRun 11 i = true := by
  by_cases h0 : i < 8
  · exact span_spec typesChain_11_0 i (by omega) (by omega)
  by_cases h8 : i < 16
  · exact span_spec typesChain_11_8 i (by omega) (by omega)
  by_cases h16 : i < 24
  · exact span_spec typesChain_11_16 i (by omega) (by omega)
  by_cases h24 : i < 32
  · exact span_spec typesChain_11_24 i (by omega) (by omega)
  by_cases h32 : i < 40
  · exact span_spec typesChain_11_32 i (by omega) (by omega)
  by_cases h40 : i < 48
  · exact span_spec typesChain_11_40 i (by omega) (by omega)
  by_cases h48 : i < 56
  · exact span_spec typesChain_11_48 i (by omega) (by omega)
  by_cases h56 : i < 64
  · exact span_spec typesChain_11_56 i (by omega) (by omega)
  by_cases h64 : i < 72
  · exact span_spec typesChain_11_64 i (by omega) (by omega)
  by_cases h72 : i < 80
  · exact span_spec typesChain_11_72 i (by omega) (by omega)
  by_cases h80 : i < 88
  · exact span_spec typesChain_11_80 i (by omega) (by omega)
  by_cases h88 : i < 96
  · exact span_spec typesChain_11_88 i (by omega) (by omega)
  by_cases h96 : i < 104
  · exact span_spec typesChain_11_96 i (by omega) (by omega)
  by_cases h104 : i < 112
  · exact span_spec typesChain_11_104 i (by omega) (by omega)
  by_cases h112 : i < 120
  · exact span_spec typesChain_11_112 i (by omega) (by omega)
  exact span_spec typesChain_11_120 i (by omega) (by omega)
theorem typesChain_k12 (i : Nat) (h : i < 144) : typesChainRun 12 i = true := by
  by_cases h0 : i < 8
  · exact span_spec typesChain_12_0 i (by omega) (by omega)
  by_cases h8 : i < 16
  · exact span_spec typesChain_12_8 i (by omega) (by omega)
  by_cases h16 : i < 24
  · exact span_spec typesChain_12_16 i (by omega) (by omega)
  by_cases h24 : i < 32
  · exact span_spec typesChain_12_24 i (by omega) (by omega)
  by_cases h32 : i < 40
  · exact span_spec typesChain_12_32 i (by omega) (by omega)
  by_cases h40 : i < 48
  · exact span_spec typesChain_12_40 i (by omega) (by omega)
  by_cases h48 : i < 56
  · exact span_spec typesChain_12_48 i (by omega) (by omega)
  by_cases h56 : i < 64
  · exact span_spec typesChain_12_56 i (by omega) (by omega)
  by_cases h64 : i < 72
  · exact span_spec typesChain_12_64 i (by omega) (by omega)
  by_cases h72 : i < 80
  · exact span_spec typesChain_12_72 i (by omega) (by omega)
  by_cases h80 : i < 88
  · exact span_spec typesChain_12_80 i (by omega) (by omega)
  by_cases h88 : i < 96
  · exact span_spec typesChain_12_88 i (by omega) (by omega)
  by_cases h96 : i < 104
  · exact span_spec typesChain_12_96 i (by omega) (by omega)
  by_cases h104 : i < 112
  · exact span_spec typesChain_12_104 i (by omega) (by omega)
  by_cases h112 : i < 120
  · exact span_spec typesChain_12_112 i (by omega) (by omega)
  by_cases h120 : i < 128
  · exact span_spec typesChain_12_120 i (by omega) (by omega)
  by_cases h128 : i < 136
  · exact span_spec typesChain_12_128 i (by omega) (by omega)
  exact span_spec typesChain_12_136 i (by omega) (by omega)
theorem typesChain_k13 (i : Nat) (h : i < 169) : typesChainRun 13 i = true := by
  by_cases h0 : i < 8
  · exact span_spec typesChain_13_0 i (by omega) (by omega)
  by_cases h8 : i < 16
  · exact span_spec typesChain_13_8 i (by omega) (by omega)
  by_cases h16 : i < 24
  · exact span_spec typesChain_13_16 i (by omega) (by omega)
  by_cases h24 : i < 32
  · exact span_spec typesChain_13_24 i (by omega) (by omega)
  by_cases h32 : i < 40
  · exact span_spec typesChain_13_32 i (by omega) (by omega)
  by_cases h40 : i < 48
  · exact span_spec typesChain_13_40 i (by omega) (by omega)
  by_cases h48 : i < 56
  · exact span_spec typesChain_13_48 i (by omega) (by omega)
  by_cases h56 : i < 64
  · exact span_spec typesChain_13_56 i (by omega) (by omega)
  by_cases h64 : i < 72
  · exact span_spec typesChain_13_64 i (by omega) (by omega)
  by_cases h72 : i < 80
  · exact span_spec typesChain_13_72 i (by omega) (by omega)
  by_cases h80 : i < 88
  · exact span_spec typesChain_13_80 i (by omega) (by omega)
  by_cases h88 : i < 96
  · exact span_spec typesChain_13_88 i (by omega) (by omega)
  by_cases h96 : i < 104
  · exact span_spec typesChain_13_96 i (by omega) (by omega)
  by_cases h104 : i < 112
  · exact span_spec typesChain_13_104 i (by omega) (by omega)
  by_cases h112 : i < 120
  · exact span_spec typesChain_13_112 i (by omega) (by omega)
  by_cases h120 : i < 128
  · exact span_spec typesChain_13_120 i (by omega) (by omega)
  by_cases h128 : i < 136
  · exact span_spec typesChain_13_128 i (by omega) (by omega)
  by_cases h136 : i < 144
  · exact span_spec typesChain_13_136 i (by omega) (by omega)
  by_cases h144 : i < 152
  · exact span_spec typesChain_13_144 i (by omega) (by omega)
  by_cases h152 : i < 160
  · exact span_spec typesChain_13_152 i (by omega) (by omega)
  by_cases h160 : i < 168
  · exact span_spec typesChain_13_160 i (by omega) (by omega)
  exact span_spec typesChain_13_168 i (by omega) (by omega)
theorem typesChain_k14 (i : Nat) (h : i < 196) : typesChainRun 14 i = true := by
  by_cases h0 : i < 8
  · exact span_spec typesChain_14_0 i (by omega) (by omega)
  by_cases h8 : i < 16
  · exact span_spec typesChain_14_8 i (by omega) (by omega)
  by_cases h16 : i < 24
  · exact span_spec typesChain_14_16 i (by omega) (by omega)
  by_cases h24 : i < 32
  · exact span_spec typesChain_14_24 i (by omega) (by omega)
  by_cases h32 : i < 40
  · exact span_spec typesChain_14_32 i (by omega) (by omega)
  by_cases h40 : i < 48
  · exact span_spec typesChain_14_40 i (by omega) (by omega)
  by_cases h48 : i < 56
  · exact span_spec typesChain_14_48 i (by omega) (by omega)
  by_cases h56 : i < 64
  · exact span_spec typesChain_14_56 i (by omega) (by omega)
  by_cases h64 : i < 72
  · exact span_spec typesChain_14_64 i (by omega) (by omega)
  by_cases h72 : i < 80
  · exact span_spec typesChain_14_72 i (by omega) (by omega)
  by_cases h80 : i < 88
  · exact span_spec typesChain_14_80 i (by omega) (by omega)
  by_cases h88 : i < 96
  · exact span_spec typesChain_14_88 i (by omega) (by omega)
  by_cases h96 : i < 104
  · exact span_spec typesChain_14_96 i (by omega) (by omega)
  by_cases h104 : i < 112
  · exact span_spec typesChain_14_104 i (by omega) (by omega)
  by_cases h112 : i < 120
  · exact span_spec typesChain_14_112 i (by omega) (by omega)
  by_cases h120 : i < 128
  · exact span_spec typesChain_14_120 i (by omega) (by omega)
  by_cases h128 : i < 136
  · exact span_spec typesChain_14_128 i (by omega) (by omega)
  by_cases h136 : i < 144
  · exact span_spec typesChain_14_136 i (by omega) (by omega)
  by_cases h144 : i < 152
  · exact span_spec typesChain_14_144 i (by omega) (by omega)
  by_cases h152 : i < 160
  · exact span_spec typesChain_14_152 i (by omega) (by omega)
  by_cases h160 : i < 168
  · exact span_spec typesChain_14_160 i (by omega) (by omega)
  by_cases h168 : i < 176
  · exact span_spec typesChain_14_168 i (by omega) (by omega)
  by_cases h176 : i < 184
  · exact span_spec typesChain_14_176 i (by omega) (by omega)
  by_cases h184 : i < 192
  · exact span_spec typesChain_14_184 i (by omega) (by omega)
  exact span_spec typesChain_14_192 i (by omega) (by omega)
theorem typesChain_k15 (i : Nat) (h : i < 225) : typesChainRun 15 i = true := by
  by_cases h0 : i < 8
  · exact span_spec typesChain_15_0 i (by omega) (by omega)
  by_cases h8 : i < 16
  · exact span_spec typesChain_15_8 i (by omega) (by omega)
  by_cases h16 : i < 24
  · exact span_spec typesChain_15_16 i (by omega) (by omega)
  by_cases h24 : i < 32
  · exact span_spec typesChain_15_24 i (by omega) (by omega)
  by_cases h32 : i < 40
  · exact span_spec typesChain_15_32 i (by omega) (by omega)
  by_cases h40 : i < 48
  · exact span_spec typesChain_15_40 i (by omega) (by omega)
  by_cases h48 : i < 56
  · exact span_spec typesChain_15_48 i (by omega) (by omega)
  by_cases h56 : i < 64
  · exact span_spec typesChain_15_56 i (by omega) (by omega)
  by_cases h64 : i < 72
  · exact span_spec typesChain_15_64 i (by omega) (by omega)
  by_cases h72 : i < 80
  · exact span_spec typesChain_15_72 i (by omega) (by omega)
  by_cases h80 : i < 88
  · exact span_spec typesChain_15_80 i (by omega) (by omega)
  by_cases h88 : i < 96
  · exact span_spec typesChain_15_88 i (by omega) (by omega)
  by_cases h96 : i < 104
  · exact span_spec typesChain_15_96 i (by omega) (by omega)
  by_cases h104 : i < 112
  · exact span_spec typesChain_15_104 i (by omega) (by omega)
  by_cases h112 : i < 120
  · exact span_spec typesChain_15_112 i (by omega) (by omega)
  by_cases h120 : i < 128
  · exact span_spec typesChain_15_120 i (by omega) (by omega)
  by_cases h128 : i < 136
  · exact span_spec typesChain_15_128 i (by omega) (by omega)
  by_cases h136 : i < 144
  · exact span_spec typesChain_15_136 i (by omega) (by omega)
  by_cases h144 : i < 152
  · exact span_spec typesChain_15_144 i (by omega) (by omega)
  by_cases h152 : i < 160
  · exact span_spec typesChain_15_152 i (by omega) (by omega)
  by_cases h160 : i < 168
  · exact span_spec typesChain_15_160 i (by omega) (by omega)
  by_cases h168 : i < 176
  · exact span_spec typesChain_15_168 i (by omega) (by omega)
  by_cases h176 : i < 184
  · exact span_spec typesChain_15_176 i (by omega) (by omega)
  by_cases h184 : i < 192
  · exact span_spec typesChain_15_184 i (by omega) (by omega)
  by_cases h192 : i < 200
  · exact span_spec typesChain_15_192 i (by omega) (by omega)
  by_cases h200 : i < 208
  · exact span_spec typesChain_15_200 i (by omega) (by omega)
  by_cases h208 : i < 216
  · exact span_spec typesChain_15_208 i (by omega) (by omega)
  by_cases h216 : i < 224
  · exact span_spec typesChain_15_216 i (by omega) (by omega)
  exact span_spec typesChain_15_224 i (by omega) (by omega)
theorem typesChain_all (k : Nat) (h0 : 0 < k) (h1 : k < 16) (i : Nat) (h : i < k * k) : typesChainRun k i = true := by
  match k, h0, h1 with
  | 1, _, _ => exact typesChain_k1 i h
  | 2, _, _ => exact typesChain_k2 i h
  | 3, _, _ => exact typesChain_k3 i h
  | 4, _, _ => exact typesChain_k4 i h
  | 5, _, _ => exact typesChain_k5 i h
  | 6, _, _ => exact typesChain_k6 i h
  | 7, _, _ => exact typesChain_k7 i h
  | 8, _, _ => exact typesChain_k8 i h
  | 9, _, _ => exact typesChain_k9 i h
  | 10, _, _ => exact typesChain_k10 i h
  | 11, _, _ => exact typesChain_k11 i h
  | 12, _, _ => exact typesChain_k12 i h
  | 13, _, _ => exact typesChain_k13 i h
  | 14, _, _ => exact typesChain_k14 i h
  | 15, _, _ => exact typesChain_k15 i h
  | k + 16, _, h1 => omega
theorem typesChain (a0 a1 a2 : Int) (w0 : (Lit.int .u8 a0).wf = true) (w1 : (Lit.int .u8 a1).wf = true) (w2 : (Lit.int .u8 a2).wf = true) (w : World) : Calls Try.prog 3 #[.int .u8 a0, .int .u8 a1, .int .u8 a2] w fun e w' => e = .returned (.bool true) ∧ Below w.heap.size w w' := by
  obtain ⟨n0, hn0, rfl⟩ := byte_of w0
  obtain ⟨n1, hn1, rfl⟩ := byte_of w1
  obtain ⟨n2, hn2, rfl⟩ := byte_of w2
  have hk : 0 < n0 % 15 + 1 := by omega
  have h1 : n1 % (n0 % 15 + 1) < n0 % 15 + 1 := Nat.mod_lt _ hk
  have h2 : n2 % (n0 % 15 + 1) < n0 % 15 + 1 := Nat.mod_lt _ hk
  have hi : n1 % (n0 % 15 + 1) * (n0 % 15 + 1) + n2 % (n0 % 15 + 1) < (n0 % 15 + 1) * (n0 % 15 + 1) := by
    calc n1 % (n0 % 15 + 1) * (n0 % 15 + 1) + n2 % (n0 % 15 + 1) < n1 % (n0 % 15 + 1) * (n0 % 15 + 1) + (n0 % 15 + 1) := by omega
      _ = (n1 % (n0 % 15 + 1) + 1) * (n0 % 15 + 1) := by rw [Nat.add_mul, Nat.one_mul]
      _ ≤ (n0 % 15 + 1) * (n0 % 15 + 1) := Nat.mul_le_mul_right _ h1
  have h := typesChain_all (n0 % 15 + 1) hk (by omega) _ hi
  unfold typesChainRun at h
  have e0 : Nat.sub (n0 % 15 + 1) 1 = n0 % 15 := by
    show n0 % 15 + 1 - 1 = n0 % 15
    omega
  have e1 : Nat.div (n1 % (n0 % 15 + 1) * (n0 % 15 + 1) + n2 % (n0 % 15 + 1)) (n0 % 15 + 1) = n1 % (n0 % 15 + 1) := by
    show (n1 % (n0 % 15 + 1) * (n0 % 15 + 1) + n2 % (n0 % 15 + 1)) / (n0 % 15 + 1) = n1 % (n0 % 15 + 1)
    rw [Nat.add_comm, Nat.add_mul_div_right _ _ hk, Nat.div_eq_of_lt h2, Nat.zero_add]
  have e2 : Nat.mod (n1 % (n0 % 15 + 1) * (n0 % 15 + 1) + n2 % (n0 % 15 + 1)) (n0 % 15 + 1) = n2 % (n0 % 15 + 1) := by
    show (n1 % (n0 % 15 + 1) * (n0 % 15 + 1) + n2 % (n0 % 15 + 1)) % (n0 % 15 + 1) = n2 % (n0 % 15 + 1)
    rw [Nat.add_comm, Nat.add_mul_mod_self_right, Nat.mod_eq_of_lt h2]
  rw [e0, e1, e2] at h
  exact R.top envKnown h (LRel.cons (.rest _ hn0 rfl) (LRel.cons (.rest _ hn1 rfl) (LRel.cons (.rest _ hn2 rfl) (LRel.nil _)))) w
end Go.Proofs.Ytokieeiohfcgdaa.Ae
