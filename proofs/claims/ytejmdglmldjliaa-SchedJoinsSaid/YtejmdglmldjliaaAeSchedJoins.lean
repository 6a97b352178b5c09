/-
  SchedJoins: every run ends in true; so does the model's call.
-/
import Derived.Test.YtejmdglmldjliaaAeSchedJoins0
import Derived.Test.YtejmdglmldjliaaAeSchedJoins1
import Derived.Test.YtejmdglmldjliaaAeSchedJoins2
import Derived.Test.YtejmdglmldjliaaAeSchedJoins3
import Derived.Test.YtejmdglmldjliaaAeSchedJoins4
import Derived.Test.YtejmdglmldjliaaAeSchedJoins5
import Derived.Test.YtejmdglmldjliaaAeSchedJoins6
import Derived.Test.YtejmdglmldjliaaAeSchedJoins7
import Derived.Test.YtejmdglmldjliaaAeSchedJoins8
import Derived.Test.YtejmdglmldjliaaAeSchedJoins9
namespace Go.Proofs.Ytejmdglmldjliaa.Ae
open Go.AE Go.RowKit
set_option maxRecDepth 1000000
theorem schedJoins_all (i : Nat) (h : i < 2560) : schedJoinsRun i = true := by
  by_cases h0 : i < 64
  · exact span_spec schedJoins_0 i (by omega) (by omega)
  by_cases h64 : i < 128
  · exact span_spec schedJoins_64 i (by omega) (by omega)
  by_cases h128 : i < 192
  · exact span_spec schedJoins_128 i (by omega) (by omega)
  by_cases h192 : i < 256
  · exact span_spec schedJoins_192 i (by omega) (by omega)
  by_cases h256 : i < 320
  · exact span_spec schedJoins_256 i (by omega) (by omega)
  by_cases h320 : i < 384
  · exact span_spec schedJoins_320 i (by omega) (by omega)
  by_cases h384 : i < 448
  · exact span_spec schedJoins_384 i (by omega) (by omega)
  by_cases h448 : i < 512
  · exact span_spec schedJoins_448 i (by omega) (by omega)
  by_cases h512 : i < 576
  · exact span_spec schedJoins_512 i (by omega) (by omega)
  by_cases h576 : i < 640
  · exact span_spec schedJoins_576 i (by omega) (by omega)
  by_cases h640 : i < 704
  · exact span_spec schedJoins_640 i (by omega) (by omega)
  by_cases h704 : i < 768
  · exact span_spec schedJoins_704 i (by omega) (by omega)
  by_cases h768 : i < 832
  · exact span_spec schedJoins_768 i (by omega) (by omega)
  by_cases h832 : i < 896
  · exact span_spec schedJoins_832 i (by omega) (by omega)
  by_cases h896 : i < 960
  · exact span_spec schedJoins_896 i (by omega) (by omega)
  by_cases h960 : i < 1024
  · exact span_spec schedJoins_960 i (by omega) (by omega)
  by_cases h1024 : i < 1088
  · exact span_spec schedJoins_1024 i (by omega) (by omega)
  by_cases h1088 : i < 1152
  · exact span_spec schedJoins_1088 i (by omega) (by omega)
  by_cases h1152 : i < 1216
  · exact span_spec schedJoins_1152 i (by omega) (by omega)
  by_cases h1216 : i < 1280
  · exact span_spec schedJoins_1216 i (by omega) (by omega)
  by_cases h1280 : i < 1344
  · exact span_spec schedJoins_1280 i (by omega) (by omega)
  by_cases h1344 : i < 1408
  · exact span_spec schedJoins_1344 i (by omega) (by omega)
  by_cases h1408 : i < 1472
  · exact span_spec schedJoins_1408 i (by omega) (by omega)
  by_cases h1472 : i < 1536
  · exact span_spec schedJoins_1472 i (by omega) (by omega)
  by_cases h1536 : i < 1600
  · exact span_spec schedJoins_1536 i (by omega) (by omega)
  by_cases h1600 : i < 1664
  · exact span_spec schedJoins_1600 i (by omega) (by omega)
  by_cases h1664 : i < 1728
  · exact span_spec schedJoins_1664 i (by omega) (by omega)
  by_cases h1728 : i < 1792
  · exact span_spec schedJoins_1728 i (by omega) (by omega)
  by_cases h1792 : i < 1856
  · exact span_spec schedJoins_1792 i (by omega) (by omega)
  by_cases h1856 : i < 1920
  · exact span_spec schedJoins_1856 i (by omega) (by omega)
  by_cases h1920 : i < 1984
  · exact span_spec schedJoins_1920 i (by omega) (by omega)
  by_cases h1984 : i < 2048
  · exact span_spec schedJoins_1984 i (by omega) (by omega)
  by_cases h2048 : i < 2112
  · exact span_spec schedJoins_2048 i (by omega) (by omega)
  by_cases h2112 : i < 2176
  · exact span_spec schedJoins_2112 i (by omega) (by omega)
  by_cases h2176 : i < 2240
  · exact span_spec schedJoins_2176 i (by omega) (by omega)
  by_cases h2240 : i < 2304
  · exact span_spec schedJoins_2240 i (by omega) (by omega)
  by_cases h2304 : i < 2368
  · exact span_spec schedJoins_2304 i (by omega) (by omega)
  by_cases h2368 : i < 2432
  · exact span_spec schedJoins_2368 i (by omega) (by omega)
  by_cases h2432 : i < 2496
  · exact span_spec schedJoins_2432 i (by omega) (by omega)
  exact span_spec schedJoins_2496 i (by omega) (by omega)
theorem schedJoins (a0 : Int) (a1 : Int) (w0 : (Lit.int .u8 a0).wf = true) (w1 : (Lit.int .u8 a1).wf = true) (w : World) : Calls Try.prog 6 #[.int .u8 a0, .int .u8 a1] w fun e w' => e = .returned (.bool true) ∧ Below w.heap.size w w' := by
  obtain ⟨n0, hn0, rfl⟩ := byte_of w0
  obtain ⟨n1, hn1, rfl⟩ := byte_of w1
  have h := schedJoins_all (n0 % 10 * 1 + n1 * 10) (by omega)
  unfold schedJoinsRun at h
  have e0 : Nat.mod (Nat.div (n0 % 10 * 1 + n1 * 10) 1) 10 = n0 % 10 := by
    show (n0 % 10 * 1 + n1 * 10) / 1 % 10 = n0 % 10
    omega
  have e1 : Nat.mod (Nat.div (n0 % 10 * 1 + n1 * 10) 10) 256 = n1 := by
    show (n0 % 10 * 1 + n1 * 10) / 10 % 256 = n1
    omega
  rw [e0, e1] at h
  exact R.top envKnown1 h (LRel.cons (.rest _ hn0 rfl) (LRel.cons (.int _ _) (LRel.nil _))) w
end Go.Proofs.Ytejmdglmldjliaa.Ae
