/-
  CodeOps: every run ends in true; so does the model's call.
-/
import Derived.Test.YtokieeiohfcgdaaAeCodeOps0
import Derived.Test.YtokieeiohfcgdaaAeCodeOps1
import Derived.Test.YtokieeiohfcgdaaAeCodeOps2
import Derived.Test.YtokieeiohfcgdaaAeCodeOps3
import Derived.Test.YtokieeiohfcgdaaAeCodeOps4
import Derived.Test.YtokieeiohfcgdaaAeCodeOps5
import Derived.Test.YtokieeiohfcgdaaAeCodeOps6
import Derived.Test.YtokieeiohfcgdaaAeCodeOps7
namespace Go.Proofs.Ytokieeiohfcgdaa.Ae
open Go.AE Go.RowKit
set_option maxRecDepth 1000000
theorem codeOps_all (i : Nat) (h : i < 2304) : codeOpsRun i = true := by
  by_cases h0 : i < 32
  · exact span_spec codeOps_0 i (by omega) (by omega)
  by_cases h32 : i < 64
  · exact span_spec codeOps_32 i (by omega) (by omega)
  by_cases h64 : i < 96
  · exact span_spec codeOps_64 i (by omega) (by omega)
  by_cases h96 : i < 128
  · exact span_spec codeOps_96 i (by omega) (by omega)
  by_cases h128 : i < 160
  · exact span_spec codeOps_128 i (by omega) (by omega)
  by_cases h160 : i < 192
  · exact span_spec codeOps_160 i (by omega) (by omega)
  by_cases h192 : i < 224
  · exact span_spec codeOps_192 i (by omega) (by omega)
  by_cases h224 : i < 256
  · exact span_spec codeOps_224 i (by omega) (by omega)
  by_cases h256 : i < 288
  · exact span_spec codeOps_256 i (by omega) (by omega)
  by_cases h288 : i < 320
  · exact span_spec codeOps_288 i (by omega) (by omega)
  by_cases h320 : i < 352
  · exact span_spec codeOps_320 i (by omega) (by omega)
  by_cases h352 : i < 384
  · exact span_spec codeOps_352 i (by omega) (by omega)
  by_cases h384 : i < 416
  · exact span_spec codeOps_384 i (by omega) (by omega)
  by_cases h416 : i < 448
  · exact span_spec codeOps_416 i (by omega) (by omega)
  by_cases h448 : i < 480
  · exact span_spec codeOps_448 i (by omega) (by omega)
  by_cases h480 : i < 512
  · exact span_spec codeOps_480 i (by omega) (by omega)
  by_cases h512 : i < 544
  · exact span_spec codeOps_512 i (by omega) (by omega)
  by_cases h544 : i < 576
  · exact span_spec codeOps_544 i (by omega) (by omega)
  by_cases h576 : i < 608
  · exact span_spec codeOps_576 i (by omega) (by omega)
  by_cases h608 : i < 640
  · exact span_spec codeOps_608 i (by omega) (by omega)
  by_cases h640 : i < 672
  · exact span_spec codeOps_640 i (by omega) (by omega)
  by_cases h672 : i < 704
  · exact span_spec codeOps_672 i (by omega) (by omega)
  by_cases h704 : i < 736
  · exact span_spec codeOps_704 i (by omega) (by omega)
  by_cases h736 : i < 768
  · exact span_spec codeOps_736 i (by omega) (by omega)
  by_cases h768 : i < 800
  · exact span_spec codeOps_768 i (by omega) (by omega)
  by_cases h800 : i < 832
  · exact span_spec codeOps_800 i (by omega) (by omega)
  by_cases h832 : i < 864
  · exact span_spec codeOps_832 i (by omega) (by omega)
  by_cases h864 : i < 896
  · exact span_spec codeOps_864 i (by omega) (by omega)
  by_cases h896 : i < 928
  · exact span_spec codeOps_896 i (by omega) (by omega)
  by_cases h928 : i < 960
  · exact span_spec codeOps_928 i (by omega) (by omega)
  by_cases h960 : i < 992
  · exact span_spec codeOps_960 i (by omega) (by omega)
  by_cases h992 : i < 1024
  · exact span_spec codeOps_992 i (by omega) (by omega)
  by_cases h1024 : i < 1056
  · exact span_spec codeOps_1024 i (by omega) (by omega)
  by_cases h1056 : i < 1088
  · exact span_spec codeOps_1056 i (by omega) (by omega)
  by_cases h1088 : i < 1120
  · exact span_spec codeOps_1088 i (by omega) (by omega)
  by_cases h1120 : i < 1152
  · exact span_spec codeOps_1120 i (by omega) (by omega)
  by_cases h1152 : i < 1184
  · exact span_spec codeOps_1152 i (by omega) (by omega)
  by_cases h1184 : i < 1216
  · exact span_spec codeOps_1184 i (by omega) (by omega)
  by_cases h1216 : i < 1248
  · exact span_spec codeOps_1216 i (by omega) (by omega)
  by_cases h1248 : i < 1280
  · exact span_spec codeOps_1248 i (by omega) (by omega)
  by_cases h1280 : i < 1312
  · exact span_spec codeOps_1280 i (by omega) (by omega)
  by_cases h1312 : i < 1344
  · exact span_spec codeOps_1312 i (by omega) (by omega)
  by_cases h1344 : i < 1376
  · exact span_spec codeOps_1344 i (by omega) (by omega)
  by_cases h1376 : i < 1408
  · exact span_spec codeOps_1376 i (by omega) (by omega)
  by_cases h1408 : i < 1440
  · exact span_spec codeOps_1408 i (by omega) (by omega)
  by_cases h1440 : i < 1472
  · exact span_spec codeOps_1440 i (by omega) (by omega)
  by_cases h1472 : i < 1504
  · exact span_spec codeOps_1472 i (by omega) (by omega)
  by_cases h1504 : i < 1536
  · exact span_spec codeOps_1504 i (by omega) (by omega)
  by_cases h1536 : i < 1568
  · exact span_spec codeOps_1536 i (by omega) (by omega)
  by_cases h1568 : i < 1600
  · exact span_spec codeOps_1568 i (by omega) (by omega)
  by_cases h1600 : i < 1632
  · exact span_spec codeOps_1600 i (by omega) (by omega)
  by_cases h1632 : i < 1664
  · exact span_spec codeOps_1632 i (by omega) (by omega)
  by_cases h1664 : i < 1696
  · exact span_spec codeOps_1664 i (by omega) (by omega)
  by_cases h1696 : i < 1728
  · exact span_spec codeOps_1696 i (by omega) (by omega)
  by_cases h1728 : i < 1760
  · exact span_spec codeOps_1728 i (by omega) (by omega)
  by_cases h1760 : i < 1792
  · exact span_spec codeOps_1760 i (by omega) (by omega)
  by_cases h1792 : i < 1824
  · exact span_spec codeOps_1792 i (by omega) (by omega)
  by_cases h1824 : i < 1856
  · exact span_spec codeOps_1824 i (by omega) (by omega)
  by_cases h1856 : i < 1888
  · exact span_spec codeOps_1856 i (by omega) (by omega)
  by_cases h1888 : i < 1920
  · exact span_spec codeOps_1888 i (by omega) (by omega)
  by_cases h1920 : i < 1952
  · exact span_spec codeOps_1920 i (by omega) (by omega)
  by_cases h1952 : i < 1984
  · exact span_spec codeOps_1952 i (by omega) (by omega)
  by_cases h1984 : i < 2016
  · exact span_spec codeOps_1984 i (by omega) (by omega)
  by_cases h2016 : i < 2048
  · exact span_spec codeOps_2016 i (by omega) (by omega)
  by_cases h2048 : i < 2080
  · exact span_spec codeOps_2048 i (by omega) (by omega)
  by_cases h2080 : i < 2112
  · exact span_spec codeOps_2080 i (by omega) (by omega)
  by_cases h2112 : i < 2144
  · exact span_spec codeOps_2112 i (by omega) (by omega)
  by_cases h2144 : i < 2176
  · exact span_spec codeOps_2144 i (by omega) (by omega)
  by_cases h2176 : i < 2208
  · exact span_spec codeOps_2176 i (by omega) (by omega)
  by_cases h2208 : i < 2240
  · exact span_spec codeOps_2208 i (by omega) (by omega)
  by_cases h2240 : i < 2272
  · exact span_spec codeOps_2240 i (by omega) (by omega)
  exact span_spec codeOps_2272 i (by omega) (by omega)
theorem codeOps (a0 : Int) (a1 : Int) (w0 : (Lit.int .u8 a0).wf = true) (w1 : (Lit.int .u8 a1).wf = true) (w : World) : Calls Try.prog 12 #[.int .u8 a0, .int .u8 a1] w fun e w' => e = .returned (.bool true) ∧ Below w.heap.size w w' := by
  obtain ⟨n0, hn0, rfl⟩ := byte_of w0
  obtain ⟨n1, hn1, rfl⟩ := byte_of w1
  have h := codeOps_all (n0 % 48 * 1 + n1 % 48 * 48) (by omega)
  unfold codeOpsRun at h
  have e0 : Nat.mod (Nat.div (n0 % 48 * 1 + n1 % 48 * 48) 1) 48 = n0 % 48 := by
    show (n0 % 48 * 1 + n1 % 48 * 48) / 1 % 48 = n0 % 48
    omega
  have e1 : Nat.mod (Nat.div (n0 % 48 * 1 + n1 % 48 * 48) 48) 48 = n1 % 48 := by
    show (n0 % 48 * 1 + n1 % 48 * 48) / 48 % 48 = n1 % 48
    omega
  rw [e0, e1] at h
  exact R.top envKnown1 h (LRel.cons (.rest _ hn0 rfl) (LRel.cons (.rest _ hn1 rfl) (LRel.nil _))) w
end Go.Proofs.Ytokieeiohfcgdaa.Ae
