/-
  THE EVALUATOR'S TABLE OF FUNCTIONS, as literals; it is the one that is reckoned out.
-/
import Derived.Test.YtokieeiohfcgdaaAiEnv
import Derived.Test.YtokieeiohfcgdaaAiFast2
namespace Go.Proofs.Ytokieeiohfcgdaa.Ae
open Go.AE Go.RowKit
set_option maxRecDepth 1000000
noncomputable def e0 : FnE := ⟨Try.f0, 0, 0, []⟩
noncomputable def e1 : FnE := ⟨Try.f1, 0, 0, []⟩
noncomputable def e2 : FnE := ⟨Try.f2, 1, 0, []⟩
noncomputable def e3 : FnE := ⟨Try.f3, 129, 281475010658247, [(15, ([0, 1, 2, 3, 4, 5, 6, 7, 8, 9], [0, 1, 0, 7, 0, 16, 0, 112, 15, 511])), (16, ([0, 1, 2, 3, 4, 5, 6, 7, 8, 10, 11, 12, 9, 13, 14, 15, 16, 17, 18, 19, 20, 21, 22, 23, 25, 26, 27, 28, 29, 30, 24, 31, 32, 33, 34, 35, 36, 37, 38, 41, 42, 39, 40, 43, 44, 45, 46, 47, 48, 49, 50, 51, 52, 53, 54, 55, 56, 57, 58, 59, 60, 61, 62, 63, 64, 65, 66, 67, 68, 69, 70, 71, 72], [0, 0, 0, 6, 14, 0, 0, 96, 224, 511, 0, 0, 3072, 8191, 16383, 32767, 32767, 32767, 229375, 491519, 32767, 32767, 3178495, 7372799, 16777215, 32767, 32767, 32767, 201359359, 503349247, 1040220159, 2147483647, 4294967295, 8589934591, 17179869183, 17179869183, 17179869183, 120259084287, 257698037759, 549755813887, 1099511627775, 17179869183, 2216203124735, 8796093022207, 17592186044415, 35184372088831, 70368744177663, 70368744177663, 70368744177663, 492581209243647, 1055531162664959, 2251799813685247, 4503599627370495, 9007199254740991, 18014398509481983, 36028797018963967, 36028797018963967, 36028797018963967, 252201579132747775, 540431955284459519, 1152921504606846975, 2305843009213693951, 4611686018427387903, 9223372036854775807, 18446744073709551615, 18446744073709551615, 18446744073709551615, 129127208515966861311, 276701161105643274239, 590295810358705651711, 1180591620717411303423, 2361183241434822606847, 4722366482869645213695]))]⟩
noncomputable def e4 : FnE := ⟨Try.f4, 75, 18018796556523507, [(9, ([0, 1, 2, 3, 4, 5, 6, 7, 8, 9, 10, 11, 12, 13], [0, 0, 2, 0, 14, 0, 32, 0, 224, 480, 1022, 2046, 4095, 8191]))]⟩
noncomputable def e5 : FnE := ⟨Try.f5, 67, 68719543805, []⟩
noncomputable def e6 : FnE := ⟨Try.f6, 105, 19342813113834066812174279, [(11, ([0, 1, 2, 3, 4, 5, 6, 7, 8, 9, 10, 11, 12, 13, 14, 15, 16, 17, 18, 19, 20, 21], [0, 1, 3, 7, 15, 31, 63, 63, 191, 447, 63, 2047, 4095, 8191, 16383, 16383, 16383, 81919, 212991, 524287, 1048575, 2097151])), (13, ([0, 1, 2, 3, 4, 5, 6, 8, 7, 9, 10, 11, 12, 13, 15, 16, 17, 14, 18, 19, 20], [0, 0, 2, 6, 0, 16, 48, 127, 0, 511, 1023, 2047, 4095, 8191, 16383, 2047, 34815, 100351, 262143, 524287, 1048575]))]⟩
noncomputable def e7 : FnE := ⟨Try.f7, 135, 83076749736557389631005679920660383, [(11, ([0, 1, 2, 3, 4, 5, 6, 7, 8, 9, 11, 10, 12, 13, 14, 15, 16, 17, 18, 19, 20, 21, 22, 23, 24, 25, 26, 27, 28, 29, 30, 31, 32, 34, 36, 37, 38, 39, 40, 33, 35, 41, 42, 43, 44], [0, 0, 0, 0, 14, 31, 63, 127, 127, 127, 1023, 127, 4095, 8191, 16383, 32767, 32767, 32767, 262143, 524287, 1048575, 2097151, 4194303, 4194303, 4194303, 33554431, 67108863, 134217727, 268435455, 536870911, 536870911, 536870911, 536870911, 8053063679, 536870911, 34359738367, 536870911, 536870911, 536870911, 536870911, 536870911, 1992864825343, 4398046511103, 8796093022207, 17592186044415]))]⟩
noncomputable def e8 : FnE := ⟨Try.f8, 154, 590296091833682754623, [(9, ([0, 2, 3, 4, 5, 1, 6, 7, 8, 9, 11, 12, 10, 13, 14, 15, 16, 17, 18, 19, 21, 22, 20, 23, 24, 25, 26, 27, 28, 29, 31, 32, 33, 30, 34, 35, 36, 37, 38, 39, 40, 42, 43, 44, 41, 45, 46, 47, 48, 49, 50, 51, 53, 54, 55, 52, 56, 57, 58, 59, 60, 61, 62, 64, 65, 66, 63, 67, 68, 69, 70, 71, 73, 72, 74, 75, 76, 77], [0, 1, 0, 4, 12, 28, 63, 127, 255, 255, 1023, 255, 255, 8191, 16383, 32767, 65535, 131071, 262143, 262143, 1048575, 262143, 262143, 8388607, 16777215, 33554431, 67108863, 134217727, 134217727, 134217727, 1073741823, 134217727, 134217727, 134217727, 17179869183, 34359738367, 68719476735, 137438953471, 274877906943, 274877906943, 274877906943, 2199023255551, 274877906943, 274877906943, 274877906943, 35184372088831, 70368744177663, 140737488355327, 281474976710655, 562949953421311, 562949953421311, 562949953421311, 4503599627370495, 562949953421311, 562949953421311, 562949953421311, 72057594037927935, 144115188075855871, 288230376151711743, 576460752303423487, 1152921504606846975, 1152921504606846975, 1152921504606846975, 9223372036854775807, 1152921504606846975, 1152921504606846975, 1152921504606846975, 147573952589676412927, 295147905179352825855, 590295810358705651711, 1180591620717411303423, 2361183241434822606847, 4722366482869645213695, 2361183241434822606847, 18889465931478580854783, 37778931862957161709567, 75557863725914323419135, 151115727451828646838271]))]⟩
noncomputable def e9 : FnE := ⟨Try.f9, 64, 4218867, []⟩
noncomputable def e10 : FnE := ⟨Try.f10, 67, 144678138031393523, []⟩
noncomputable def e11 : FnE := ⟨Try.f11, 61, 68720537587, []⟩
noncomputable def e12 : FnE := ⟨Try.f12, 103, 72057594037930995, []⟩
noncomputable def e13 : FnE := ⟨Try.f13, 54, 7, [(1, ([0, 1, 2, 4, 3, 5, 6, 7, 8, 9, 10, 12, 13, 11, 14, 15, 16, 17, 18, 19, 21, 22, 20, 23, 24, 25, 26, 27, 28, 30, 31, 29, 32, 33, 34, 35, 36, 37, 39, 40, 38, 41, 42, 43, 44, 45, 47, 46, 48, 49, 50, 51], [0, 1, 3, 7, 3, 31, 63, 127, 255, 511, 1023, 2047, 511, 4607, 16383, 32767, 65535, 131071, 262143, 524287, 1048575, 262143, 2359295, 8388607, 16777215, 33554431, 67108863, 134217727, 268435455, 536870911, 134217727, 1207959551, 4294967295, 8589934591, 17179869183, 34359738367, 68719476735, 137438953471, 274877906943, 68719476735, 618475290623, 2199023255551, 4398046511103, 8796093022207, 17592186044415, 35184372088831, 70368744177663, 35184372088831, 281474976710655, 562949953421311, 1125899906842623, 2251799813685247]))]⟩
noncomputable def e14 : FnE := ⟨Try.f14, 41, 23, []⟩
noncomputable def e15 : FnE := ⟨Try.f15, 100, 167895759572861162755530962419, [(14, ([0, 1, 2, 3, 4, 5, 6, 7, 8, 9], [0, 1, 3, 7, 0, 0, 0, 96, 224, 511]))]⟩
noncomputable def e16 : FnE := ⟨Try.f16, 12, 71, []⟩
noncomputable def e17 : FnE := ⟨Try.f17, 23, 1079623, []⟩
noncomputable def e18 : FnE := ⟨Try.f18, 23, 33331, []⟩
noncomputable def e19 : FnE := ⟨Try.f19, 8, 5, []⟩
noncomputable def e20 : FnE := ⟨Try.f20, 58, 268437751, []⟩
noncomputable def e21 : FnE := ⟨Try.f21, 12, 183, []⟩
noncomputable def e22 : FnE := ⟨Try.f22, 19, 32909, []⟩
noncomputable def e23 : FnE := ⟨Try.f23, 25, 155, []⟩
noncomputable def e24 : FnE := ⟨Try.f24, 54, 1125908513588727, []⟩
noncomputable def e25 : FnE := ⟨Try.f25, 127, 42540488481364977359088846478897192947, [(16, ([0, 1, 2, 3, 4, 5, 6, 7, 8, 9, 10, 12, 13, 14, 15, 16, 17, 11, 18, 19, 20, 21, 22, 23, 24], [0, 0, 0, 4, 12, 28, 0, 0, 192, 448, 960, 2044, 0, 4096, 12288, 28672, 0, 65536, 262140, 524285, 1048573, 2097149, 4194303, 8388607, 16777215]))]⟩
noncomputable def e26 : FnE := ⟨Try.f26, 26, 33571891, [(6, ([0, 1, 2, 3, 4, 5, 6, 7, 8], [0, 0, 3, 7, 0, 0, 48, 112, 255]))]⟩
noncomputable def e27 : FnE := ⟨Try.f27, 17, 83, []⟩
noncomputable def e28 : FnE := ⟨Try.f28, 25, 8392755, []⟩
noncomputable def e29 : FnE := ⟨Try.f29, 34, 8390771, []⟩
noncomputable def e30 : FnE := ⟨Try.f30, 24, 8421831, []⟩
noncomputable def e31 : FnE := ⟨Try.f31, 29, 16810439, []⟩
noncomputable def e32 : FnE := ⟨Try.f32, 52, 17448306935, []⟩
noncomputable def e33 : FnE := ⟨Try.f33, 77, 70644729381367, [(1, ([0, 1, 2, 3, 4, 5, 6, 7, 8, 9, 10, 11, 12, 13, 14, 15, 16, 17], [0, 1, 3, 7, 15, 31, 63, 127, 0, 256, 768, 1807, 3855, 7951, 16143, 32527, 4095, 131071]))]⟩
noncomputable def e34 : FnE := ⟨Try.f34, 12, 183, []⟩
noncomputable def e35 : FnE := ⟨Try.f35, 34, 23, []⟩
noncomputable def e36 : FnE := ⟨Try.f36, 42, 8607695453, []⟩
noncomputable def e37 : FnE := ⟨Try.f37, 50, 1099528470845, []⟩
noncomputable def e38 : FnE := ⟨Try.f38, 39, 17180983805, []⟩
noncomputable def e39 : FnE := ⟨Try.f39, 73, 2361507799744018137085, []⟩
noncomputable def e40 : FnE := ⟨Try.f40, 26, 33571891, [(6, ([0, 1, 2, 3, 4, 5, 6, 7, 8], [0, 0, 3, 7, 0, 0, 48, 112, 255]))]⟩
noncomputable def e41 : FnE := ⟨Try.f41, 23, 143, [(5, ([0, 1, 4, 5, 2, 3, 6, 7, 8], [0, 1, 3, 7, 0, 16, 55, 127, 255]))]⟩
noncomputable def e42 : FnE := ⟨Try.f42, 29, 268960285, []⟩
noncomputable def e43 : FnE := ⟨Try.f43, 6, 5, []⟩
noncomputable def e44 : FnE := ⟨Try.f44, 17, 5, []⟩
noncomputable def e45 : FnE := ⟨Try.f45, 21, 359, []⟩
noncomputable def e46 : FnE := ⟨Try.f46, 28, 15, []⟩
noncomputable def e47 : FnE := ⟨Try.f47, 29, 268960285, []⟩
noncomputable def e48 : FnE := ⟨Try.f48, 17, 5, []⟩
noncomputable def e49 : FnE := ⟨Try.f49, 13, 5, []⟩
noncomputable def e50 : FnE := ⟨Try.f50, 23, 29, []⟩
noncomputable def e51 : FnE := ⟨Try.f51, 23, 29, []⟩
noncomputable def e52 : FnE := ⟨Try.f52, 21, 551, [(5, ([0, 1, 4, 5, 2, 3, 6, 7, 8], [0, 1, 3, 7, 0, 16, 55, 127, 255]))]⟩
noncomputable def e53 : FnE := ⟨Try.f53, 28, 34668557, []⟩
noncomputable def e54 : FnE := ⟨Try.f54, 23, 16563, []⟩
noncomputable def e55 : FnE := ⟨Try.f55, 9, 19, []⟩
noncomputable def e56 : FnE := ⟨Try.f56, 8, 21, []⟩
noncomputable def e57 : FnE := ⟨Try.f57, 11, 7, []⟩
noncomputable def e58 : FnE := ⟨Try.f58, 25, 65677, []⟩
noncomputable def e59 : FnE := ⟨Try.f59, 3, 1, []⟩
noncomputable def e60 : FnE := ⟨Try.f60, 17, 35, []⟩
noncomputable def e61 : FnE := ⟨Try.f61, 14, 3, []⟩
noncomputable def e62 : FnE := ⟨Try.f62, 8, 5, []⟩
noncomputable def e63 : FnE := ⟨Try.f63, 20, 83, []⟩
noncomputable def e64 : FnE := ⟨Try.f64, 7, 5, []⟩
noncomputable def e65 : FnE := ⟨Try.f65, 11, 51, []⟩
noncomputable def e66 : FnE := ⟨Try.f66, 51, 9071107309821, []⟩
noncomputable def e67 : FnE := ⟨Try.f67, 8, 5, []⟩
noncomputable def e68 : FnE := ⟨Try.f68, 39, 2684355059, []⟩
noncomputable def e69 : FnE := ⟨Try.f69, 26, 1053, []⟩
noncomputable def e70 : FnE := ⟨Try.f70, 58, 70437463662717, []⟩
noncomputable def e71 : FnE := ⟨Try.f71, 8, 13, []⟩
noncomputable def e72 : FnE := ⟨Try.f72, 29, 10486045, []⟩
noncomputable def e73 : FnE := ⟨Try.f73, 8, 13, []⟩
noncomputable def e74 : FnE := ⟨Try.f74, 28, 20971805, []⟩
noncomputable def e75 : FnE := ⟨Try.f75, 25, 5, []⟩
noncomputable def e76 : FnE := ⟨Try.f76, 13, 5, []⟩
noncomputable def e77 : FnE := ⟨Try.f77, 19, 66483, []⟩
noncomputable def e78 : FnE := ⟨Try.f78, 39, 19, []⟩
noncomputable def e79 : FnE := ⟨Try.f79, 39, 2684355059, []⟩
noncomputable def e80 : FnE := ⟨Try.f80, 17, 4157, []⟩
noncomputable def e81 : FnE := ⟨Try.f81, 57, 70385924055165, []⟩
noncomputable def e82 : FnE := ⟨Try.f82, 30, 8307, []⟩
noncomputable def e83 : FnE := ⟨Try.f83, 1, 0, []⟩
noncomputable def e84 : FnE := ⟨Try.f84, 1, 0, []⟩
noncomputable def e85 : FnE := ⟨Try.f85, 1, 0, []⟩
noncomputable def e86 : FnE := ⟨Try.f86, 1, 0, []⟩
noncomputable def e87 : FnE := ⟨Try.f87, 1, 0, []⟩
noncomputable def e88 : FnE := ⟨Try.f88, 1, 0, []⟩
noncomputable def e89 : FnE := ⟨Try.f89, 1, 0, []⟩
noncomputable def e90 : FnE := ⟨Try.f90, 1, 0, []⟩
noncomputable def e91 : FnE := ⟨Try.f91, 1, 0, []⟩
noncomputable def e92 : FnE := ⟨Try.f92, 1, 0, []⟩
noncomputable def e93 : FnE := ⟨Try.f93, 1, 0, []⟩
noncomputable def e94 : FnE := ⟨Try.f94, 1, 0, []⟩
noncomputable def e95 : FnE := ⟨Try.f95, 1, 0, []⟩
noncomputable def e96 : FnE := ⟨Try.f96, 1, 0, []⟩
noncomputable def e97 : FnE := ⟨Try.f97, 1, 0, []⟩
noncomputable def e98 : FnE := ⟨Try.f98, 1, 0, []⟩
noncomputable def e99 : FnE := ⟨Try.f99, 1, 0, []⟩
noncomputable def tab : Tr FnE := (.node (.node (.node (.node (.node (.node (.node .nil (some e63) .nil) (some e31) (.node .nil (some e95) .nil)) (some e15) (.node (.node .nil (some e79) .nil) (some e47) .nil)) (some e7) (.node (.node (.node .nil (some e71) .nil) (some e39) .nil) (some e23) (.node (.node .nil (some e87) .nil) (some e55) .nil))) (some e3) (.node (.node (.node (.node .nil (some e67) .nil) (some e35) (.node .nil (some e99) .nil)) (some e19) (.node (.node .nil (some e83) .nil) (some e51) .nil)) (some e11) (.node (.node (.node .nil (some e75) .nil) (some e43) .nil) (some e27) (.node (.node .nil (some e91) .nil) (some e59) .nil)))) (some e1) (.node (.node (.node (.node (.node .nil (some e65) .nil) (some e33) (.node .nil (some e97) .nil)) (some e17) (.node (.node .nil (some e81) .nil) (some e49) .nil)) (some e9) (.node (.node (.node .nil (some e73) .nil) (some e41) .nil) (some e25) (.node (.node .nil (some e89) .nil) (some e57) .nil))) (some e5) (.node (.node (.node (.node .nil (some e69) .nil) (some e37) .nil) (some e21) (.node (.node .nil (some e85) .nil) (some e53) .nil)) (some e13) (.node (.node (.node .nil (some e77) .nil) (some e45) .nil) (some e29) (.node (.node .nil (some e93) .nil) (some e61) .nil))))) (some e0) (.node (.node (.node (.node (.node (.node .nil (some e64) .nil) (some e32) (.node .nil (some e96) .nil)) (some e16) (.node (.node .nil (some e80) .nil) (some e48) .nil)) (some e8) (.node (.node (.node .nil (some e72) .nil) (some e40) .nil) (some e24) (.node (.node .nil (some e88) .nil) (some e56) .nil))) (some e4) (.node (.node (.node (.node .nil (some e68) .nil) (some e36) .nil) (some e20) (.node (.node .nil (some e84) .nil) (some e52) .nil)) (some e12) (.node (.node (.node .nil (some e76) .nil) (some e44) .nil) (some e28) (.node (.node .nil (some e92) .nil) (some e60) .nil)))) (some e2) (.node (.node (.node (.node (.node .nil (some e66) .nil) (some e34) (.node .nil (some e98) .nil)) (some e18) (.node (.node .nil (some e82) .nil) (some e50) .nil)) (some e10) (.node (.node (.node .nil (some e74) .nil) (some e42) .nil) (some e26) (.node (.node .nil (some e90) .nil) (some e58) .nil))) (some e6) (.node (.node (.node (.node .nil (some e70) .nil) (some e38) .nil) (some e22) (.node (.node .nil (some e86) .nil) (some e54) .nil)) (some e14) (.node (.node (.node .nil (some e78) .nil) (some e46) .nil) (some e30) (.node (.node .nil (some e94) .nil) (some e62) .nil))))))
theorem tab_eq : fnsOf Try.prog = tab := by kernel_rfl
/-- The tables as literals, and one function without arguments that is known to answer true. -/
noncomputable def envL (K : FuncId) : Env :=
  { P := Try.prog, fns := tab, tys := tysOf Try.prog, orc := fun f args => bif Nat.beq f K then (match args with
    | [] => some (.bool true, [])
    | _ :: _ => none) else none }
theorem envL_ok [Rho] {K : FuncId} (hb : hasBody Try.prog K = true) (h : yes (R.run { P := Try.prog, fns := tab, tys := tysOf Try.prog, orc := fun _ _ => none } 1000000 K [] ⟨.nil, 0⟩) = true) : EnvOk (envL K) := by
  have e : envL K = envK Try.prog K := by
    unfold envL envK
    rw [tab_eq]
    rfl
  rw [← tab_eq] at h
  rw [e]
  exact envK_ok env hb fun w => R.top env h (LRel.nil _) w
end Go.Proofs.Ytokieeiohfcgdaa.Ae
