/-
  THE EVALUATOR'S TABLE OF FUNCTIONS, as literals; it is the one that is reckoned out.
-/
import Derived.Test.YtejmdglmldjliaaAiEnv
import Derived.Test.YtejmdglmldjliaaAiFast2
namespace Go.Proofs.Ytejmdglmldjliaa.Ae
open Go.AE Go.RowKit
set_option maxRecDepth 1000000
noncomputable def e0 : FnE := ⟨Try.f0, 0, 0, []⟩
noncomputable def e1 : FnE := ⟨Try.f1, 0, 0, []⟩
noncomputable def e2 : FnE := ⟨Try.f2, 1, 0, []⟩
noncomputable def e3 : FnE := ⟨Try.f3, 62, 1077941757, []⟩
noncomputable def e4 : FnE := ⟨Try.f4, 94, 37779508886797193120125, [(28, ([0, 3, 4, 1, 2, 5, 6], [0, 1, 3, 0, 8, 31, 63]))]⟩
noncomputable def e5 : FnE := ⟨Try.f5, 89, 621255, []⟩
noncomputable def e6 : FnE := ⟨Try.f6, 119, 4722367048294039551731, []⟩
noncomputable def e7 : FnE := ⟨Try.f7, 159, 89202980794122492566147595457076350098440189, []⟩
noncomputable def e8 : FnE := ⟨Try.f8, 90, 562949954666439, []⟩
noncomputable def e9 : FnE := ⟨Try.f9, 210, 824409433518745104799311464262159819566040128303495805170352125, [(16, ([0, 1, 2, 3, 4, 6, 7, 8, 9, 10, 5, 11, 12], [0, 0, 2, 0, 8, 31, 0, 0, 128, 0, 512, 2047, 4095]))]⟩
noncomputable def e10 : FnE := ⟨Try.f10, 140, 696901112063573789850636289952098475244999, []⟩
noncomputable def e11 : FnE := ⟨Try.f11, 116, 5070602439291368651356984492019, []⟩
noncomputable def e12 : FnE := ⟨Try.f12, 203, 6427752177036691858561742655752590067998207715306324466073587, [(35, ([0, 1, 2, 3, 4, 5, 6, 7, 8, 10, 11, 12, 13, 14, 9, 15, 16], [0, 1, 3, 7, 7, 31, 63, 127, 255, 511, 255, 1279, 3327, 7423, 15615, 32767, 65535]))]⟩
noncomputable def e13 : FnE := ⟨Try.f13, 38, 599, []⟩
noncomputable def e14 : FnE := ⟨Try.f14, 3, 1, []⟩
noncomputable def e15 : FnE := ⟨Try.f15, 17, 35, []⟩
noncomputable def e16 : FnE := ⟨Try.f16, 8, 5, []⟩
noncomputable def e17 : FnE := ⟨Try.f17, 7, 5, []⟩
noncomputable def e18 : FnE := ⟨Try.f18, 57, 70385924055165, []⟩
noncomputable def e19 : FnE := ⟨Try.f19, 8, 5, []⟩
noncomputable def e20 : FnE := ⟨Try.f20, 13, 3, []⟩
noncomputable def e21 : FnE := ⟨Try.f21, 20, 83, []⟩
noncomputable def e22 : FnE := ⟨Try.f22, 18, 3, []⟩
noncomputable def e23 : FnE := ⟨Try.f23, 12, 19, []⟩
noncomputable def e24 : FnE := ⟨Try.f24, 27, 407651, []⟩
noncomputable def e25 : FnE := ⟨Try.f25, 10, 19, []⟩
noncomputable def e26 : FnE := ⟨Try.f26, 17, 115, []⟩
noncomputable def e27 : FnE := ⟨Try.f27, 14, 3, []⟩
noncomputable def e28 : FnE := ⟨Try.f28, 20, 83, []⟩
noncomputable def e29 : FnE := ⟨Try.f29, 37, 538969075, []⟩
noncomputable def e30 : FnE := ⟨Try.f30, 11, 51, []⟩
noncomputable def e31 : FnE := ⟨Try.f31, 69, 1279, []⟩
noncomputable def e32 : FnE := ⟨Try.f32, 3, 1, []⟩
noncomputable def e33 : FnE := ⟨Try.f33, 27, 77, []⟩
noncomputable def e34 : FnE := ⟨Try.f34, 37, 2228423, []⟩
noncomputable def e35 : FnE := ⟨Try.f35, 21, 4115, []⟩
noncomputable def e36 : FnE := ⟨Try.f36, 37, 268435655, []⟩
noncomputable def e37 : FnE := ⟨Try.f37, 56, 4398172344819, []⟩
noncomputable def e38 : FnE := ⟨Try.f38, 26, 33571891, [(6, ([0, 1, 2, 3, 4, 5, 6, 7, 8], [0, 0, 3, 7, 0, 0, 48, 112, 255]))]⟩
noncomputable def e39 : FnE := ⟨Try.f39, 25, 138813, []⟩
noncomputable def e40 : FnE := ⟨Try.f40, 20, 61, []⟩
noncomputable def e41 : FnE := ⟨Try.f41, 17, 4157, []⟩
noncomputable def e42 : FnE := ⟨Try.f42, 25, 525, []⟩
noncomputable def e43 : FnE := ⟨Try.f43, 38, 268435655, []⟩
noncomputable def e44 : FnE := ⟨Try.f44, 31, 2228423, []⟩
noncomputable def e45 : FnE := ⟨Try.f45, 63, 562950020532467, []⟩
noncomputable def e46 : FnE := ⟨Try.f46, 26, 133235, []⟩
noncomputable def e47 : FnE := ⟨Try.f47, 25, 4339, []⟩
noncomputable def e48 : FnE := ⟨Try.f48, 8, 5, []⟩
noncomputable def e49 : FnE := ⟨Try.f49, 8, 5, []⟩
noncomputable def e50 : FnE := ⟨Try.f50, 29, 4196381, []⟩
noncomputable def e51 : FnE := ⟨Try.f51, 18, 32909, []⟩
noncomputable def e52 : FnE := ⟨Try.f52, 22, 2098189, []⟩
noncomputable def e53 : FnE := ⟨Try.f53, 14, 5, []⟩
noncomputable def e54 : FnE := ⟨Try.f54, 25, 32787, []⟩
noncomputable def e55 : FnE := ⟨Try.f55, 24, 8253, []⟩
noncomputable def e56 : FnE := ⟨Try.f56, 55, 5368710131, []⟩
noncomputable def e57 : FnE := ⟨Try.f57, 20, 4157, [(4, ([0, 2, 3, 1, 4, 5, 6, 7], [0, 1, 0, 4, 15, 31, 63, 127]))]⟩
noncomputable def e58 : FnE := ⟨Try.f58, 49, 10301, [(7, ([0, 1, 2, 3, 4, 5, 6, 7, 8, 9, 10, 11, 12, 13, 14, 15, 16, 17, 18, 19, 20], [0, 1, 0, 4, 12, 28, 0, 64, 192, 448, 0, 1984, 4032, 8128, 0, 16384, 49152, 131008, 262140, 524287, 1048575]))]⟩
noncomputable def e59 : FnE := ⟨Try.f59, 17, 19, []⟩
noncomputable def e60 : FnE := ⟨Try.f60, 26, 1053, []⟩
noncomputable def e61 : FnE := ⟨Try.f61, 39, 2684355059, []⟩
noncomputable def e62 : FnE := ⟨Try.f62, 58, 70437463662717, []⟩
noncomputable def e63 : FnE := ⟨Try.f63, 1, 0, []⟩
noncomputable def e64 : FnE := ⟨Try.f64, 1, 0, []⟩
noncomputable def e65 : FnE := ⟨Try.f65, 10, 13, []⟩
noncomputable def e66 : FnE := ⟨Try.f66, 19, 179, []⟩
noncomputable def e67 : FnE := ⟨Try.f67, 39, 2684355059, []⟩
noncomputable def e68 : FnE := ⟨Try.f68, 30, 8307, []⟩
noncomputable def e69 : FnE := ⟨Try.f69, 9, 19, []⟩
noncomputable def e70 : FnE := ⟨Try.f70, 21, 125, []⟩
noncomputable def e71 : FnE := ⟨Try.f71, 20, 19, []⟩
noncomputable def e72 : FnE := ⟨Try.f72, 19, 66483, []⟩
noncomputable def e73 : FnE := ⟨Try.f73, 1, 0, []⟩
noncomputable def e74 : FnE := ⟨Try.f74, 1, 0, []⟩
noncomputable def e75 : FnE := ⟨Try.f75, 1, 0, []⟩
noncomputable def e76 : FnE := ⟨Try.f76, 1, 0, []⟩
noncomputable def e77 : FnE := ⟨Try.f77, 1, 0, []⟩
noncomputable def e78 : FnE := ⟨Try.f78, 1, 0, []⟩
noncomputable def e79 : FnE := ⟨Try.f79, 1, 0, []⟩
noncomputable def e80 : FnE := ⟨Try.f80, 1, 0, []⟩
noncomputable def e81 : FnE := ⟨Try.f81, 1, 0, []⟩
noncomputable def e82 : FnE := ⟨Try.f82, 1, 0, []⟩
noncomputable def e83 : FnE := ⟨Try.f83, 1, 0, []⟩
noncomputable def e84 : FnE := ⟨Try.f84, 1, 0, []⟩
noncomputable def e85 : FnE := ⟨Try.f85, 1, 0, []⟩
noncomputable def e86 : FnE := ⟨Try.f86, 1, 0, []⟩
noncomputable def e87 : FnE := ⟨Try.f87, 1, 0, []⟩
noncomputable def e88 : FnE := ⟨Try.f88, 1, 0, []⟩
noncomputable def e89 : FnE := ⟨Try.f89, 1, 0, []⟩
noncomputable def tab : Tr FnE := (.node (.node (.node (.node (.node (.node (.node .nil (some e63) .nil) (some e31) .nil) (some e15) (.node (.node .nil (some e79) .nil) (some e47) .nil)) (some e7) (.node (.node (.node .nil (some e71) .nil) (some e39) .nil) (some e23) (.node (.node .nil (some e87) .nil) (some e55) .nil))) (some e3) (.node (.node (.node (.node .nil (some e67) .nil) (some e35) .nil) (some e19) (.node (.node .nil (some e83) .nil) (some e51) .nil)) (some e11) (.node (.node (.node .nil (some e75) .nil) (some e43) .nil) (some e27) (.node .nil (some e59) .nil)))) (some e1) (.node (.node (.node (.node (.node .nil (some e65) .nil) (some e33) .nil) (some e17) (.node (.node .nil (some e81) .nil) (some e49) .nil)) (some e9) (.node (.node (.node .nil (some e73) .nil) (some e41) .nil) (some e25) (.node (.node .nil (some e89) .nil) (some e57) .nil))) (some e5) (.node (.node (.node (.node .nil (some e69) .nil) (some e37) .nil) (some e21) (.node (.node .nil (some e85) .nil) (some e53) .nil)) (some e13) (.node (.node (.node .nil (some e77) .nil) (some e45) .nil) (some e29) (.node .nil (some e61) .nil))))) (some e0) (.node (.node (.node (.node (.node (.node .nil (some e64) .nil) (some e32) .nil) (some e16) (.node (.node .nil (some e80) .nil) (some e48) .nil)) (some e8) (.node (.node (.node .nil (some e72) .nil) (some e40) .nil) (some e24) (.node (.node .nil (some e88) .nil) (some e56) .nil))) (some e4) (.node (.node (.node (.node .nil (some e68) .nil) (some e36) .nil) (some e20) (.node (.node .nil (some e84) .nil) (some e52) .nil)) (some e12) (.node (.node (.node .nil (some e76) .nil) (some e44) .nil) (some e28) (.node .nil (some e60) .nil)))) (some e2) (.node (.node (.node (.node (.node .nil (some e66) .nil) (some e34) .nil) (some e18) (.node (.node .nil (some e82) .nil) (some e50) .nil)) (some e10) (.node (.node (.node .nil (some e74) .nil) (some e42) .nil) (some e26) (.node .nil (some e58) .nil))) (some e6) (.node (.node (.node (.node .nil (some e70) .nil) (some e38) .nil) (some e22) (.node (.node .nil (some e86) .nil) (some e54) .nil)) (some e14) (.node (.node (.node .nil (some e78) .nil) (some e46) .nil) (some e30) (.node .nil (some e62) .nil))))))
theorem tab_eq : fnsOf Try.prog = tab := by kernel_rfl
/-- The tables as literals, and one function without arguments that is known to answer true. -/
noncomputable def envL (K : FuncId) : Env :=
  { P := Try.prog, fns := tab, tys := tysOf Try.prog, orc := fun f args => bif Nat.beq f K then (match args with
    | [] => some (.bool true, [])
    | _ :: _ => none) else none }
theorem envL_ok [Rho] {K : FuncId} (hb : hasBody Try.prog K = true) (h : yes (R.run { P := Try.prog, fns := tab, tys := tysOf Try.prog, orc := fun _ _ => none } 1000000 K [] ⟨.nil, 0⟩) = true) : EnvOk (envL K) := by
  have e : envL K = envK Try.prog K := by
    unfold envL envK
    rw [tab_eq]
    rfl
  rw [← tab_eq] at h
  rw [e]
  exact envK_ok env hb fun w => R.top env h (LRel.nil _) w
end Go.Proofs.Ytejmdglmldjliaa.Ae
