/-
  THE EVALUATOR'S TABLE OF FUNCTIONS, as literals; it is the one that is reckoned out.
-/
import Derived.Test.YtiecclkgjcnaoaaAhEnv
import Derived.Test.YtiecclkgjcnaoaaAhFast2
namespace Go.Proofs.Ytiecclkgjcnaoaa.Ae
open Go.AE Go.RowKit
set_option maxRecDepth 1000000
noncomputable def e0 : FnE := ⟨Try.f0, 0, 0, []⟩
noncomputable def e1 : FnE := ⟨Try.f1, 0, 0, []⟩
noncomputable def e2 : FnE := ⟨Try.f2, 1, 0, []⟩
noncomputable def e3 : FnE := ⟨Try.f3, 96, 77522700224181699776446407, []⟩
noncomputable def e4 : FnE := ⟨Try.f4, 45, 274911854963, [(11, ([0, 1, 2, 3, 4, 5, 6, 7, 8, 9], [0, 1, 0, 4, 12, 28, 60, 127, 255, 511]))]⟩
noncomputable def e5 : FnE := ⟨Try.f5, 89, 9241528272903736307, []⟩
noncomputable def e6 : FnE := ⟨Try.f6, 49, 63, [(5, ([0, 1, 2, 3, 4, 5, 6, 7, 8, 9, 10, 11, 12, 13, 14, 15, 16, 17, 18, 19, 20, 21, 22, 23, 24, 25], [0, 1, 3, 7, 15, 31, 63, 127, 127, 511, 1023, 2047, 4095, 8191, 16383, 32767, 65535, 131071, 262143, 524287, 1048575, 2097151, 4194303, 8388607, 16777215, 33554431]))]⟩
noncomputable def e7 : FnE := ⟨Try.f7, 6, 1, []⟩
noncomputable def e8 : FnE := ⟨Try.f8, 90, 155025851513441793828752255, []⟩
noncomputable def e9 : FnE := ⟨Try.f9, 80, 9453956337776145302141, [(7, ([0, 1, 3, 4, 2, 5, 6], [0, 0, 2, 0, 8, 30, 63])), (18, ([0, 1, 2, 3, 4, 5, 6], [0, 0, 2, 6, 14, 1, 63]))]⟩
noncomputable def e10 : FnE := ⟨Try.f10, 42, 127, []⟩
noncomputable def e11 : FnE := ⟨Try.f11, 71, 295285335902610524151, [(21, ([0, 1, 2, 3, 4, 5, 6, 7], [0, 0, 2, 0, 14, 0, 63, 127]))]⟩
noncomputable def e12 : FnE := ⟨Try.f12, 28, 34668557, []⟩
noncomputable def e13 : FnE := ⟨Try.f13, 3, 1, []⟩
noncomputable def e14 : FnE := ⟨Try.f14, 14, 3, []⟩
noncomputable def e15 : FnE := ⟨Try.f15, 18, 3, []⟩
noncomputable def e16 : FnE := ⟨Try.f16, 51, 17871367338019, []⟩
noncomputable def e17 : FnE := ⟨Try.f17, 17, 995, []⟩
noncomputable def e18 : FnE := ⟨Try.f18, 16, 2059, []⟩
noncomputable def e19 : FnE := ⟨Try.f19, 90, 8854504709375121164907, []⟩
noncomputable def e20 : FnE := ⟨Try.f20, 8, 5, []⟩
noncomputable def e21 : FnE := ⟨Try.f21, 7, 5, []⟩
noncomputable def e22 : FnE := ⟨Try.f22, 18, 8199, []⟩
noncomputable def e23 : FnE := ⟨Try.f23, 10, 5, []⟩
noncomputable def e24 : FnE := ⟨Try.f24, 6, 7, []⟩
noncomputable def e25 : FnE := ⟨Try.f25, 29, 4194759, []⟩
noncomputable def e26 : FnE := ⟨Try.f26, 47, 141738119693, []⟩
noncomputable def e27 : FnE := ⟨Try.f27, 29, 4194759, []⟩
noncomputable def e28 : FnE := ⟨Try.f28, 20, 29, []⟩
noncomputable def e29 : FnE := ⟨Try.f29, 29, 4194759, []⟩
noncomputable def e30 : FnE := ⟨Try.f30, 29, 15, [(4, ([0, 2, 1, 4, 3, 5, 6, 7], [0, 1, 0, 7, 3, 31, 63, 127]))]⟩
noncomputable def e31 : FnE := ⟨Try.f31, 8, 5, []⟩
noncomputable def e32 : FnE := ⟨Try.f32, 40, 31, [(1, ([0, 1, 2, 3, 4, 5, 6, 7, 8, 9, 10, 11, 12, 13, 14, 16, 17, 15, 18, 19, 20, 21, 22, 23, 24, 25, 26, 27, 28, 29, 30, 31, 32, 33, 34, 35], [0, 1, 0, 4, 15, 31, 63, 127, 63, 319, 1023, 2047, 4095, 8191, 16383, 32767, 8191, 73727, 262143, 524287, 1048575, 2097151, 4194303, 8388607, 4194303, 20971519, 67108863, 134217727, 268435455, 536870911, 1073741823, 536870911, 2684354559, 8589934591, 17179869183, 34359738367]))]⟩
noncomputable def e33 : FnE := ⟨Try.f33, 10, 5, []⟩
noncomputable def e34 : FnE := ⟨Try.f34, 52, 31, []⟩
noncomputable def e35 : FnE := ⟨Try.f35, 26, 16806963, [(6, ([0, 1, 2, 3, 4, 5, 6, 7, 8], [0, 0, 3, 7, 0, 0, 48, 112, 255]))]⟩
noncomputable def e36 : FnE := ⟨Try.f36, 26, 16806963, [(6, ([0, 1, 2, 3, 4, 5, 6, 7, 8], [0, 0, 3, 7, 0, 0, 48, 112, 255]))]⟩
noncomputable def e37 : FnE := ⟨Try.f37, 26, 16806963, [(6, ([0, 1, 2, 3, 4, 5, 6, 7, 8], [0, 0, 3, 7, 0, 0, 48, 112, 255]))]⟩
noncomputable def e38 : FnE := ⟨Try.f38, 32, 1074250695, []⟩
noncomputable def e39 : FnE := ⟨Try.f39, 26, 16806963, [(6, ([0, 1, 2, 3, 4, 5, 6, 7, 8], [0, 0, 3, 7, 0, 0, 48, 112, 255]))]⟩
noncomputable def e40 : FnE := ⟨Try.f40, 32, 1074250695, []⟩
noncomputable def e41 : FnE := ⟨Try.f41, 75, 1152921504607371295, []⟩
noncomputable def e42 : FnE := ⟨Try.f42, 31, 16813981, []⟩
noncomputable def e43 : FnE := ⟨Try.f43, 55, 2281972207, []⟩
noncomputable def e44 : FnE := ⟨Try.f44, 25, 5, []⟩
noncomputable def e45 : FnE := ⟨Try.f45, 13, 5, []⟩
noncomputable def e46 : FnE := ⟨Try.f46, 17, 35, []⟩
noncomputable def e47 : FnE := ⟨Try.f47, 13, 3, []⟩
noncomputable def e48 : FnE := ⟨Try.f48, 27, 407651, []⟩
noncomputable def e49 : FnE := ⟨Try.f49, 42, 8607695453, []⟩
noncomputable def e50 : FnE := ⟨Try.f50, 21, 1075, []⟩
noncomputable def e51 : FnE := ⟨Try.f51, 17, 4157, []⟩
noncomputable def e52 : FnE := ⟨Try.f52, 21, 1075, []⟩
noncomputable def e53 : FnE := ⟨Try.f53, 10, 7, []⟩
noncomputable def e54 : FnE := ⟨Try.f54, 37, 538969075, []⟩
noncomputable def e55 : FnE := ⟨Try.f55, 8, 31, []⟩
noncomputable def e56 : FnE := ⟨Try.f56, 21, 1075, []⟩
noncomputable def e57 : FnE := ⟨Try.f57, 20, 61, []⟩
noncomputable def e58 : FnE := ⟨Try.f58, 21, 1075, []⟩
noncomputable def e59 : FnE := ⟨Try.f59, 20, 4157, [(4, ([0, 2, 3, 1, 4, 5, 6, 7], [0, 1, 0, 4, 15, 31, 63, 127]))]⟩
noncomputable def e60 : FnE := ⟨Try.f60, 15, 1037, []⟩
noncomputable def e61 : FnE := ⟨Try.f61, 29, 4194759, []⟩
noncomputable def e62 : FnE := ⟨Try.f62, 5, 5, []⟩
noncomputable def e63 : FnE := ⟨Try.f63, 35, 67108893, [(5, ([0, 1, 2, 3, 4, 5], [0, 0, 2, 6, 15, 31]))]⟩
noncomputable def e64 : FnE := ⟨Try.f64, 29, 4194759, []⟩
noncomputable def e65 : FnE := ⟨Try.f65, 14, 3, [(1, ([0, 2, 4, 6, 9, 1, 3, 5, 7, 8, 10, 11, 12], [0, 1, 0, 7, 0, 31, 0, 127, 255, 0, 767, 2047, 4095]))]⟩
noncomputable def e66 : FnE := ⟨Try.f66, 1, 0, []⟩
noncomputable def e67 : FnE := ⟨Try.f67, 27, 540887, []⟩
noncomputable def e68 : FnE := ⟨Try.f68, 9, 19, []⟩
noncomputable def e69 : FnE := ⟨Try.f69, 9, 15, []⟩
noncomputable def e70 : FnE := ⟨Try.f70, 6, 7, []⟩
noncomputable def e71 : FnE := ⟨Try.f71, 9, 19, []⟩
noncomputable def e72 : FnE := ⟨Try.f72, 9, 19, []⟩
noncomputable def e73 : FnE := ⟨Try.f73, 9, 15, []⟩
noncomputable def e74 : FnE := ⟨Try.f74, 66, 9292122308570253023, []⟩
noncomputable def e75 : FnE := ⟨Try.f75, 21, 359, []⟩
noncomputable def e76 : FnE := ⟨Try.f76, 29, 268960285, []⟩
noncomputable def e77 : FnE := ⟨Try.f77, 30, 8307, []⟩
noncomputable def e78 : FnE := ⟨Try.f78, 39, 2684355059, []⟩
noncomputable def e79 : FnE := ⟨Try.f79, 21, 1075, []⟩
noncomputable def e80 : FnE := ⟨Try.f80, 12, 15, [(1, ([0, 1, 2, 3, 4, 5, 6, 7, 8, 9], [0, 1, 3, 7, 0, 31, 63, 63, 255, 511]))]⟩
noncomputable def e81 : FnE := ⟨Try.f81, 11, 51, []⟩
noncomputable def e82 : FnE := ⟨Try.f82, 57, 70385924055165, []⟩
noncomputable def e83 : FnE := ⟨Try.f83, 21, 125, []⟩
noncomputable def e84 : FnE := ⟨Try.f84, 21, 1075, []⟩
noncomputable def e85 : FnE := ⟨Try.f85, 7, 7, []⟩
noncomputable def e86 : FnE := ⟨Try.f86, 39, 17180983805, []⟩
noncomputable def e87 : FnE := ⟨Try.f87, 19, 66483, []⟩
noncomputable def e88 : FnE := ⟨Try.f88, 19, 66483, []⟩
noncomputable def e89 : FnE := ⟨Try.f89, 19, 66483, []⟩
noncomputable def e90 : FnE := ⟨Try.f90, 49, 284773513179775, [(8, ([0, 1, 2, 3, 4, 5, 6, 7, 8, 9, 10, 11, 12, 13, 14, 15, 16, 17, 18], [0, 1, 0, 4, 12, 31, 63, 127, 255, 127, 639, 2047, 4095, 8191, 127, 16511, 49279, 131071, 262143]))]⟩
noncomputable def e91 : FnE := ⟨Try.f91, 17, 5, []⟩
noncomputable def e92 : FnE := ⟨Try.f92, 75, 73786976844594022655, []⟩
noncomputable def e93 : FnE := ⟨Try.f93, 1, 0, []⟩
noncomputable def e94 : FnE := ⟨Try.f94, 51, 9071107309821, []⟩
noncomputable def e95 : FnE := ⟨Try.f95, 14, 2397, []⟩
noncomputable def e96 : FnE := ⟨Try.f96, 1, 0, []⟩
noncomputable def e97 : FnE := ⟨Try.f97, 1, 0, []⟩
noncomputable def e98 : FnE := ⟨Try.f98, 1, 0, []⟩
noncomputable def e99 : FnE := ⟨Try.f99, 1, 0, []⟩
noncomputable def e100 : FnE := ⟨Try.f100, 1, 0, []⟩
noncomputable def e101 : FnE := ⟨Try.f101, 1, 0, []⟩
noncomputable def e102 : FnE := ⟨Try.f102, 1, 0, []⟩
noncomputable def e103 : FnE := ⟨Try.f103, 1, 0, []⟩
noncomputable def e104 : FnE := ⟨Try.f104, 1, 0, []⟩
noncomputable def e105 : FnE := ⟨Try.f105, 1, 0, []⟩
noncomputable def e106 : FnE := ⟨Try.f106, 1, 0, []⟩
noncomputable def e107 : FnE := ⟨Try.f107, 1, 0, []⟩
noncomputable def e108 : FnE := ⟨Try.f108, 1, 0, []⟩
noncomputable def e109 : FnE := ⟨Try.f109, 1, 0, []⟩
noncomputable def e110 : FnE := ⟨Try.f110, 1, 0, []⟩
noncomputable def e111 : FnE := ⟨Try.f111, 1, 0, []⟩
noncomputable def e112 : FnE := ⟨Try.f112, 1, 0, []⟩
noncomputable def tab : Tr FnE := (.node (.node (.node (.node (.node (.node (.node .nil (some e63) .nil) (some e31) (.node .nil (some e95) .nil)) (some e15) (.node (.node .nil (some e79) .nil) (some e47) (.node .nil (some e111) .nil))) (some e7) (.node (.node (.node .nil (some e71) .nil) (some e39) (.node .nil (some e103) .nil)) (some e23) (.node (.node .nil (some e87) .nil) (some e55) .nil))) (some e3) (.node (.node (.node (.node .nil (some e67) .nil) (some e35) (.node .nil (some e99) .nil)) (some e19) (.node (.node .nil (some e83) .nil) (some e51) .nil)) (some e11) (.node (.node (.node .nil (some e75) .nil) (some e43) (.node .nil (some e107) .nil)) (some e27) (.node (.node .nil (some e91) .nil) (some e59) .nil)))) (some e1) (.node (.node (.node (.node (.node .nil (some e65) .nil) (some e33) (.node .nil (some e97) .nil)) (some e17) (.node (.node .nil (some e81) .nil) (some e49) .nil)) (some e9) (.node (.node (.node .nil (some e73) .nil) (some e41) (.node .nil (some e105) .nil)) (some e25) (.node (.node .nil (some e89) .nil) (some e57) .nil))) (some e5) (.node (.node (.node (.node .nil (some e69) .nil) (some e37) (.node .nil (some e101) .nil)) (some e21) (.node (.node .nil (some e85) .nil) (some e53) .nil)) (some e13) (.node (.node (.node .nil (some e77) .nil) (some e45) (.node .nil (some e109) .nil)) (some e29) (.node (.node .nil (some e93) .nil) (some e61) .nil))))) (some e0) (.node (.node (.node (.node (.node (.node .nil (some e64) .nil) (some e32) (.node .nil (some e96) .nil)) (some e16) (.node (.node .nil (some e80) .nil) (some e48) (.node .nil (some e112) .nil))) (some e8) (.node (.node (.node .nil (some e72) .nil) (some e40) (.node .nil (some e104) .nil)) (some e24) (.node (.node .nil (some e88) .nil) (some e56) .nil))) (some e4) (.node (.node (.node (.node .nil (some e68) .nil) (some e36) (.node .nil (some e100) .nil)) (some e20) (.node (.node .nil (some e84) .nil) (some e52) .nil)) (some e12) (.node (.node (.node .nil (some e76) .nil) (some e44) (.node .nil (some e108) .nil)) (some e28) (.node (.node .nil (some e92) .nil) (some e60) .nil)))) (some e2) (.node (.node (.node (.node (.node .nil (some e66) .nil) (some e34) (.node .nil (some e98) .nil)) (some e18) (.node (.node .nil (some e82) .nil) (some e50) .nil)) (some e10) (.node (.node (.node .nil (some e74) .nil) (some e42) (.node .nil (some e106) .nil)) (some e26) (.node (.node .nil (some e90) .nil) (some e58) .nil))) (some e6) (.node (.node (.node (.node .nil (some e70) .nil) (some e38) (.node .nil (some e102) .nil)) (some e22) (.node (.node .nil (some e86) .nil) (some e54) .nil)) (some e14) (.node (.node (.node .nil (some e78) .nil) (some e46) (.node .nil (some e110) .nil)) (some e30) (.node (.node .nil (some e94) .nil) (some e62) .nil))))))
theorem tab_eq : fnsOf Try.prog = tab := by kernel_rfl
/-- The tables as literals, and one function without arguments that is known to answer true. -/
noncomputable def envL (K : FuncId) : Env :=
  { P := Try.prog, fns := tab, tys := tysOf Try.prog, orc := fun f args => bif Nat.beq f K then (match args with
    | [] => some (.bool true, [])
    | _ :: _ => none) else none }
theorem envL_ok [Rho] {K : FuncId} (hb : hasBody Try.prog K = true) (h : yes (R.run { P := Try.prog, fns := tab, tys := tysOf Try.prog, orc := fun _ _ => none } 1000000 K [] ⟨.nil, 0⟩) = true) : EnvOk (envL K) := by
  have e : envL K = envK Try.prog K := by
    unfold envL envK
    rw [tab_eq]
    rfl
  rw [← tab_eq] at h
  rw [e]
  exact envK_ok env hb fun w => R.top env h (LRel.nil _) w
end Go.Proofs.Ytiecclkgjcnaoaa.Ae
