/-
  THE EVALUATOR'S TABLES OF THIS SEAT'S PROGRAM ARE AS THEY MUST BE.
  THE EVALUATOR'S TABLE OF FUNCTIONS, as literals; it is the one that is reckoned out.
  THE FUNCTION known ANSWERS true, in any world.
  THE TYPES THAT THE RULES LOOK UP, as literals; they are the ones that are reckoned out.
-/
import Derived.Test.YtiecclkgjcnaoaaGreatAiOrc
import Derived.Test.YtiecclkgjcnaoaaGreatProg
import Derived.Test.YtiecclkgjcnaoaaGreatAiSy
import Derived.Test.YtiecclkgjcnaoaaGreatAiSy2
namespace Go.Proofs.YtiecclkgjcnaoaaGreat.Ae
open Go.AE
set_option maxRecDepth 1000000
theorem ext : extOk Tryz.prog.funcs.toList = true := by kernel_rfl
theorem mixed : Tryz.prog.follows .mixedOrders = true := by kernel_rfl
theorem all : allOk (fnEs Tryz.prog.funcs.toList) = true := by kernel_rfl
theorem env [Rho] : EnvOk (envOf Tryz.prog) := envOf_ok all ext mixed
end Go.Proofs.YtiecclkgjcnaoaaGreat.Ae
namespace Go.Proofs.YtiecclkgjcnaoaaGreat.Ae
open Go.AE Go.RowKit
set_option maxRecDepth 1000000
noncomputable def e0 : FnE := ⟨Tryz.f0, 0, 0, []⟩
noncomputable def e1 : FnE := ⟨Tryz.f1, 0, 0, []⟩
noncomputable def e2 : FnE := ⟨Tryz.f2, 1, 0, []⟩
noncomputable def e3 : FnE := ⟨Tryz.f3, 43, 16779645, []⟩
noncomputable def e4 : FnE := ⟨Tryz.f4, 49, 63, [(5, ([0, 1, 2, 3, 4, 5, 6, 7, 8, 9, 10, 11, 12, 13, 14, 15, 16, 17, 18, 19, 20, 21, 22, 23, 24, 25], [0, 1, 3, 7, 15, 31, 63, 127, 127, 511, 1023, 2047, 4095, 8191, 16383, 32767, 65535, 131071, 262143, 524287, 1048575, 2097151, 4194303, 8388607, 16777215, 33554431]))]⟩
noncomputable def e5 : FnE := ⟨Tryz.f5, 80, 9453956337776145302141, [(7, ([0, 1, 3, 4, 2, 5, 6], [0, 0, 2, 0, 8, 30, 63])), (18, ([0, 1, 2, 3, 4, 5, 6], [0, 0, 2, 6, 14, 1, 63]))]⟩
noncomputable def e6 : FnE := ⟨Tryz.f6, 157, 22836659981624350553774036568153655753106800637, [(10, ([0, 1, 2, 3, 4, 5, 6, 7], [0, 1, 0, 4, 12, 31, 63, 127])), (25, ([0, 1, 2, 3, 4, 5, 6, 7], [0, 1, 0, 4, 12, 31, 63, 127]))]⟩
noncomputable def e7 : FnE := ⟨Tryz.f7, 42, 127, []⟩
noncomputable def e8 : FnE := ⟨Tryz.f8, 137, 87117769018159094328365422120026152895487, [(6, ([0, 1, 2, 3, 4, 5, 6, 7, 8, 9, 10, 11, 12, 13], [0, 1, 0, 7, 15, 0, 32, 0, 224, 480, 0, 0, 3103, 8191])), (12, ([0, 1, 2, 3, 4, 5, 6, 7, 8, 9, 10], [0, 1, 0, 7, 15, 0, 32, 0, 224, 480, 1023])), (17, ([0, 1, 2, 3, 4, 5, 6, 7, 8, 9, 10, 11], [0, 1, 0, 7, 15, 0, 32, 0, 224, 480, 1023, 2047]))]⟩
noncomputable def e9 : FnE := ⟨Tryz.f9, 90, 155025851513441793828752255, []⟩
noncomputable def e10 : FnE := ⟨Tryz.f10, 6, 1, []⟩
noncomputable def e11 : FnE := ⟨Tryz.f11, 71, 295285335902610524151, [(21, ([0, 1, 2, 3, 4, 5, 6, 7], [0, 0, 2, 0, 14, 0, 63, 127]))]⟩
noncomputable def e12 : FnE := ⟨Tryz.f12, 28, 34668557, []⟩
noncomputable def e13 : FnE := ⟨Tryz.f13, 7, 5, []⟩
noncomputable def e14 : FnE := ⟨Tryz.f14, 18, 8199, []⟩
noncomputable def e15 : FnE := ⟨Tryz.f15, 10, 5, []⟩
noncomputable def e16 : FnE := ⟨Tryz.f16, 6, 7, []⟩
noncomputable def e17 : FnE := ⟨Tryz.f17, 29, 4194759, []⟩
noncomputable def e18 : FnE := ⟨Tryz.f18, 47, 141738119693, []⟩
noncomputable def e19 : FnE := ⟨Tryz.f19, 29, 4194759, []⟩
noncomputable def e20 : FnE := ⟨Tryz.f20, 20, 29, []⟩
noncomputable def e21 : FnE := ⟨Tryz.f21, 29, 4194759, []⟩
noncomputable def e22 : FnE := ⟨Tryz.f22, 29, 15, [(4, ([0, 2, 1, 4, 3, 5, 6, 7], [0, 1, 0, 7, 3, 31, 63, 127]))]⟩
noncomputable def e23 : FnE := ⟨Tryz.f23, 8, 5, []⟩
noncomputable def e24 : FnE := ⟨Tryz.f24, 25, 29, []⟩
noncomputable def e25 : FnE := ⟨Tryz.f25, 28, 115, []⟩
noncomputable def e26 : FnE := ⟨Tryz.f26, 54, 2148598813, []⟩
noncomputable def e27 : FnE := ⟨Tryz.f27, 15, 1037, []⟩
noncomputable def e28 : FnE := ⟨Tryz.f28, 25, 29, []⟩
noncomputable def e29 : FnE := ⟨Tryz.f29, 151, 42535295865117308228069731108340630525, [(6, ([0, 1, 2, 3, 4, 5, 6, 7], [0, 1, 0, 4, 12, 31, 63, 127])), (17, ([0, 1, 2, 3, 4, 5, 6, 7, 8, 9, 10, 11, 12, 13, 14, 15], [0, 1, 3, 7, 0, 16, 48, 112, 240, 496, 1008, 0, 4080, 8191, 16383, 32767]))]⟩
noncomputable def e30 : FnE := ⟨Tryz.f30, 181, 766247776141935200008205339618593472896203507735519231, [(5, ([0, 1, 2, 4, 5, 7, 8, 9, 3, 6, 10, 11], [0, 0, 2, 7, 0, 16, 63, 0, 128, 384, 1023, 2047])), (17, ([0, 1, 2, 3, 4, 5, 6, 8, 9, 10, 11, 12, 13, 15, 16, 7, 14, 17, 18], [0, 0, 2, 0, 14, 30, 62, 127, 0, 256, 0, 1792, 3840, 7936, 16383, 0, 32768, 131071, 262143])), (23, ([0, 1, 2, 4, 5, 6, 3, 7, 8], [0, 0, 2, 7, 0, 16, 48, 127, 255])), (29, ([0, 1, 2, 4, 5, 7, 8, 10, 11, 3, 6, 9, 12, 13], [0, 0, 2, 7, 0, 16, 63, 0, 128, 511, 0, 1024, 4095, 8191])), (30, ([0, 1, 3, 4, 5, 2, 6, 7], [0, 0, 3, 0, 8, 24, 63, 127])), (35, ([0, 1, 2, 4, 5, 7, 8, 10, 11, 12, 14, 15, 3, 6, 9, 13, 16, 17], [0, 0, 2, 7, 0, 16, 63, 0, 128, 511, 0, 1024, 3072, 8191, 0, 16384, 65535, 131071]))]⟩
noncomputable def e31 : FnE := ⟨Tryz.f31, 40, 31, [(1, ([0, 1, 2, 3, 4, 5, 6, 7, 8, 9, 10, 11, 12, 13, 14, 16, 17, 15, 18, 19, 20, 21, 22, 23, 24, 25, 26, 27, 28, 29, 30, 31, 32, 33, 34, 35], [0, 1, 0, 4, 15, 31, 63, 127, 63, 319, 1023, 2047, 4095, 8191, 16383, 32767, 8191, 73727, 262143, 524287, 1048575, 2097151, 4194303, 8388607, 4194303, 20971519, 67108863, 134217727, 268435455, 536870911, 1073741823, 536870911, 2684354559, 8589934591, 17179869183, 34359738367]))]⟩
noncomputable def e32 : FnE := ⟨Tryz.f32, 10, 5, []⟩
noncomputable def e33 : FnE := ⟨Tryz.f33, 52, 31, []⟩
noncomputable def e34 : FnE := ⟨Tryz.f34, 26, 16806963, [(6, ([0, 1, 2, 3, 4, 5, 6, 7, 8], [0, 0, 3, 7, 0, 0, 48, 112, 255]))]⟩
noncomputable def e35 : FnE := ⟨Tryz.f35, 26, 16806963, [(6, ([0, 1, 2, 3, 4, 5, 6, 7, 8], [0, 0, 3, 7, 0, 0, 48, 112, 255]))]⟩
noncomputable def e36 : FnE := ⟨Tryz.f36, 26, 16806963, [(6, ([0, 1, 2, 3, 4, 5, 6, 7, 8], [0, 0, 3, 7, 0, 0, 48, 112, 255]))]⟩
noncomputable def e37 : FnE := ⟨Tryz.f37, 32, 1074250695, []⟩
noncomputable def e38 : FnE := ⟨Tryz.f38, 26, 16806963, [(6, ([0, 1, 2, 3, 4, 5, 6, 7, 8], [0, 0, 3, 7, 0, 0, 48, 112, 255]))]⟩
noncomputable def e39 : FnE := ⟨Tryz.f39, 32, 1074250695, []⟩
noncomputable def e40 : FnE := ⟨Tryz.f40, 27, 499, []⟩
noncomputable def e41 : FnE := ⟨Tryz.f41, 95, 19809534047580641984065306751, [(6, ([0, 1, 2, 3, 4, 5, 6, 7, 8, 9, 10], [0, 1, 0, 7, 15, 0, 32, 0, 224, 480, 1023])), (11, ([0, 1, 2, 3, 4, 5, 6, 7, 8, 9, 10], [0, 1, 0, 7, 15, 0, 32, 0, 224, 480, 1023]))]⟩
noncomputable def e42 : FnE := ⟨Tryz.f42, 3, 1, []⟩
noncomputable def e43 : FnE := ⟨Tryz.f43, 14, 3, []⟩
noncomputable def e44 : FnE := ⟨Tryz.f44, 18, 3, []⟩
noncomputable def e45 : FnE := ⟨Tryz.f45, 51, 17871367338019, []⟩
noncomputable def e46 : FnE := ⟨Tryz.f46, 17, 995, []⟩
noncomputable def e47 : FnE := ⟨Tryz.f47, 16, 2059, []⟩
noncomputable def e48 : FnE := ⟨Tryz.f48, 90, 8854504709375121164907, []⟩
noncomputable def e49 : FnE := ⟨Tryz.f49, 8, 5, []⟩
noncomputable def e50 : FnE := ⟨Tryz.f50, 75, 1152921504607371295, []⟩
noncomputable def e51 : FnE := ⟨Tryz.f51, 31, 16813981, []⟩
noncomputable def e52 : FnE := ⟨Tryz.f52, 55, 2281972207, []⟩
noncomputable def e53 : FnE := ⟨Tryz.f53, 25, 5, []⟩
noncomputable def e54 : FnE := ⟨Tryz.f54, 13, 5, []⟩
noncomputable def e55 : FnE := ⟨Tryz.f55, 21, 1075, []⟩
noncomputable def e56 : FnE := ⟨Tryz.f56, 17, 4157, []⟩
noncomputable def e57 : FnE := ⟨Tryz.f57, 21, 1075, []⟩
noncomputable def e58 : FnE := ⟨Tryz.f58, 10, 7, []⟩
noncomputable def e59 : FnE := ⟨Tryz.f59, 37, 538969075, []⟩
noncomputable def e60 : FnE := ⟨Tryz.f60, 8, 31, []⟩
noncomputable def e61 : FnE := ⟨Tryz.f61, 21, 1075, []⟩
noncomputable def e62 : FnE := ⟨Tryz.f62, 20, 61, []⟩
noncomputable def e63 : FnE := ⟨Tryz.f63, 21, 1075, []⟩
noncomputable def e64 : FnE := ⟨Tryz.f64, 20, 4157, [(4, ([0, 2, 3, 1, 4, 5, 6, 7], [0, 1, 0, 4, 15, 31, 63, 127]))]⟩
noncomputable def e65 : FnE := ⟨Tryz.f65, 15, 1037, []⟩
noncomputable def e66 : FnE := ⟨Tryz.f66, 29, 4194759, []⟩
noncomputable def e67 : FnE := ⟨Tryz.f67, 5, 5, []⟩
noncomputable def e68 : FnE := ⟨Tryz.f68, 35, 67108893, [(5, ([0, 1, 2, 3, 4, 5], [0, 0, 2, 6, 15, 31]))]⟩
noncomputable def e69 : FnE := ⟨Tryz.f69, 29, 4194759, []⟩
noncomputable def e70 : FnE := ⟨Tryz.f70, 14, 3, [(1, ([0, 2, 4, 6, 9, 1, 3, 5, 7, 8, 10, 11, 12], [0, 1, 0, 7, 0, 31, 0, 127, 255, 0, 767, 2047, 4095]))]⟩
noncomputable def e71 : FnE := ⟨Tryz.f71, 55, 5368710131, []⟩
noncomputable def e72 : FnE := ⟨Tryz.f72, 39, 2684355059, []⟩
noncomputable def e73 : FnE := ⟨Tryz.f73, 24, 8253, []⟩
noncomputable def e74 : FnE := ⟨Tryz.f74, 49, 10301, [(7, ([0, 1, 2, 3, 4, 5, 6, 7, 8, 9, 10, 11, 12, 13, 14, 15, 16, 17, 18, 19, 20], [0, 1, 0, 4, 12, 28, 0, 64, 192, 448, 0, 1984, 4032, 8128, 0, 16384, 49152, 131008, 262140, 524287, 1048575]))]⟩
noncomputable def e75 : FnE := ⟨Tryz.f75, 26, 1053, []⟩
noncomputable def e76 : FnE := ⟨Tryz.f76, 73, 2361507799744018137085, []⟩
noncomputable def e77 : FnE := ⟨Tryz.f77, 108, 81784508737889950855777048592895, [(21, ([0, 1, 2, 3, 4, 5, 6, 7, 8, 9, 10, 11, 12], [0, 1, 0, 7, 15, 31, 0, 64, 0, 448, 960, 1984, 4095]))]⟩
noncomputable def e78 : FnE := ⟨Tryz.f78, 9, 19, []⟩
noncomputable def e79 : FnE := ⟨Tryz.f79, 12, 19, []⟩
noncomputable def e80 : FnE := ⟨Tryz.f80, 38, 34091035, [(9, ([0, 1, 2, 4, 5, 3, 6, 7], [0, 0, 2, 7, 0, 16, 63, 127]))]⟩
noncomputable def e81 : FnE := ⟨Tryz.f81, 19, 8219, []⟩
noncomputable def e82 : FnE := ⟨Tryz.f82, 50, 1099528470845, []⟩
noncomputable def e83 : FnE := ⟨Tryz.f83, 1, 0, []⟩
noncomputable def e84 : FnE := ⟨Tryz.f84, 10, 13, []⟩
noncomputable def e85 : FnE := ⟨Tryz.f85, 26, 33571891, [(6, ([0, 1, 2, 3, 4, 5, 6, 7, 8], [0, 0, 3, 7, 0, 0, 48, 112, 255]))]⟩
noncomputable def e86 : FnE := ⟨Tryz.f86, 17, 35, []⟩
noncomputable def e87 : FnE := ⟨Tryz.f87, 13, 3, []⟩
noncomputable def e88 : FnE := ⟨Tryz.f88, 27, 407651, []⟩
noncomputable def e89 : FnE := ⟨Tryz.f89, 42, 8607695453, []⟩
noncomputable def e90 : FnE := ⟨Tryz.f90, 27, 540887, []⟩
noncomputable def e91 : FnE := ⟨Tryz.f91, 9, 19, []⟩
noncomputable def e92 : FnE := ⟨Tryz.f92, 9, 15, []⟩
noncomputable def e93 : FnE := ⟨Tryz.f93, 6, 7, []⟩
noncomputable def e94 : FnE := ⟨Tryz.f94, 9, 19, []⟩
noncomputable def e95 : FnE := ⟨Tryz.f95, 9, 19, []⟩
noncomputable def e96 : FnE := ⟨Tryz.f96, 9, 15, []⟩
noncomputable def e97 : FnE := ⟨Tryz.f97, 66, 9292122308570253023, []⟩
noncomputable def e98 : FnE := ⟨Tryz.f98, 30, 8307, []⟩
noncomputable def e99 : FnE := ⟨Tryz.f99, 39, 2684355059, []⟩
noncomputable def e100 : FnE := ⟨Tryz.f100, 21, 1075, []⟩
noncomputable def e101 : FnE := ⟨Tryz.f101, 12, 15, [(1, ([0, 1, 2, 3, 4, 5, 6, 7, 8, 9], [0, 1, 3, 7, 0, 31, 63, 63, 255, 511]))]⟩
noncomputable def e102 : FnE := ⟨Tryz.f102, 11, 51, []⟩
noncomputable def e103 : FnE := ⟨Tryz.f103, 57, 70385924055165, []⟩
noncomputable def e104 : FnE := ⟨Tryz.f104, 21, 125, []⟩
noncomputable def e105 : FnE := ⟨Tryz.f105, 21, 1075, []⟩
noncomputable def e106 : FnE := ⟨Tryz.f106, 7, 7, []⟩
noncomputable def e107 : FnE := ⟨Tryz.f107, 39, 17180983805, []⟩
noncomputable def e108 : FnE := ⟨Tryz.f108, 58, 70437463662717, []⟩
noncomputable def e109 : FnE := ⟨Tryz.f109, 10, 19, []⟩
noncomputable def e110 : FnE := ⟨Tryz.f110, 29, 268960285, []⟩
noncomputable def e111 : FnE := ⟨Tryz.f111, 25, 65677, []⟩
noncomputable def e112 : FnE := ⟨Tryz.f112, 87, 77447036292521535148130367, []⟩
noncomputable def e113 : FnE := ⟨Tryz.f113, 27, 540887, []⟩
noncomputable def e114 : FnE := ⟨Tryz.f114, 78, 18889470437569323925751, [(16, ([0, 1, 2, 3, 4, 5, 6, 7, 8], [0, 1, 0, 7, 15, 31, 0, 64, 255]))]⟩
noncomputable def e115 : FnE := ⟨Tryz.f115, 20, 83, []⟩
noncomputable def e116 : FnE := ⟨Tryz.f116, 20, 83, []⟩
noncomputable def e117 : FnE := ⟨Tryz.f117, 17, 115, []⟩
noncomputable def e118 : FnE := ⟨Tryz.f118, 28, 15, []⟩
noncomputable def e119 : FnE := ⟨Tryz.f119, 21, 359, []⟩
noncomputable def e120 : FnE := ⟨Tryz.f120, 29, 268960285, []⟩
noncomputable def e121 : FnE := ⟨Tryz.f121, 19, 66483, []⟩
noncomputable def e122 : FnE := ⟨Tryz.f122, 19, 66483, []⟩
noncomputable def e123 : FnE := ⟨Tryz.f123, 19, 66483, []⟩
noncomputable def e124 : FnE := ⟨Tryz.f124, 49, 284773513179775, [(8, ([0, 1, 2, 3, 4, 5, 6, 7, 8, 9, 10, 11, 12, 13, 14, 15, 16, 17, 18], [0, 1, 0, 4, 12, 31, 63, 127, 255, 127, 639, 2047, 4095, 8191, 127, 16511, 49279, 131071, 262143]))]⟩
noncomputable def e125 : FnE := ⟨Tryz.f125, 17, 5, []⟩
noncomputable def e126 : FnE := ⟨Tryz.f126, 75, 73786976844594022655, []⟩
noncomputable def e127 : FnE := ⟨Tryz.f127, 1, 0, []⟩
noncomputable def e128 : FnE := ⟨Tryz.f128, 51, 9071107309821, []⟩
noncomputable def e129 : FnE := ⟨Tryz.f129, 39, 19, []⟩
noncomputable def e130 : FnE := ⟨Tryz.f130, 158, 713623851669891943555787633711047447270392831, [(15, ([0, 1, 2, 3, 4, 5, 6, 7, 8, 9, 10, 11, 12, 13, 14, 15, 16, 17, 18], [0, 1, 0, 4, 12, 31, 63, 127, 255, 127, 639, 2047, 4095, 8191, 127, 16511, 49279, 131071, 262143]))]⟩
noncomputable def e131 : FnE := ⟨Tryz.f131, 19, 179, []⟩
noncomputable def e132 : FnE := ⟨Tryz.f132, 14, 2397, []⟩
noncomputable def e133 : FnE := ⟨Tryz.f133, 18, 37213, []⟩
noncomputable def e134 : FnE := ⟨Tryz.f134, 17, 5, []⟩
noncomputable def e135 : FnE := ⟨Tryz.f135, 1, 0, []⟩
noncomputable def e136 : FnE := ⟨Tryz.f136, 1, 0, []⟩
noncomputable def e137 : FnE := ⟨Tryz.f137, 1, 0, []⟩
noncomputable def e138 : FnE := ⟨Tryz.f138, 1, 0, []⟩
noncomputable def e139 : FnE := ⟨Tryz.f139, 1, 0, []⟩
noncomputable def e140 : FnE := ⟨Tryz.f140, 1, 0, []⟩
noncomputable def e141 : FnE := ⟨Tryz.f141, 1, 0, []⟩
noncomputable def e142 : FnE := ⟨Tryz.f142, 1, 0, []⟩
noncomputable def e143 : FnE := ⟨Tryz.f143, 1, 0, []⟩
noncomputable def e144 : FnE := ⟨Tryz.f144, 1, 0, []⟩
noncomputable def e145 : FnE := ⟨Tryz.f145, 1, 0, []⟩
noncomputable def e146 : FnE := ⟨Tryz.f146, 1, 0, []⟩
noncomputable def e147 : FnE := ⟨Tryz.f147, 1, 0, []⟩
noncomputable def e148 : FnE := ⟨Tryz.f148, 1, 0, []⟩
noncomputable def e149 : FnE := ⟨Tryz.f149, 1, 0, []⟩
noncomputable def e150 : FnE := ⟨Tryz.f150, 1, 0, []⟩
noncomputable def e151 : FnE := ⟨Tryz.f151, 1, 0, []⟩
noncomputable def tab : Tr FnE := (.node (.node (.node (.node (.node (.node (.node (.node .nil (some e127) .nil) (some e63) .nil) (some e31) (.node .nil (some e95) .nil)) (some e15) (.node (.node (.node .nil (some e143) .nil) (some e79) .nil) (some e47) (.node .nil (some e111) .nil))) (some e7) (.node (.node (.node (.node .nil (some e135) .nil) (some e71) .nil) (some e39) (.node .nil (some e103) .nil)) (some e23) (.node (.node (.node .nil (some e151) .nil) (some e87) .nil) (some e55) (.node .nil (some e119) .nil)))) (some e3) (.node (.node (.node (.node (.node .nil (some e131) .nil) (some e67) .nil) (some e35) (.node .nil (some e99) .nil)) (some e19) (.node (.node (.node .nil (some e147) .nil) (some e83) .nil) (some e51) (.node .nil (some e115) .nil))) (some e11) (.node (.node (.node (.node .nil (some e139) .nil) (some e75) .nil) (some e43) (.node .nil (some e107) .nil)) (some e27) (.node (.node .nil (some e91) .nil) (some e59) (.node .nil (some e123) .nil))))) (some e1) (.node (.node (.node (.node (.node (.node .nil (some e129) .nil) (some e65) .nil) (some e33) (.node .nil (some e97) .nil)) (some e17) (.node (.node (.node .nil (some e145) .nil) (some e81) .nil) (some e49) (.node .nil (some e113) .nil))) (some e9) (.node (.node (.node (.node .nil (some e137) .nil) (some e73) .nil) (some e41) (.node .nil (some e105) .nil)) (some e25) (.node (.node .nil (some e89) .nil) (some e57) (.node .nil (some e121) .nil)))) (some e5) (.node (.node (.node (.node (.node .nil (some e133) .nil) (some e69) .nil) (some e37) (.node .nil (some e101) .nil)) (some e21) (.node (.node (.node .nil (some e149) .nil) (some e85) .nil) (some e53) (.node .nil (some e117) .nil))) (some e13) (.node (.node (.node (.node .nil (some e141) .nil) (some e77) .nil) (some e45) (.node .nil (some e109) .nil)) (some e29) (.node (.node .nil (some e93) .nil) (some e61) (.node .nil (some e125) .nil)))))) (some e0) (.node (.node (.node (.node (.node (.node (.node .nil (some e128) .nil) (some e64) .nil) (some e32) (.node .nil (some e96) .nil)) (some e16) (.node (.node (.node .nil (some e144) .nil) (some e80) .nil) (some e48) (.node .nil (some e112) .nil))) (some e8) (.node (.node (.node (.node .nil (some e136) .nil) (some e72) .nil) (some e40) (.node .nil (some e104) .nil)) (some e24) (.node (.node .nil (some e88) .nil) (some e56) (.node .nil (some e120) .nil)))) (some e4) (.node (.node (.node (.node (.node .nil (some e132) .nil) (some e68) .nil) (some e36) (.node .nil (some e100) .nil)) (some e20) (.node (.node (.node .nil (some e148) .nil) (some e84) .nil) (some e52) (.node .nil (some e116) .nil))) (some e12) (.node (.node (.node (.node .nil (some e140) .nil) (some e76) .nil) (some e44) (.node .nil (some e108) .nil)) (some e28) (.node (.node .nil (some e92) .nil) (some e60) (.node .nil (some e124) .nil))))) (some e2) (.node (.node (.node (.node (.node (.node .nil (some e130) .nil) (some e66) .nil) (some e34) (.node .nil (some e98) .nil)) (some e18) (.node (.node (.node .nil (some e146) .nil) (some e82) .nil) (some e50) (.node .nil (some e114) .nil))) (some e10) (.node (.node (.node (.node .nil (some e138) .nil) (some e74) .nil) (some e42) (.node .nil (some e106) .nil)) (some e26) (.node (.node .nil (some e90) .nil) (some e58) (.node .nil (some e122) .nil)))) (some e6) (.node (.node (.node (.node (.node .nil (some e134) .nil) (some e70) .nil) (some e38) (.node .nil (some e102) .nil)) (some e22) (.node (.node (.node .nil (some e150) .nil) (some e86) .nil) (some e54) (.node .nil (some e118) .nil))) (some e14) (.node (.node (.node (.node .nil (some e142) .nil) (some e78) .nil) (some e46) (.node .nil (some e110) .nil)) (some e30) (.node (.node .nil (some e94) .nil) (some e62) (.node .nil (some e126) .nil)))))))
theorem tab_eq : fnsOf Tryz.prog = tab := by kernel_rfl
noncomputable def envL (K : FuncId) : Env :=
  { P := Tryz.prog, fns := tab, tys := tysOf Tryz.prog, orc := fun f args => bif Nat.beq f K then (match args with
    | [] => some (.bool true, [])
    | _ :: _ => none) else none }
theorem envL_ok [Rho] {K : FuncId} (hb : hasBody Tryz.prog K = true) (h : yes (Go.AE.call { P := Tryz.prog, fns := tab, tys := tysOf Tryz.prog, orc := fun _ _ => none } 1000000 K [] ⟨.nil, 0⟩) = true) : EnvOk (envL K) := by
  have e : envL K = envK Tryz.prog K := by
    unfold envL envK
    rw [tab_eq]
    rfl
  rw [← tab_eq] at h
  rw [e]
  exact envK_ok env hb fun w => Go.AE.top env h (LRel.nil _) w
end Go.Proofs.YtiecclkgjcnaoaaGreat.Ae
namespace Go.Proofs.YtiecclkgjcnaoaaGreat.Ae
open Go.AE
set_option maxRecDepth 1000000
theorem envKnown [Rho] : EnvOk (envL 4) := envL_ok (by kernel_rfl) (by kernel_rfl)
end Go.Proofs.YtiecclkgjcnaoaaGreat.Ae
namespace Go.Proofs.YtiecclkgjcnaoaaGreat.Ae
open Go.AE Go.RowKit
set_option maxRecDepth 1000000
set_option linter.unusedVariables false
def d2 : ATy := ⟨(.int .i64), 1, 8, false, some [(.int .i64 0)], (.int .i64 0)⟩
def d3 : ATy := ⟨(.int .i64), 1, 8, false, some [(.int .i64 0)], (.int .i64 0)⟩
def d4 : ATy := ⟨.bool, 1, 1, false, some [(.bool false)], (.bool false)⟩
def d5 : ATy := ⟨(.int .u8), 1, 1, false, some [(.int .u8 0)], (.int .u8 0)⟩
def d6 : ATy := ⟨(.int .u8), 1, 1, false, some [(.int .u8 0)], (.int .u8 0)⟩
def d7 : ATy := ⟨(.struct #[⟨"x", 2, 0, false, "", "runtime", 0⟩, ⟨"y", 3, 1, false, "", "runtime", 8⟩, ⟨"signed", 4, 2, false, "", "runtime", 16⟩, ⟨"code", 6, 3, false, "", "runtime", 17⟩]), 4, 24, true, some [(.int .i64 0), (.int .i64 0), (.bool false), (.int .u8 0)], (.agg [(.int .i64 0), (.int .i64 0), (.bool false), (.int .u8 0)])⟩
def d8 : ATy := ⟨(.struct #[⟨"x", 2, 0, false, "", "runtime", 0⟩, ⟨"y", 3, 1, false, "", "runtime", 8⟩, ⟨"signed", 4, 2, false, "", "runtime", 16⟩, ⟨"code", 6, 3, false, "", "runtime", 17⟩]), 4, 24, true, some [(.int .i64 0), (.int .i64 0), (.bool false), (.int .u8 0)], (.agg [(.int .i64 0), (.int .i64 0), (.bool false), (.int .u8 0)])⟩
def d9 : ATy := ⟨.string, 1, 16, false, some [(.str [])], (.str [])⟩
def d10 : ATy := ⟨.string, 1, 16, false, some [(.str [])], (.str [])⟩
def d11 : ATy := ⟨.string, 1, 16, false, some [(.str [])], (.str [])⟩
def d12 : ATy := ⟨(.int .u64), 1, 8, false, some [(.int .u64 0)], (.int .u64 0)⟩
def d13 : ATy := ⟨(.struct #[⟨"msg", 9, 0, false, "", "runtime", 0⟩, ⟨"addr", 12, 1, false, "", "runtime", 16⟩]), 2, 24, true, some [(.str []), (.int .u64 0)], (.agg [(.str []), (.int .u64 0)])⟩
def d14 : ATy := ⟨(.struct #[⟨"msg", 9, 0, false, "", "runtime", 0⟩, ⟨"addr", 12, 1, false, "", "runtime", 16⟩]), 2, 24, true, some [(.str []), (.int .u64 0)], (.agg [(.str []), (.int .u64 0)])⟩
def d15 : ATy := ⟨(.pointer 197), 1, 8, false, some [.nilp], .nilp⟩
def d16 : ATy := ⟨(.pointer 200), 1, 8, false, some [.nilp], .nilp⟩
def d17 : ATy := ⟨(.pointer 209), 1, 8, false, some [.nilp], .nilp⟩
def d18 : ATy := ⟨(.struct #[⟨"typ", 17, 0, false, "", "internal/runtime/maps", 0⟩]), 1, 8, true, some [.nilp], (.agg [.nilp])⟩
def d19 : ATy := ⟨(.struct #[⟨"typ", 17, 0, false, "", "internal/runtime/maps", 0⟩]), 1, 8, true, some [.nilp], (.agg [.nilp])⟩
def d21 : ATy := ⟨(.int .i32), 1, 4, false, some [(.int .i32 0)], (.int .i32 0)⟩
def d22 : ATy := ⟨(.slice 5), 1, 24, false, some [.nils], .nils⟩
def d24 : ATy := ⟨(.slice 61), 1, 24, false, some [.nils], .nils⟩
def d25 : ATy := ⟨(.slice 65), 1, 24, false, some [.nils], .nils⟩
def d26 : ATy := ⟨(.slice 47), 1, 24, false, some [.nils], .nils⟩
def d27 : ATy := ⟨(.struct #[⟨"Name", 9, 0, false, "", "", 0⟩, ⟨"Super", 9, 1, false, "", "", 16⟩, ⟨"Pool", 24, 2, false, "", "", 32⟩, ⟨"Fields", 25, 3, false, "", "", 56⟩, ⟨"Methods", 26, 4, false, "", "", 80⟩]), 5, 104, true, some [(.str []), (.str []), .nils, .nils, .nils], (.agg [(.str []), (.str []), .nils, .nils, .nils])⟩
def d28 : ATy := ⟨(.struct #[⟨"Name", 9, 0, false, "", "", 0⟩, ⟨"Super", 9, 1, false, "", "", 16⟩, ⟨"Pool", 24, 2, false, "", "", 32⟩, ⟨"Fields", 25, 3, false, "", "", 56⟩, ⟨"Methods", 26, 4, false, "", "", 80⟩]), 5, 104, true, some [(.str []), (.str []), .nils, .nils, .nils], (.agg [(.str []), (.str []), .nils, .nils, .nils])⟩
def d29 : ATy := ⟨(.int .i64), 1, 8, false, some [(.int .i64 0)], (.int .i64 0)⟩
def d39 : ATy := ⟨(.struct #[⟨"Op", 3, 0, false, "", "", 0⟩, ⟨"A", 3, 1, false, "", "", 8⟩]), 2, 16, true, some [(.int .i64 0), (.int .i64 0)], (.agg [(.int .i64 0), (.int .i64 0)])⟩
def d40 : ATy := ⟨(.struct #[⟨"Op", 3, 0, false, "", "", 0⟩, ⟨"A", 3, 1, false, "", "", 8⟩]), 2, 16, true, some [(.int .i64 0), (.int .i64 0)], (.agg [(.int .i64 0), (.int .i64 0)])⟩
def d41 : ATy := ⟨(.slice 43), 1, 24, false, some [.nils], .nils⟩
def d42 : ATy := ⟨(.struct #[⟨"Kind", 3, 0, false, "", "", 0⟩, ⟨"Class", 9, 1, false, "", "", 8⟩]), 2, 24, true, some [(.int .i64 0), (.str [])], (.agg [(.int .i64 0), (.str [])])⟩
def d43 : ATy := ⟨(.struct #[⟨"Kind", 3, 0, false, "", "", 0⟩, ⟨"Class", 9, 1, false, "", "", 8⟩]), 2, 24, true, some [(.int .i64 0), (.str [])], (.agg [(.int .i64 0), (.str [])])⟩
def d44 : ATy := ⟨(.slice 40), 1, 24, false, some [.nils], .nils⟩
def d45 : ATy := ⟨(.slice 88), 1, 24, false, some [.nils], .nils⟩
def d46 : ATy := ⟨(.struct #[⟨"Name", 9, 0, false, "", "", 0⟩, ⟨"Params", 41, 1, false, "", "", 16⟩, ⟨"Ret", 43, 2, false, "", "", 40⟩, ⟨"Locals", 3, 4, false, "", "", 64⟩, ⟨"Stack", 3, 5, false, "", "", 72⟩, ⟨"Code", 44, 6, false, "", "", 80⟩, ⟨"Handlers", 45, 7, false, "", "", 104⟩]), 8, 128, true, some [(.str []), .nils, (.int .i64 0), (.str []), (.int .i64 0), (.int .i64 0), .nils, .nils], (.agg [(.str []), .nils, (.int .i64 0), (.str []), (.int .i64 0), (.int .i64 0), .nils, .nils])⟩
def d47 : ATy := ⟨(.struct #[⟨"Name", 9, 0, false, "", "", 0⟩, ⟨"Params", 41, 1, false, "", "", 16⟩, ⟨"Ret", 43, 2, false, "", "", 40⟩, ⟨"Locals", 3, 4, false, "", "", 64⟩, ⟨"Stack", 3, 5, false, "", "", 72⟩, ⟨"Code", 44, 6, false, "", "", 80⟩, ⟨"Handlers", 45, 7, false, "", "", 104⟩]), 8, 128, true, some [(.str []), .nils, (.int .i64 0), (.str []), (.int .i64 0), (.int .i64 0), .nils, .nils], (.agg [(.str []), .nils, (.int .i64 0), (.str []), (.int .i64 0), (.int .i64 0), .nils, .nils])⟩
def d50 : ATy := ⟨(.pointer 54), 1, 8, false, some [.nilp], .nilp⟩
def d51 : ATy := ⟨(.pointer 108), 1, 8, false, some [.nilp], .nilp⟩
def d53 : ATy := ⟨(.struct #[⟨"r", 51, 0, false, "", "loom/class", 0⟩, ⟨"e", 29, 1, false, "", "loom/class", 8⟩]), 2, 16, true, some [.nilp, (.int .i64 0)], (.agg [.nilp, (.int .i64 0)])⟩
def d54 : ATy := ⟨(.struct #[⟨"r", 51, 0, false, "", "loom/class", 0⟩, ⟨"e", 29, 1, false, "", "loom/class", 8⟩]), 2, 16, true, some [.nilp, (.int .i64 0)], (.agg [.nilp, (.int .i64 0)])⟩
def d59 : ATy := ⟨(.complex .f64), 1, 16, false, some [(.cplx .f64 0 0)], (.cplx .f64 0 0)⟩
def d60 : ATy := ⟨(.struct #[⟨"Kind", 3, 0, false, "", "", 0⟩, ⟨"Int", 2, 1, false, "", "", 8⟩, ⟨"Cplx", 59, 2, false, "", "", 16⟩, ⟨"Class", 9, 3, false, "", "", 32⟩, ⟨"Name", 9, 4, false, "", "", 48⟩]), 5, 64, true, some [(.int .i64 0), (.int .i64 0), (.cplx .f64 0 0), (.str []), (.str [])], (.agg [(.int .i64 0), (.int .i64 0), (.cplx .f64 0 0), (.str []), (.str [])])⟩
def d61 : ATy := ⟨(.struct #[⟨"Kind", 3, 0, false, "", "", 0⟩, ⟨"Int", 2, 1, false, "", "", 8⟩, ⟨"Cplx", 59, 2, false, "", "", 16⟩, ⟨"Class", 9, 3, false, "", "", 32⟩, ⟨"Name", 9, 4, false, "", "", 48⟩]), 5, 64, true, some [(.int .i64 0), (.int .i64 0), (.cplx .f64 0 0), (.str []), (.str [])], (.agg [(.int .i64 0), (.int .i64 0), (.cplx .f64 0 0), (.str []), (.str [])])⟩
def d64 : ATy := ⟨(.struct #[⟨"Name", 9, 0, false, "", "", 0⟩, ⟨"Type", 43, 1, false, "", "", 16⟩, ⟨"Volatile", 4, 3, false, "", "", 40⟩]), 4, 48, true, some [(.str []), (.int .i64 0), (.str []), (.bool false)], (.agg [(.str []), (.int .i64 0), (.str []), (.bool false)])⟩
def d65 : ATy := ⟨(.struct #[⟨"Name", 9, 0, false, "", "", 0⟩, ⟨"Type", 43, 1, false, "", "", 16⟩, ⟨"Volatile", 4, 3, false, "", "", 40⟩]), 4, 48, true, some [(.str []), (.int .i64 0), (.str []), (.bool false)], (.agg [(.str []), (.int .i64 0), (.str []), (.bool false)])⟩
def d70 : ATy := ⟨(.pointer 75), 1, 8, false, some [.nilp], .nilp⟩
def d71 : ATy := ⟨(.pointer 73), 1, 8, false, some [.nilp], .nilp⟩
def d72 : ATy := ⟨(.struct #[⟨"B", 22, 0, false, "", "", 0⟩]), 1, 24, true, some [.nils], (.agg [.nils])⟩
def d73 : ATy := ⟨(.struct #[⟨"B", 22, 0, false, "", "", 0⟩]), 1, 24, true, some [.nils], (.agg [.nils])⟩
def d74 : ATy := ⟨(.struct #[⟨"r", 71, 0, false, "", "loom/loomref5", 0⟩, ⟨"bad", 4, 1, false, "", "loom/loomref5", 8⟩]), 2, 16, true, some [.nilp, (.bool false)], (.agg [.nilp, (.bool false)])⟩
def d75 : ATy := ⟨(.struct #[⟨"r", 71, 0, false, "", "loom/loomref5", 0⟩, ⟨"bad", 4, 1, false, "", "loom/loomref5", 8⟩]), 2, 16, true, some [.nilp, (.bool false)], (.agg [.nilp, (.bool false)])⟩
def d80 : ATy := ⟨(.int .u64), 1, 8, false, some [(.int .u64 0)], (.int .u64 0)⟩
def d81 : ATy := ⟨(.array 2 80), 2, 16, true, some [(.int .u64 0), (.int .u64 0)], (.agg [(.int .u64 0), (.int .u64 0)])⟩
def d87 : ATy := ⟨(.struct #[⟨"From", 3, 0, false, "", "", 0⟩, ⟨"To", 3, 1, false, "", "", 8⟩, ⟨"Target", 3, 2, false, "", "", 16⟩, ⟨"Class", 3, 3, false, "", "", 24⟩, ⟨"Depth", 3, 4, false, "", "", 32⟩]), 5, 40, true, some [(.int .i64 0), (.int .i64 0), (.int .i64 0), (.int .i64 0), (.int .i64 0)], (.agg [(.int .i64 0), (.int .i64 0), (.int .i64 0), (.int .i64 0), (.int .i64 0)])⟩
def d88 : ATy := ⟨(.struct #[⟨"From", 3, 0, false, "", "", 0⟩, ⟨"To", 3, 1, false, "", "", 8⟩, ⟨"Target", 3, 2, false, "", "", 16⟩, ⟨"Class", 3, 3, false, "", "", 24⟩, ⟨"Depth", 3, 4, false, "", "", 32⟩]), 5, 40, true, some [(.int .i64 0), (.int .i64 0), (.int .i64 0), (.int .i64 0), (.int .i64 0)], (.agg [(.int .i64 0), (.int .i64 0), (.int .i64 0), (.int .i64 0), (.int .i64 0)])⟩
def d94 : ATy := ⟨(.pointer 145), 1, 8, false, some [.nilp], .nilp⟩
def d107 : ATy := ⟨(.struct #[⟨"b", 22, 0, false, "", "loom/wire", 0⟩]), 1, 24, true, some [.nils], (.agg [.nils])⟩
def d108 : ATy := ⟨(.struct #[⟨"b", 22, 0, false, "", "loom/wire", 0⟩]), 1, 24, true, some [.nils], (.agg [.nils])⟩
def d142 : ATy := ⟨(.float .f64), 1, 8, false, some [(.float .f64 0)], (.float .f64 0)⟩
def d145 : ATy := ⟨(.struct #[⟨"b", 22, 0, false, "", "loom/wire", 0⟩]), 1, 24, true, some [.nils], (.agg [.nils])⟩
def d149 : ATy := ⟨(.slice 3), 1, 24, false, some [.nils], .nils⟩
def d168 : ATy := ⟨(.int .u64), 1, 8, false, some [(.int .u64 0)], (.int .u64 0)⟩
def d184 : ATy := ⟨(.array 2 142), 2, 16, true, some [(.float .f64 0), (.float .f64 0)], (.agg [(.float .f64 0), (.float .f64 0)])⟩
def d196 : ATy := ⟨(.struct #[⟨"_interface", 17, 0, false, "", "runtime", 0⟩, ⟨"concrete", 17, 1, false, "", "runtime", 8⟩, ⟨"asserted", 17, 2, false, "", "runtime", 16⟩, ⟨"missingMethod", 9, 3, false, "", "runtime", 24⟩]), 4, 40, true, some [.nilp, .nilp, .nilp, (.str [])], (.agg [.nilp, .nilp, .nilp, (.str [])])⟩
def d197 : ATy := ⟨(.struct #[⟨"_interface", 17, 0, false, "", "runtime", 0⟩, ⟨"concrete", 17, 1, false, "", "runtime", 8⟩, ⟨"asserted", 17, 2, false, "", "runtime", 16⟩, ⟨"missingMethod", 9, 3, false, "", "runtime", 24⟩]), 4, 40, true, some [.nilp, .nilp, .nilp, (.str [])], (.agg [.nilp, .nilp, .nilp, (.str [])])⟩
def d198 : ATy := ⟨(.array 0 16), 0, 0, true, some [], (.agg [])⟩
def d199 : ATy := ⟨(.struct #[⟨"_", 198, 0, false, "", "runtime", 0⟩]), 0, 0, true, some [], (.agg [])⟩
def d200 : ATy := ⟨(.struct #[⟨"_", 198, 0, false, "", "runtime", 0⟩]), 0, 0, true, some [], (.agg [])⟩
def d201 : ATy := ⟨(.int .u32), 1, 4, false, some [(.int .u32 0)], (.int .u32 0)⟩
def d202 : ATy := ⟨(.int .u8), 1, 1, false, some [(.int .u8 0)], (.int .u8 0)⟩
def d203 : ATy := ⟨(.int .u8), 1, 1, false, some [(.int .u8 0)], (.int .u8 0)⟩
def d205 : ATy := ⟨(.pointer 5), 1, 8, false, some [.nilp], .nilp⟩
def d206 : ATy := ⟨(.int .i32), 1, 4, false, some [(.int .i32 0)], (.int .i32 0)⟩
def d207 : ATy := ⟨(.int .i32), 1, 4, false, some [(.int .i32 0)], (.int .i32 0)⟩
def d208 : ATy := ⟨(.struct #[⟨"Size_", 12, 0, false, "", "", 0⟩, ⟨"PtrBytes", 12, 1, false, "", "", 8⟩, ⟨"Hash", 201, 2, false, "", "", 16⟩, ⟨"TFlag", 202, 3, false, "", "", 20⟩, ⟨"Align_", 5, 4, false, "", "", 21⟩, ⟨"FieldAlign_", 5, 5, false, "", "", 22⟩, ⟨"Kind_", 203, 6, false, "", "", 23⟩, ⟨"Equal", 204, 7, false, "", "", 24⟩, ⟨"GCData", 205, 8, false, "", "", 32⟩, ⟨"Str", 206, 9, false, "", "", 40⟩, ⟨"PtrToThis", 207, 10, false, "", "", 44⟩]), 11, 48, true, some [(.int .u64 0), (.int .u64 0), (.int .u32 0), (.int .u8 0), (.int .u8 0), (.int .u8 0), (.int .u8 0), .nilFunc, .nilp, (.int .i32 0), (.int .i32 0)], (.agg [(.int .u64 0), (.int .u64 0), (.int .u32 0), (.int .u8 0), (.int .u8 0), (.int .u8 0), (.int .u8 0), .nilFunc, .nilp, (.int .i32 0), (.int .i32 0)])⟩
def d209 : ATy := ⟨(.struct #[⟨"Size_", 12, 0, false, "", "", 0⟩, ⟨"PtrBytes", 12, 1, false, "", "", 8⟩, ⟨"Hash", 201, 2, false, "", "", 16⟩, ⟨"TFlag", 202, 3, false, "", "", 20⟩, ⟨"Align_", 5, 4, false, "", "", 21⟩, ⟨"FieldAlign_", 5, 5, false, "", "", 22⟩, ⟨"Kind_", 203, 6, false, "", "", 23⟩, ⟨"Equal", 204, 7, false, "", "", 24⟩, ⟨"GCData", 205, 8, false, "", "", 32⟩, ⟨"Str", 206, 9, false, "", "", 40⟩, ⟨"PtrToThis", 207, 10, false, "", "", 44⟩]), 11, 48, true, some [(.int .u64 0), (.int .u64 0), (.int .u32 0), (.int .u8 0), (.int .u8 0), (.int .u8 0), (.int .u8 0), .nilFunc, .nilp, (.int .i32 0), (.int .i32 0)], (.agg [(.int .u64 0), (.int .u64 0), (.int .u32 0), (.int .u8 0), (.int .u8 0), (.int .u8 0), (.int .u8 0), .nilFunc, .nilp, (.int .i32 0), (.int .i32 0)])⟩
noncomputable def tyT : Tr ATy := (.node (.node (.node (.node (.node .nil (some d15) (.node (.node .nil none (.node .nil (some d207) .nil)) (some d47) .nil)) (some d7) (.node (.node (.node .nil (some d71) (.node .nil (some d199) .nil)) (some d39) .nil) none (.node (.node .nil (some d87) .nil) none .nil))) (some d3) (.node (.node .nil (some d19) (.node .nil (some d51) .nil)) (some d11) (.node (.node (.node .nil (some d75) (.node .nil (some d203) .nil)) (some d43) (.node .nil (some d107) .nil)) (some d27) (.node .nil (some d59) .nil)))) none (.node (.node (.node (.node (.node .nil (some d65) .nil) none .nil) (some d17) (.node (.node (.node .nil (some d145) .nil) (some d81) (.node .nil (some d209) .nil)) none .nil)) (some d9) (.node (.node (.node .nil (some d73) (.node .nil (some d201) .nil)) (some d41) .nil) (some d25) .nil)) (some d5) (.node (.node (.node (.node .nil none (.node .nil (some d197) .nil)) none .nil) (some d21) (.node (.node (.node .nil (some d149) .nil) none .nil) (some d53) .nil)) (some d13) (.node (.node (.node .nil none (.node .nil (some d205) .nil)) (some d45) .nil) (some d29) (.node .nil (some d61) .nil))))) none (.node (.node (.node (.node (.node (.node .nil (some d64) .nil) none .nil) (some d16) (.node (.node .nil (some d80) (.node .nil (some d208) .nil)) none .nil)) (some d8) (.node (.node (.node .nil (some d72) (.node .nil (some d200) .nil)) (some d40) (.node (.node .nil (some d168) .nil) none .nil)) (some d24) (.node (.node .nil (some d88) .nil) none (.node (.node .nil (some d184) .nil) none .nil)))) (some d4) (.node (.node (.node (.node .nil none (.node .nil (some d196) .nil)) none .nil) none .nil) (some d12) (.node (.node .nil (some d44) (.node .nil (some d108) .nil)) (some d28) (.node .nil (some d60) .nil)))) (some d2) (.node (.node (.node .nil (some d18) (.node .nil (some d50) .nil)) (some d10) (.node (.node (.node .nil (some d74) (.node .nil (some d202) .nil)) (some d42) .nil) (some d26) .nil)) (some d6) (.node (.node (.node (.node .nil (some d70) (.node .nil (some d198) .nil)) none .nil) (some d22) (.node .nil (some d54) .nil)) (some d14) (.node (.node (.node (.node .nil (some d142) .nil) none (.node .nil (some d206) .nil)) (some d46) .nil) none (.node (.node .nil (some d94) .nil) none .nil))))))
def tyKeys : List Nat := [2, 3, 4, 5, 6, 7, 8, 9, 10, 11, 12, 13, 14, 15, 16, 17, 18, 19, 21, 22, 24, 25, 26, 27, 28, 29, 39, 40, 41, 42, 43, 44, 45, 46, 47, 50, 51, 53, 54, 59, 60, 61, 64, 65, 70, 71, 72, 73, 74, 75, 80, 81, 87, 88, 94, 107, 108, 142, 145, 149, 168, 184, 196, 197, 198, 199, 200, 201, 202, 203, 205, 206, 207, 208, 209]
def cutTo (t : Tr ATy) : List Nat → Tr ATy → Tr ATy
  | [], a => a
  | k :: l, a => cutTo t l (match t.get k with
    | some d => a.set k d
    | none => a)
theorem cutTo_get (t : Tr ATy) : ∀ (l : List Nat) (a : Tr ATy) (j : Nat) (d : ATy), (cutTo t l a).get j = some d → t.get j = some d ∨ a.get j = some d
  | [], a, j, d, h => .inr h
  | k :: l, a, j, d, h => by
    rcases cutTo_get t l _ j d h with h1 | h1
    · exact .inl h1
    · clear h
      split at h1
      · rename_i e he
        rw [Tr.get_set] at h1
        by_cases hj : j = k
        · rw [if_pos hj] at h1
          rw [hj]
          exact .inl (he.trans h1)
        · rw [if_neg hj] at h1
          exact .inr h1
      · exact .inr h1
theorem tyT_eq : cutTo (tysOf Tryz.prog) tyKeys .nil = tyT := by kernel_rfl
theorem tyT_ok (j : Nat) (d : ATy) (h : tyT.get j = some d) : (tysOf Tryz.prog).get j = some d := by
  rw [← tyT_eq] at h
  rcases cutTo_get _ _ _ j d h with h | h
  · exact h
  · cases h
noncomputable def ES (K : FuncId) : Env := { P := Tryz.prog, fns := tab, tys := tyT, orc := (envL K).orc }
theorem ES_ok [Rho] {K : FuncId} (h : EnvOk (envL K)) : EnvOk (ES K) :=
  ⟨fun t d hd => h.ty t d (tyT_ok t d hd), h.fn, h.code, h.mixed, h.ext1, h.ext2, h.orc⟩
theorem orc_cons {K f : FuncId} {v : AV} {vs : List AV} : (ES K).orc f (v :: vs) = none := by
  show (bif Nat.beq f K then _ else _) = _
  cases Nat.beq f K <;> rfl
end Go.Proofs.YtiecclkgjcnaoaaGreat.Ae
