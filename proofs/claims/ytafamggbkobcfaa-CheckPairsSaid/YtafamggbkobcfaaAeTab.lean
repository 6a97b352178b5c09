/-
  THE EVALUATOR'S TABLE OF FUNCTIONS, as literals; it is the one that is reckoned out.
-/
import Derived.Test.YtafamggbkobcfaaAeEnv
import Derived.Test.YtafamggbkobcfaaAeFast2
namespace Go.Proofs.Ytafamggbkobcfaa.Ae
open Go.AE Go.RowKit
set_option maxRecDepth 1000000
noncomputable def e0 : FnE := ⟨Try.f0, 0, 0, []⟩
noncomputable def e1 : FnE := ⟨Try.f1, 0, 0, []⟩
noncomputable def e2 : FnE := ⟨Try.f2, 1, 0, []⟩
noncomputable def e3 : FnE := ⟨Try.f3, 44, 3005, []⟩
noncomputable def e4 : FnE := ⟨Try.f4, 66, 633885666881479, []⟩
noncomputable def e5 : FnE := ⟨Try.f5, 51, 3005, []⟩
noncomputable def e6 : FnE := ⟨Try.f6, 81, 12029, []⟩
noncomputable def e7 : FnE := ⟨Try.f7, 118, 651572427935690113301323433566151, [(7, ([0, 1, 2, 3, 4, 5, 6, 7, 8, 9, 10, 11, 12, 18, 13, 14, 15, 16, 17, 19, 20, 21], [0, 1, 3, 7, 0, 16, 48, 127, 255, 0, 512, 1536, 4095, 8191, 16383, 32767, 32767, 32767, 0, 327679, 917503, 2097151]))]⟩
noncomputable def e8 : FnE := ⟨Try.f8, 41, 1811, []⟩
noncomputable def e9 : FnE := ⟨Try.f9, 32, 1049533, []⟩
noncomputable def e10 : FnE := ⟨Try.f10, 35, 537003005, []⟩
noncomputable def e11 : FnE := ⟨Try.f11, 19, 2079, []⟩
noncomputable def e12 : FnE := ⟨Try.f12, 41, 34896741373, []⟩
noncomputable def e13 : FnE := ⟨Try.f13, 45, 4399121317791, [(7, ([0, 1, 2, 4, 6, 3, 5, 7], [0, 0, 0, 7, 0, 31, 0, 127]))]⟩
noncomputable def e14 : FnE := ⟨Try.f14, 136, 5319528434095102696785765298760400893, []⟩
noncomputable def e15 : FnE := ⟨Try.f15, 21, 131597, [(3, ([0, 1, 2, 3, 4], [0, 0, 2, 7, 15]))]⟩
noncomputable def e16 : FnE := ⟨Try.f16, 13, 5, [(1, ([0, 1, 2, 3, 4, 5, 6, 7, 8, 9, 10], [0, 1, 3, 7, 0, 16, 48, 112, 255, 511, 1023]))]⟩
noncomputable def e17 : FnE := ⟨Try.f17, 83, 1126457745084079, []⟩
noncomputable def e18 : FnE := ⟨Try.f18, 36, 65565, [(5, ([0, 1, 2, 3, 4, 5, 6, 7, 8, 9], [0, 0, 2, 0, 8, 0, 0, 64, 255, 511]))]⟩
noncomputable def e19 : FnE := ⟨Try.f19, 5, 1, []⟩
noncomputable def e20 : FnE := ⟨Try.f20, 44, 1100017053455, []⟩
noncomputable def e21 : FnE := ⟨Try.f21, 39, 1966823, [(5, ([0, 1, 2, 3, 4, 5, 6, 7, 8, 9, 10, 11, 12, 13, 14], [0, 0, 2, 6, 14, 0, 32, 0, 128, 480, 992, 2046, 4095, 8191, 16383]))]⟩
noncomputable def e22 : FnE := ⟨Try.f22, 21, 59, []⟩
noncomputable def e23 : FnE := ⟨Try.f23, 17, 5, []⟩
noncomputable def e24 : FnE := ⟨Try.f24, 39, 19, []⟩
noncomputable def e25 : FnE := ⟨Try.f25, 15, 16541, []⟩
noncomputable def e26 : FnE := ⟨Try.f26, 9, 5, []⟩
noncomputable def e27 : FnE := ⟨Try.f27, 94, 38685663427401055688721395, []⟩
noncomputable def e28 : FnE := ⟨Try.f28, 34, 2156003357, [(7, ([0, 1, 2, 3, 4, 5], [0, 1, 0, 0, 12, 31]))]⟩
noncomputable def e29 : FnE := ⟨Try.f29, 29, 51, []⟩
noncomputable def e30 : FnE := ⟨Try.f30, 19, 31, [(1, ([0, 1, 2, 3, 4, 5, 6, 7, 8, 9, 10, 11, 12, 13], [0, 1, 0, 4, 12, 0, 32, 96, 255, 0, 512, 2047, 4095, 8191]))]⟩
noncomputable def e31 : FnE := ⟨Try.f31, 45, 137438986269, [(10, ([0, 1, 2, 3, 4], [0, 0, 2, 7, 15]))]⟩
noncomputable def e32 : FnE := ⟨Try.f32, 144, 10890284488864512990345014134898358632317, [(10, ([0, 1, 2, 3, 5, 6, 7, 8, 9, 10, 11, 4, 12, 13, 14], [0, 0, 2, 6, 15, 0, 0, 64, 192, 448, 960, 1984, 4095, 8191, 16383])), (16, ([0, 1, 2, 3, 4, 5, 6, 7, 8, 9, 10, 11, 12, 13, 17, 18, 19, 20, 21, 14, 15, 16, 22], [0, 0, 2, 6, 14, 30, 62, 126, 254, 510, 1022, 2046, 4094, 4094, 16382, 32766, 65534, 0, 131072, 393216, 917504, 1966080, 4194303])), (21, ([0, 1, 2, 3, 4, 5, 6, 8, 9, 7, 10], [0, 0, 0, 0, 0, 24, 56, 126, 0, 256, 1023]))]⟩
noncomputable def e33 : FnE := ⟨Try.f33, 137, 302231454912041321504763, [(1, ([0, 1, 2, 3, 4, 5, 6, 7, 8, 9], [0, 1, 3, 7, 0, 16, 63, 127, 255, 511])), (12, ([0, 1, 3, 5, 7, 8, 2, 4, 6, 9], [0, 0, 2, 0, 14, 0, 62, 0, 128, 511])), (14, ([0, 1, 2, 3, 4, 5, 6, 8, 9, 7, 10], [0, 0, 2, 0, 8, 30, 0, 126, 0, 256, 1023])), (17, ([0, 1, 2, 3, 6, 19, 20, 4, 5, 7, 8, 9, 10, 11, 13, 12, 14, 15, 16, 17, 18, 21], [0, 0, 2, 6, 14, 30, 6, 126, 254, 510, 1022, 2046, 4094, 2046, 16382, 32766, 65534, 131070, 262142, 0, 524288, 2097151])), (18, ([0, 1, 5, 6, 2, 3, 4, 7], [0, 0, 2, 6, 14, 0, 32, 127]))]⟩
noncomputable def e34 : FnE := ⟨Try.f34, 63, 16785003, [(7, ([0, 1, 2, 3, 4, 5, 6, 7, 8, 9, 10, 11, 12, 13, 14, 15, 19, 20, 16, 17, 18, 21], [0, 0, 2, 6, 14, 30, 62, 126, 254, 510, 254, 1278, 3326, 7422, 16382, 32766, 65534, 131070, 262142, 0, 524288, 2097151]))]⟩
noncomputable def e35 : FnE := ⟨Try.f35, 23, 16507, []⟩
noncomputable def e36 : FnE := ⟨Try.f36, 51, 17600783858447, []⟩
noncomputable def e37 : FnE := ⟨Try.f37, 26, 16455, []⟩
noncomputable def e38 : FnE := ⟨Try.f38, 10, 7, []⟩
noncomputable def e39 : FnE := ⟨Try.f39, 9, 7, []⟩
noncomputable def e40 : FnE := ⟨Try.f40, 32, 4125, [(5, ([0, 1, 2, 3, 4, 5, 6, 7, 8, 9], [0, 0, 2, 0, 8, 0, 0, 64, 255, 511]))]⟩
noncomputable def e41 : FnE := ⟨Try.f41, 17, 1822, []⟩
noncomputable def e42 : FnE := ⟨Try.f42, 81, 9739881433885930045563, [(17, ([0, 1, 2, 3, 4, 5, 6, 7, 8, 9, 12, 10, 11, 13], [0, 0, 2, 6, 14, 30, 62, 126, 0, 256, 1022, 2046, 0, 8191]))]⟩
noncomputable def e43 : FnE := ⟨Try.f43, 15, 103, [(1, ([0, 1, 2, 3, 4, 5, 6, 7, 8], [0, 1, 3, 7, 0, 0, 32, 127, 255]))]⟩
noncomputable def e44 : FnE := ⟨Try.f44, 16, 4147, []⟩
noncomputable def e45 : FnE := ⟨Try.f45, 26, 16397, []⟩
noncomputable def e46 : FnE := ⟨Try.f46, 16, 275, []⟩
noncomputable def e47 : FnE := ⟨Try.f47, 84, 19599665853194340349, [(4, ([0, 1, 4, 6, 2, 3, 5, 7], [0, 0, 2, 7, 0, 31, 0, 127])), (18, ([0, 1, 2, 3, 6, 4, 5, 7, 8, 9], [0, 0, 2, 0, 8, 30, 0, 126, 255, 511])), (20, ([0, 1, 2, 3, 4], [0, 0, 2, 7, 15]))]⟩
noncomputable def e48 : FnE := ⟨Try.f48, 9, 19, []⟩
noncomputable def e49 : FnE := ⟨Try.f49, 9, 15, []⟩
noncomputable def e50 : FnE := ⟨Try.f50, 9, 19, []⟩
noncomputable def e51 : FnE := ⟨Try.f51, 24, 139719, []⟩
noncomputable def e52 : FnE := ⟨Try.f52, 100, 167895759572861162755530962419, [(14, ([0, 1, 2, 3, 4, 5, 6, 7, 8, 9], [0, 1, 3, 7, 0, 0, 0, 96, 224, 511]))]⟩
noncomputable def e53 : FnE := ⟨Try.f53, 23, 33331, []⟩
noncomputable def e54 : FnE := ⟨Try.f54, 49, 64428458331, [(12, ([0, 1, 2, 3, 7, 8, 4, 5, 6, 9], [0, 0, 0, 4, 12, 30, 62, 0, 128, 511]))]⟩
noncomputable def e55 : FnE := ⟨Try.f55, 9, 15, []⟩
noncomputable def e56 : FnE := ⟨Try.f56, 9, 15, []⟩
noncomputable def e57 : FnE := ⟨Try.f57, 26, 16806963, [(6, ([0, 1, 2, 3, 4, 5, 6, 7, 8], [0, 0, 3, 7, 0, 0, 48, 112, 255]))]⟩
noncomputable def e58 : FnE := ⟨Try.f58, 19, 1005, []⟩
noncomputable def e59 : FnE := ⟨Try.f59, 176, 11737685026218808063509204692542313661577624291295, [(11, ([0, 1, 2, 3, 4, 6, 5, 7], [0, 0, 2, 6, 14, 31, 0, 127])), (20, ([0, 1, 2, 3, 4, 5, 6, 7, 8], [0, 0, 2, 6, 14, 30, 62, 0, 255])), (21, ([0, 1, 2, 3, 4, 6, 5, 7], [0, 0, 2, 6, 14, 31, 0, 127])), (22, ([0, 1, 2, 3, 4, 5, 6, 7, 8, 9, 10, 11, 12, 13, 17, 14, 15, 16, 18], [0, 0, 2, 6, 14, 30, 62, 126, 254, 254, 254, 1278, 3326, 7422, 16382, 32766, 65534, 0, 262143])), (27, ([0, 1, 2, 3, 4, 6, 5, 7], [0, 0, 2, 6, 14, 31, 0, 127])), (28, ([0, 1, 4, 2, 3, 5], [0, 0, 2, 6, 0, 31])), (35, ([0, 1, 2, 3, 4, 6, 5, 7], [0, 0, 2, 6, 14, 31, 0, 127]))]⟩
noncomputable def e60 : FnE := ⟨Try.f60, 66, 4503603955892535, []⟩
noncomputable def e61 : FnE := ⟨Try.f61, 19, 66483, []⟩
noncomputable def e62 : FnE := ⟨Try.f62, 8, 15, []⟩
noncomputable def e63 : FnE := ⟨Try.f63, 18, 9373, []⟩
noncomputable def e64 : FnE := ⟨Try.f64, 36, 65565, [(5, ([0, 1, 2, 3, 4, 5, 6, 7, 8, 9], [0, 0, 2, 0, 8, 0, 0, 64, 255, 511]))]⟩
noncomputable def e65 : FnE := ⟨Try.f65, 5, 5, []⟩
noncomputable def e66 : FnE := ⟨Try.f66, 36, 33570931, []⟩
noncomputable def e67 : FnE := ⟨Try.f67, 17, 83, []⟩
noncomputable def e68 : FnE := ⟨Try.f68, 97, 1138090322373783551221627, [(10, ([0, 1, 2, 3, 4, 5, 6, 7, 12, 8, 9, 10, 11, 13, 14], [0, 1, 3, 7, 0, 16, 0, 64, 255, 511, 1023, 1023, 0, 6143, 16383])), (11, ([0, 1, 2, 3, 4, 5, 6, 7, 8, 9, 12, 13, 16, 10, 11, 14, 15, 17], [0, 0, 2, 6, 14, 30, 62, 126, 254, 510, 1022, 2046, 510, 4606, 16382, 32766, 0, 131071])), (16, ([0, 1, 2, 3, 4, 5, 6, 9, 7, 8, 10], [0, 0, 0, 0, 12, 28, 0, 126, 254, 0, 1023]))]⟩
noncomputable def e69 : FnE := ⟨Try.f69, 37, 8315, []⟩
noncomputable def e70 : FnE := ⟨Try.f70, 146, 669319516922867460157623611964859, [(11, ([0, 1, 2, 3, 4, 5, 6], [0, 0, 0, 4, 12, 31, 63])), (13, ([0, 1, 2, 3, 4, 5, 6, 7, 8, 9, 10, 11, 12, 13, 14], [0, 0, 2, 6, 14, 30, 62, 126, 254, 510, 1022, 2046, 4094, 0, 16383])), (16, ([0, 1, 2, 3, 4, 5, 6, 7], [0, 0, 2, 6, 14, 30, 0, 127])), (20, ([0, 1, 2, 3, 4, 5, 6, 7, 8, 9, 10, 11, 12, 13, 14, 15, 16, 17, 18, 19, 20, 21, 22, 26, 23, 24, 25, 27], [0, 0, 2, 6, 14, 30, 62, 126, 254, 510, 1022, 2046, 4094, 8190, 16382, 32766, 65534, 131070, 262142, 524286, 1048574, 16382, 2113534, 8388606, 16777214, 33554430, 0, 134217727])), (26, ([0, 1, 2, 3, 4, 5, 6, 7, 8, 9, 10, 11, 12, 13, 14, 15, 16, 17], [0, 0, 2, 6, 14, 30, 62, 126, 254, 510, 1022, 2046, 4094, 8190, 16382, 32766, 0, 131071])), (28, ([0, 1, 2, 3, 4, 5, 6, 7, 8, 9], [0, 0, 0, 4, 12, 0, 32, 96, 255, 511]))]⟩
noncomputable def e71 : FnE := ⟨Try.f71, 38, 17039411, []⟩
noncomputable def e72 : FnE := ⟨Try.f72, 28, 262157, [(4, ([0, 1, 2, 3, 4], [0, 0, 2, 7, 15]))]⟩
noncomputable def e73 : FnE := ⟨Try.f73, 19, 66483, []⟩
noncomputable def e74 : FnE := ⟨Try.f74, 28, 34668557, []⟩
noncomputable def e75 : FnE := ⟨Try.f75, 23, 16563, []⟩
noncomputable def e76 : FnE := ⟨Try.f76, 8, 21, []⟩
noncomputable def e77 : FnE := ⟨Try.f77, 17, 27, [(1, ([0, 1, 2, 3, 4, 5, 6, 7, 8, 9, 10, 11, 12], [0, 1, 3, 7, 15, 31, 63, 127, 15, 271, 1023, 2047, 4095]))]⟩
noncomputable def e78 : FnE := ⟨Try.f78, 21, 19, []⟩
noncomputable def e79 : FnE := ⟨Try.f79, 15, 491, []⟩
noncomputable def e80 : FnE := ⟨Try.f80, 60, 16777275, [(2, ([0, 1, 2, 3, 4, 5, 8, 9, 10, 11, 6, 7, 12], [0, 0, 2, 6, 14, 0, 62, 126, 0, 256, 768, 1792, 4095])), (6, ([0, 1, 2, 3, 6, 4, 5, 7], [0, 0, 0, 0, 14, 30, 0, 127])), (8, ([0, 1, 2, 3, 4, 5, 6, 7, 8, 9, 10, 11, 12, 13], [0, 0, 2, 6, 14, 0, 32, 0, 224, 480, 1022, 2047, 4095, 8191]))]⟩
noncomputable def e81 : FnE := ⟨Try.f81, 79, 73786976294838206715, [(4, ([0, 1, 2, 3, 4, 5, 6, 7, 8, 9, 10, 11, 12, 13, 14, 15, 16, 17, 18, 19, 20, 21, 22, 23], [0, 1, 3, 7, 15, 31, 63, 127, 255, 511, 1023, 2047, 4095, 8191, 16383, 32767, 65535, 8191, 139263, 524287, 1048575, 2097151, 4194303, 8388607])), (7, ([0, 1, 2, 3, 4, 5, 6, 10, 7, 8, 9, 11], [0, 0, 2, 6, 14, 14, 14, 126, 254, 510, 0, 2047]))]⟩
noncomputable def e82 : FnE := ⟨Try.f82, 5, 3, []⟩
noncomputable def e83 : FnE := ⟨Try.f83, 17, 119, [(1, ([0, 1, 2, 3, 4, 5, 6, 7, 8, 9, 10], [0, 1, 3, 7, 15, 31, 63, 0, 0, 511, 1023]))]⟩
noncomputable def e84 : FnE := ⟨Try.f84, 6, 7, []⟩
noncomputable def e85 : FnE := ⟨Try.f85, 37, 31, [(1, ([0, 1, 2, 3, 4, 5], [0, 0, 2, 6, 14, 31])), (3, ([0, 1, 2, 3, 4, 5, 8, 9, 10, 11, 6, 7, 12], [0, 0, 2, 6, 14, 0, 62, 126, 0, 256, 768, 1792, 4095]))]⟩
noncomputable def e86 : FnE := ⟨Try.f86, 71, 549755813947, [(2, ([0, 1, 2, 3, 4, 25, 5, 6, 7, 8, 9, 10, 11, 12, 13, 14, 15, 16, 17, 18, 19, 20, 21, 22, 23, 24, 26], [0, 0, 2, 6, 14, 30, 62, 126, 254, 510, 1022, 2046, 4094, 510, 8702, 32766, 65534, 131070, 262142, 524286, 1048574, 2097150, 4194302, 8388606, 16777214, 0, 67108863])), (3, ([0, 1, 2, 3, 4, 5, 6, 7, 8, 9, 10, 11], [0, 0, 2, 6, 14, 0, 32, 96, 254, 511, 1023, 2047])), (5, ([0, 1, 2, 3, 4, 5, 6, 7, 8, 9, 10, 11, 12, 13, 14], [0, 0, 2, 6, 14, 0, 32, 96, 224, 480, 992, 2046, 4095, 8191, 16383]))]⟩
noncomputable def e87 : FnE := ⟨Try.f87, 37, 16413, []⟩
noncomputable def e88 : FnE := ⟨Try.f88, 43, 549755879927, [(3, ([0, 1, 2, 3, 4, 5, 6, 7, 12, 8, 9, 10, 11, 13, 14], [0, 1, 3, 7, 0, 16, 0, 64, 255, 511, 1023, 1023, 0, 6143, 16383]))]⟩
noncomputable def e89 : FnE := ⟨Try.f89, 70, 281492425017327, [(12, ([0, 1, 2, 3, 4, 5, 6, 7, 8, 16, 9, 10, 11, 12, 13, 14, 15, 17], [0, 0, 2, 6, 14, 30, 62, 126, 254, 510, 1022, 2046, 4094, 8190, 16382, 32766, 0, 131071]))]⟩
noncomputable def e90 : FnE := ⟨Try.f90, 28, 13, []⟩
noncomputable def e91 : FnE := ⟨Try.f91, 16, 8193, []⟩
noncomputable def e92 : FnE := ⟨Try.f92, 138, 21352023078374861953716454886888996989, [(5, ([0, 1, 2, 3, 4, 5, 6, 7, 8, 9, 10, 11, 12, 13, 14, 15, 16, 17, 18, 19], [0, 1, 3, 7, 0, 16, 48, 112, 240, 0, 512, 1536, 3584, 7680, 15872, 32752, 65535, 131071, 0, 524287])), (13, ([0, 1, 2, 3, 4], [0, 0, 2, 7, 15])), (18, ([0, 1, 2, 3, 4], [0, 0, 2, 7, 15])), (19, ([0, 1, 2, 3, 4], [0, 0, 2, 7, 15])), (21, ([0, 1, 2, 3, 4], [0, 0, 2, 7, 15])), (25, ([0, 1, 2, 3, 4], [0, 0, 2, 7, 15])), (26, ([0, 1, 2, 3, 4], [0, 0, 2, 7, 15])), (30, ([0, 1, 2, 3, 4], [0, 0, 2, 7, 15])), (35, ([0, 1, 2, 3, 4], [0, 0, 2, 7, 15]))]⟩
noncomputable def e93 : FnE := ⟨Try.f93, 9, 1, []⟩
noncomputable def e94 : FnE := ⟨Try.f94, 25, 5, []⟩
noncomputable def e95 : FnE := ⟨Try.f95, 13, 5, []⟩
noncomputable def e96 : FnE := ⟨Try.f96, 19, 151, []⟩
noncomputable def e97 : FnE := ⟨Try.f97, 58, 268437751, []⟩
noncomputable def e98 : FnE := ⟨Try.f98, 22, 7, [(0, ([0, 1, 2, 3, 4, 5, 6, 7, 8, 9, 10, 11, 12, 13], [0, 0, 2, 6, 14, 0, 32, 0, 224, 480, 1022, 2047, 4095, 8191])), (1, ([0, 1, 2, 3, 4, 5], [0, 0, 2, 6, 14, 31]))]⟩
noncomputable def e99 : FnE := ⟨Try.f99, 74, 9232379271006265469, [(6, ([0, 1, 2, 5, 3, 4, 6], [0, 1, 0, 4, 15, 0, 63])), (15, ([0, 1, 2, 3, 4], [0, 0, 2, 7, 15])), (19, ([0, 1, 2, 5, 3, 4, 6, 7], [0, 1, 0, 4, 15, 0, 63, 127])), (21, ([0, 1, 2, 5, 3, 4, 6, 7], [0, 1, 0, 4, 15, 0, 63, 127]))]⟩
noncomputable def e100 : FnE := ⟨Try.f100, 16, 7, []⟩
noncomputable def e101 : FnE := ⟨Try.f101, 11, 13, []⟩
noncomputable def e102 : FnE := ⟨Try.f102, 11, 13, []⟩
noncomputable def e103 : FnE := ⟨Try.f103, 107, 4952062397819796798040974331, [(8, ([0, 1, 2, 3, 4], [0, 0, 2, 7, 15])), (13, ([0, 1, 2, 3, 4], [0, 0, 2, 7, 15])), (21, ([0, 1, 2, 3, 4], [0, 0, 2, 7, 15])), (27, ([0, 1, 2, 3, 4], [0, 0, 2, 7, 15]))]⟩
noncomputable def e104 : FnE := ⟨Try.f104, 12, 71, []⟩
noncomputable def e105 : FnE := ⟨Try.f105, 108, 1284492909113948242460733, [(8, ([0, 1, 2, 3, 4, 5], [0, 1, 0, 4, 15, 31])), (10, ([0, 1, 2, 3, 4, 5], [0, 1, 0, 4, 15, 31])), (12, ([0, 1, 2, 3, 4, 5], [0, 1, 0, 4, 15, 31])), (34, ([0, 1, 2, 3, 4], [0, 0, 2, 7, 15]))]⟩
noncomputable def e106 : FnE := ⟨Try.f106, 25, 32859, [(4, ([0, 1, 2, 3, 4], [0, 0, 2, 7, 15])), (6, ([0, 1, 2, 3, 4], [0, 0, 2, 7, 15]))]⟩
noncomputable def e107 : FnE := ⟨Try.f107, 1, 0, []⟩
noncomputable def e108 : FnE := ⟨Try.f108, 1, 0, []⟩
noncomputable def e109 : FnE := ⟨Try.f109, 1, 0, []⟩
noncomputable def e110 : FnE := ⟨Try.f110, 1, 0, []⟩
noncomputable def e111 : FnE := ⟨Try.f111, 1, 0, []⟩
noncomputable def e112 : FnE := ⟨Try.f112, 1, 0, []⟩
noncomputable def e113 : FnE := ⟨Try.f113, 1, 0, []⟩
noncomputable def e114 : FnE := ⟨Try.f114, 1, 0, []⟩
noncomputable def e115 : FnE := ⟨Try.f115, 1, 0, []⟩
noncomputable def e116 : FnE := ⟨Try.f116, 1, 0, []⟩
noncomputable def e117 : FnE := ⟨Try.f117, 1, 0, []⟩
noncomputable def e118 : FnE := ⟨Try.f118, 1, 0, []⟩
noncomputable def e119 : FnE := ⟨Try.f119, 1, 0, []⟩
noncomputable def e120 : FnE := ⟨Try.f120, 1, 0, []⟩
noncomputable def e121 : FnE := ⟨Try.f121, 1, 0, []⟩
noncomputable def e122 : FnE := ⟨Try.f122, 1, 0, []⟩
noncomputable def e123 : FnE := ⟨Try.f123, 1, 0, []⟩
noncomputable def tab : Tr FnE := (.node (.node (.node (.node (.node (.node (.node .nil (some e63) .nil) (some e31) (.node .nil (some e95) .nil)) (some e15) (.node (.node .nil (some e79) .nil) (some e47) (.node .nil (some e111) .nil))) (some e7) (.node (.node (.node .nil (some e71) .nil) (some e39) (.node .nil (some e103) .nil)) (some e23) (.node (.node .nil (some e87) .nil) (some e55) (.node .nil (some e119) .nil)))) (some e3) (.node (.node (.node (.node .nil (some e67) .nil) (some e35) (.node .nil (some e99) .nil)) (some e19) (.node (.node .nil (some e83) .nil) (some e51) (.node .nil (some e115) .nil))) (some e11) (.node (.node (.node .nil (some e75) .nil) (some e43) (.node .nil (some e107) .nil)) (some e27) (.node (.node .nil (some e91) .nil) (some e59) (.node .nil (some e123) .nil))))) (some e1) (.node (.node (.node (.node (.node .nil (some e65) .nil) (some e33) (.node .nil (some e97) .nil)) (some e17) (.node (.node .nil (some e81) .nil) (some e49) (.node .nil (some e113) .nil))) (some e9) (.node (.node (.node .nil (some e73) .nil) (some e41) (.node .nil (some e105) .nil)) (some e25) (.node (.node .nil (some e89) .nil) (some e57) (.node .nil (some e121) .nil)))) (some e5) (.node (.node (.node (.node .nil (some e69) .nil) (some e37) (.node .nil (some e101) .nil)) (some e21) (.node (.node .nil (some e85) .nil) (some e53) (.node .nil (some e117) .nil))) (some e13) (.node (.node (.node .nil (some e77) .nil) (some e45) (.node .nil (some e109) .nil)) (some e29) (.node (.node .nil (some e93) .nil) (some e61) .nil))))) (some e0) (.node (.node (.node (.node (.node (.node .nil (some e64) .nil) (some e32) (.node .nil (some e96) .nil)) (some e16) (.node (.node .nil (some e80) .nil) (some e48) (.node .nil (some e112) .nil))) (some e8) (.node (.node (.node .nil (some e72) .nil) (some e40) (.node .nil (some e104) .nil)) (some e24) (.node (.node .nil (some e88) .nil) (some e56) (.node .nil (some e120) .nil)))) (some e4) (.node (.node (.node (.node .nil (some e68) .nil) (some e36) (.node .nil (some e100) .nil)) (some e20) (.node (.node .nil (some e84) .nil) (some e52) (.node .nil (some e116) .nil))) (some e12) (.node (.node (.node .nil (some e76) .nil) (some e44) (.node .nil (some e108) .nil)) (some e28) (.node (.node .nil (some e92) .nil) (some e60) .nil)))) (some e2) (.node (.node (.node (.node (.node .nil (some e66) .nil) (some e34) (.node .nil (some e98) .nil)) (some e18) (.node (.node .nil (some e82) .nil) (some e50) (.node .nil (some e114) .nil))) (some e10) (.node (.node (.node .nil (some e74) .nil) (some e42) (.node .nil (some e106) .nil)) (some e26) (.node (.node .nil (some e90) .nil) (some e58) (.node .nil (some e122) .nil)))) (some e6) (.node (.node (.node (.node .nil (some e70) .nil) (some e38) (.node .nil (some e102) .nil)) (some e22) (.node (.node .nil (some e86) .nil) (some e54) (.node .nil (some e118) .nil))) (some e14) (.node (.node (.node .nil (some e78) .nil) (some e46) (.node .nil (some e110) .nil)) (some e30) (.node (.node .nil (some e94) .nil) (some e62) .nil))))))
theorem tab_eq : fnsOf Try.prog = tab := by kernel_rfl
/-- The tables as literals, and one function without arguments that is known to answer true. -/
noncomputable def envL (K : FuncId) : Env :=
  { P := Try.prog, fns := tab, tys := tysOf Try.prog, orc := fun f args => bif Nat.beq f K then (match args with
    | [] => some (.bool true, [])
    | _ :: _ => none) else none }
theorem envL_ok {K : FuncId} (hb : hasBody Try.prog K = true) (h : yes (R.run { P := Try.prog, fns := tab, tys := tysOf Try.prog, orc := fun _ _ => none } 1000000 K [] ⟨.nil, 0⟩) = true) : EnvOk (envL K) := by
  have e : envL K = envK Try.prog K := by
    unfold envL envK
    rw [tab_eq]
    rfl
  rw [← tab_eq] at h
  rw [e]
  exact envK_ok env hb fun w => R.top env h (LRel.nil _) w
end Go.Proofs.Ytafamggbkobcfaa.Ae
