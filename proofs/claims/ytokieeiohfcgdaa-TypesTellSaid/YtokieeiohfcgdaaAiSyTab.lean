/-
  THE TYPES THAT THE RULES LOOK UP, as literals; they are the ones that are reckoned out.
-/
import Derived.Test.YtokieeiohfcgdaaAiSy2
import Derived.Test.YtokieeiohfcgdaaAiKnown
import Derived.Test.YtokieeiohfcgdaaAiKnown1
namespace Go.Proofs.Ytokieeiohfcgdaa.Ae
open Go.AE Go.RowKit
set_option maxRecDepth 1000000
set_option linter.unusedVariables false
def d2 : ATy := ⟨(.int .i64), 1, 8, false, some [(.int .i64 0)], (.int .i64 0)⟩
def d3 : ATy := ⟨(.int .i64), 1, 8, false, some [(.int .i64 0)], (.int .i64 0)⟩
def d4 : ATy := ⟨.bool, 1, 1, false, some [(.bool false)], (.bool false)⟩
def d5 : ATy := ⟨(.int .u8), 1, 1, false, some [(.int .u8 0)], (.int .u8 0)⟩
def d6 : ATy := ⟨(.int .u8), 1, 1, false, some [(.int .u8 0)], (.int .u8 0)⟩
def d7 : ATy := ⟨(.struct #[⟨"x", 2, 0, false, "", "runtime", 0⟩, ⟨"y", 3, 1, false, "", "runtime", 8⟩, ⟨"signed", 4, 2, false, "", "runtime", 16⟩, ⟨"code", 6, 3, false, "", "runtime", 17⟩]), 4, 24, true, some [(.int .i64 0), (.int .i64 0), (.bool false), (.int .u8 0)], (.agg [(.int .i64 0), (.int .i64 0), (.bool false), (.int .u8 0)])⟩
def d8 : ATy := ⟨(.struct #[⟨"x", 2, 0, false, "", "runtime", 0⟩, ⟨"y", 3, 1, false, "", "runtime", 8⟩, ⟨"signed", 4, 2, false, "", "runtime", 16⟩, ⟨"code", 6, 3, false, "", "runtime", 17⟩]), 4, 24, true, some [(.int .i64 0), (.int .i64 0), (.bool false), (.int .u8 0)], (.agg [(.int .i64 0), (.int .i64 0), (.bool false), (.int .u8 0)])⟩
def d9 : ATy := ⟨.string, 1, 16, false, some [(.str [])], (.str [])⟩
def d10 : ATy := ⟨.string, 1, 16, false, some [(.str [])], (.str [])⟩
def d11 : ATy := ⟨.string, 1, 16, false, some [(.str [])], (.str [])⟩
def d12 : ATy := ⟨(.int .u64), 1, 8, false, some [(.int .u64 0)], (.int .u64 0)⟩
def d13 : ATy := ⟨(.struct #[⟨"msg", 9, 0, false, "", "runtime", 0⟩, ⟨"addr", 12, 1, false, "", "runtime", 16⟩]), 2, 24, true, some [(.str []), (.int .u64 0)], (.agg [(.str []), (.int .u64 0)])⟩
def d14 : ATy := ⟨(.struct #[⟨"msg", 9, 0, false, "", "runtime", 0⟩, ⟨"addr", 12, 1, false, "", "runtime", 16⟩]), 2, 24, true, some [(.str []), (.int .u64 0)], (.agg [(.str []), (.int .u64 0)])⟩
def d15 : ATy := ⟨(.pointer 120), 1, 8, false, some [.nilp], .nilp⟩
def d16 : ATy := ⟨(.pointer 123), 1, 8, false, some [.nilp], .nilp⟩
def d17 : ATy := ⟨(.pointer 132), 1, 8, false, some [.nilp], .nilp⟩
def d18 : ATy := ⟨(.struct #[⟨"typ", 17, 0, false, "", "internal/runtime/maps", 0⟩]), 1, 8, true, some [.nilp], (.agg [.nilp])⟩
def d19 : ATy := ⟨(.struct #[⟨"typ", 17, 0, false, "", "internal/runtime/maps", 0⟩]), 1, 8, true, some [.nilp], (.agg [.nilp])⟩
def d21 : ATy := ⟨(.int .i32), 1, 4, false, some [(.int .i32 0)], (.int .i32 0)⟩
def d23 : ATy := ⟨(.slice 9), 1, 24, false, some [.nils], .nils⟩
def d24 : ATy := ⟨(.pointer 77), 1, 8, false, some [.nilp], .nilp⟩
def d25 : ATy := ⟨(.int .i64), 1, 8, false, some [(.int .i64 0)], (.int .i64 0)⟩
def d35 : ATy := ⟨(.struct #[⟨"Kind", 3, 0, false, "", "", 0⟩, ⟨"Class", 9, 1, false, "", "", 8⟩]), 2, 24, true, some [(.int .i64 0), (.str [])], (.agg [(.int .i64 0), (.str [])])⟩
def d36 : ATy := ⟨(.struct #[⟨"Kind", 3, 0, false, "", "", 0⟩, ⟨"Class", 9, 1, false, "", "", 8⟩]), 2, 24, true, some [(.int .i64 0), (.str [])], (.agg [(.int .i64 0), (.str [])])⟩
def d37 : ATy := ⟨(.array 6 36), 12, 144, true, some [(.int .i64 0), (.str []), (.int .i64 0), (.str []), (.int .i64 0), (.str []), (.int .i64 0), (.str []), (.int .i64 0), (.str []), (.int .i64 0), (.str [])], (.agg [(.int .i64 0), (.str []), (.int .i64 0), (.str []), (.int .i64 0), (.str []), (.int .i64 0), (.str []), (.int .i64 0), (.str []), (.int .i64 0), (.str [])])⟩
def d38 : ATy := ⟨(.array 6 3), 6, 48, true, some [(.int .i64 0), (.int .i64 0), (.int .i64 0), (.int .i64 0), (.int .i64 0), (.int .i64 0)], (.agg [(.int .i64 0), (.int .i64 0), (.int .i64 0), (.int .i64 0), (.int .i64 0), (.int .i64 0)])⟩
def d46 : ATy := ⟨(.pointer 51), 1, 8, false, some [.nilp], .nilp⟩
def d50 : ATy := ⟨(.struct #[⟨"Names", 23, 0, false, "", "", 0⟩, ⟨"Supers", 23, 1, false, "", "", 24⟩]), 2, 48, true, some [.nils, .nils], (.agg [.nils, .nils])⟩
def d51 : ATy := ⟨(.struct #[⟨"Names", 23, 0, false, "", "", 0⟩, ⟨"Supers", 23, 1, false, "", "", 24⟩]), 2, 48, true, some [.nils, .nils], (.agg [.nils, .nils])⟩
def d55 : ATy := ⟨(.slice 69), 1, 24, false, some [.nils], .nils⟩
def d56 : ATy := ⟨(.slice 5), 1, 24, false, some [.nils], .nils⟩
def d68 : ATy := ⟨(.struct #[⟨"Op", 3, 0, false, "", "", 0⟩, ⟨"A", 3, 1, false, "", "", 8⟩]), 2, 16, true, some [(.int .i64 0), (.int .i64 0)], (.agg [(.int .i64 0), (.int .i64 0)])⟩
def d69 : ATy := ⟨(.struct #[⟨"Op", 3, 0, false, "", "", 0⟩, ⟨"A", 3, 1, false, "", "", 8⟩]), 2, 16, true, some [(.int .i64 0), (.int .i64 0)], (.agg [(.int .i64 0), (.int .i64 0)])⟩
def d75 : ATy := ⟨(.map 9 9), 1, 8, false, some [.nilm], .nilm⟩
def d76 : ATy := ⟨(.struct #[⟨"names", 23, 0, false, "", "loom/types", 0⟩, ⟨"super", 75, 1, false, "", "loom/types", 24⟩]), 2, 32, true, some [.nils, .nilm], (.agg [.nils, .nilm])⟩
def d77 : ATy := ⟨(.struct #[⟨"names", 23, 0, false, "", "loom/types", 0⟩, ⟨"super", 75, 1, false, "", "loom/types", 24⟩]), 2, 32, true, some [.nils, .nilm], (.agg [.nils, .nilm])⟩
def d82 : ATy := ⟨(.pointer 109), 1, 8, false, some [.nilp], .nilp⟩
def d85 : ATy := ⟨(.int .u64), 1, 8, false, some [(.int .u64 0)], (.int .u64 0)⟩
def d89 : ATy := ⟨(.pointer 111), 1, 8, false, some [.nilp], .nilp⟩
def d96 : ATy := ⟨(.pointer 98), 1, 8, false, some [.nilp], .nilp⟩
def d97 : ATy := ⟨(.struct #[⟨"B", 56, 0, false, "", "", 0⟩]), 1, 24, true, some [.nils], (.agg [.nils])⟩
def d98 : ATy := ⟨(.struct #[⟨"B", 56, 0, false, "", "", 0⟩]), 1, 24, true, some [.nils], (.agg [.nils])⟩
def d108 : ATy := ⟨(.struct #[⟨"b", 56, 0, false, "", "loom/wire", 0⟩]), 1, 24, true, some [.nils], (.agg [.nils])⟩
def d109 : ATy := ⟨(.struct #[⟨"b", 56, 0, false, "", "loom/wire", 0⟩]), 1, 24, true, some [.nils], (.agg [.nils])⟩
def d110 : ATy := ⟨(.int .u64), 1, 8, false, some [(.int .u64 0)], (.int .u64 0)⟩
def d111 : ATy := ⟨(.struct #[⟨"b", 56, 0, false, "", "loom/wire", 0⟩]), 1, 24, true, some [.nils], (.agg [.nils])⟩
def d116 : ATy := ⟨(.array 48 9), 48, 768, true, some [(.str []), (.str []), (.str []), (.str []), (.str []), (.str []), (.str []), (.str []), (.str []), (.str []), (.str []), (.str []), (.str []), (.str []), (.str []), (.str []), (.str []), (.str []), (.str []), (.str []), (.str []), (.str []), (.str []), (.str []), (.str []), (.str []), (.str []), (.str []), (.str []), (.str []), (.str []), (.str []), (.str []), (.str []), (.str []), (.str []), (.str []), (.str []), (.str []), (.str []), (.str []), (.str []), (.str []), (.str []), (.str []), (.str []), (.str []), (.str [])], (.agg [(.str []), (.str []), (.str []), (.str []), (.str []), (.str []), (.str []), (.str []), (.str []), (.str []), (.str []), (.str []), (.str []), (.str []), (.str []), (.str []), (.str []), (.str []), (.str []), (.str []), (.str []), (.str []), (.str []), (.str []), (.str []), (.str []), (.str []), (.str []), (.str []), (.str []), (.str []), (.str []), (.str []), (.str []), (.str []), (.str []), (.str []), (.str []), (.str []), (.str []), (.str []), (.str []), (.str []), (.str []), (.str []), (.str []), (.str []), (.str [])])⟩
def d119 : ATy := ⟨(.struct #[⟨"_interface", 17, 0, false, "", "runtime", 0⟩, ⟨"concrete", 17, 1, false, "", "runtime", 8⟩, ⟨"asserted", 17, 2, false, "", "runtime", 16⟩, ⟨"missingMethod", 9, 3, false, "", "runtime", 24⟩]), 4, 40, true, some [.nilp, .nilp, .nilp, (.str [])], (.agg [.nilp, .nilp, .nilp, (.str [])])⟩
def d120 : ATy := ⟨(.struct #[⟨"_interface", 17, 0, false, "", "runtime", 0⟩, ⟨"concrete", 17, 1, false, "", "runtime", 8⟩, ⟨"asserted", 17, 2, false, "", "runtime", 16⟩, ⟨"missingMethod", 9, 3, false, "", "runtime", 24⟩]), 4, 40, true, some [.nilp, .nilp, .nilp, (.str [])], (.agg [.nilp, .nilp, .nilp, (.str [])])⟩
def d121 : ATy := ⟨(.array 0 16), 0, 0, true, some [], (.agg [])⟩
def d122 : ATy := ⟨(.struct #[⟨"_", 121, 0, false, "", "runtime", 0⟩]), 0, 0, true, some [], (.agg [])⟩
def d123 : ATy := ⟨(.struct #[⟨"_", 121, 0, false, "", "runtime", 0⟩]), 0, 0, true, some [], (.agg [])⟩
def d124 : ATy := ⟨(.int .u32), 1, 4, false, some [(.int .u32 0)], (.int .u32 0)⟩
def d125 : ATy := ⟨(.int .u8), 1, 1, false, some [(.int .u8 0)], (.int .u8 0)⟩
def d126 : ATy := ⟨(.int .u8), 1, 1, false, some [(.int .u8 0)], (.int .u8 0)⟩
def d128 : ATy := ⟨(.pointer 5), 1, 8, false, some [.nilp], .nilp⟩
def d129 : ATy := ⟨(.int .i32), 1, 4, false, some [(.int .i32 0)], (.int .i32 0)⟩
def d130 : ATy := ⟨(.int .i32), 1, 4, false, some [(.int .i32 0)], (.int .i32 0)⟩
def d131 : ATy := ⟨(.struct #[⟨"Size_", 12, 0, false, "", "", 0⟩, ⟨"PtrBytes", 12, 1, false, "", "", 8⟩, ⟨"Hash", 124, 2, false, "", "", 16⟩, ⟨"TFlag", 125, 3, false, "", "", 20⟩, ⟨"Align_", 5, 4, false, "", "", 21⟩, ⟨"FieldAlign_", 5, 5, false, "", "", 22⟩, ⟨"Kind_", 126, 6, false, "", "", 23⟩, ⟨"Equal", 127, 7, false, "", "", 24⟩, ⟨"GCData", 128, 8, false, "", "", 32⟩, ⟨"Str", 129, 9, false, "", "", 40⟩, ⟨"PtrToThis", 130, 10, false, "", "", 44⟩]), 11, 48, true, some [(.int .u64 0), (.int .u64 0), (.int .u32 0), (.int .u8 0), (.int .u8 0), (.int .u8 0), (.int .u8 0), .nilFunc, .nilp, (.int .i32 0), (.int .i32 0)], (.agg [(.int .u64 0), (.int .u64 0), (.int .u32 0), (.int .u8 0), (.int .u8 0), (.int .u8 0), (.int .u8 0), .nilFunc, .nilp, (.int .i32 0), (.int .i32 0)])⟩
def d132 : ATy := ⟨(.struct #[⟨"Size_", 12, 0, false, "", "", 0⟩, ⟨"PtrBytes", 12, 1, false, "", "", 8⟩, ⟨"Hash", 124, 2, false, "", "", 16⟩, ⟨"TFlag", 125, 3, false, "", "", 20⟩, ⟨"Align_", 5, 4, false, "", "", 21⟩, ⟨"FieldAlign_", 5, 5, false, "", "", 22⟩, ⟨"Kind_", 126, 6, false, "", "", 23⟩, ⟨"Equal", 127, 7, false, "", "", 24⟩, ⟨"GCData", 128, 8, false, "", "", 32⟩, ⟨"Str", 129, 9, false, "", "", 40⟩, ⟨"PtrToThis", 130, 10, false, "", "", 44⟩]), 11, 48, true, some [(.int .u64 0), (.int .u64 0), (.int .u32 0), (.int .u8 0), (.int .u8 0), (.int .u8 0), (.int .u8 0), .nilFunc, .nilp, (.int .i32 0), (.int .i32 0)], (.agg [(.int .u64 0), (.int .u64 0), (.int .u32 0), (.int .u8 0), (.int .u8 0), (.int .u8 0), (.int .u8 0), .nilFunc, .nilp, (.int .i32 0), (.int .i32 0)])⟩
noncomputable def tyT : Tr ATy := (.node (.node (.node (.node (.node .nil (some d15) (.node .nil none (.node .nil (some d111) .nil))) (some d7) (.node .nil (some d23) (.node .nil (some d55) (.node .nil (some d119) .nil)))) (some d3) (.node (.node (.node (.node (.node .nil (some d131) .nil) none .nil) (some d35) .nil) (some d19) (.node .nil (some d51) .nil)) (some d11) (.node (.node (.node .nil (some d75) .nil) none .nil) none (.node .nil none (.node .nil (some d123) .nil))))) none (.node (.node (.node (.node (.node (.node .nil (some d129) .nil) none .nil) none (.node .nil (some d97) .nil)) (some d17) .nil) (some d9) (.node .nil (some d25) (.node (.node .nil (some d89) .nil) none (.node .nil (some d121) .nil)))) (some d5) (.node (.node (.node (.node .nil (some d69) .nil) (some d37) .nil) (some d21) (.node (.node .nil (some d85) .nil) none .nil)) (some d13) (.node (.node (.node .nil (some d77) .nil) none (.node .nil (some d109) .nil)) none (.node .nil none (.node .nil (some d125) .nil)))))) none (.node (.node (.node (.node (.node (.node (.node .nil (some d128) .nil) none .nil) none (.node .nil (some d96) .nil)) (some d16) .nil) (some d8) (.node .nil (some d24) (.node .nil (some d56) (.node .nil (some d120) .nil)))) (some d4) (.node (.node (.node (.node (.node .nil (some d132) .nil) (some d68) .nil) (some d36) .nil) none (.node .nil none (.node .nil (some d116) .nil))) (some d12) (.node (.node (.node .nil (some d76) .nil) none (.node .nil (some d108) .nil)) none (.node .nil none (.node .nil (some d124) .nil))))) (some d2) (.node (.node (.node (.node (.node (.node .nil (some d130) .nil) none .nil) none (.node .nil (some d98) .nil)) (some d18) (.node (.node .nil (some d82) .nil) (some d50) .nil)) (some d10) (.node .nil none (.node .nil none (.node .nil (some d122) .nil)))) (some d6) (.node (.node (.node .nil (some d38) .nil) none .nil) (some d14) (.node (.node .nil (some d46) (.node .nil (some d110) .nil)) none (.node .nil none (.node .nil (some d126) .nil)))))))
def tyKeys : List Nat := [2, 3, 4, 5, 6, 7, 8, 9, 10, 11, 12, 13, 14, 15, 16, 17, 18, 19, 21, 23, 24, 25, 35, 36, 37, 38, 46, 50, 51, 55, 56, 68, 69, 75, 76, 77, 82, 85, 89, 96, 97, 98, 108, 109, 110, 111, 116, 119, 120, 121, 122, 123, 124, 125, 126, 128, 129, 130, 131, 132]
def cutTo (t : Tr ATy) : List Nat → Tr ATy → Tr ATy
  | [], a => a
  | k :: l, a => cutTo t l (match t.get k with
    | some d => a.set k d
    | none => a)
theorem cutTo_get (t : Tr ATy) : ∀ (l : List Nat) (a : Tr ATy) (j : Nat) (d : ATy), (cutTo t l a).get j = some d → t.get j = some d ∨ a.get j = some d
  | [], a, j, d, h => .inr h
  | k :: l, a, j, d, h => by
    rcases cutTo_get t l _ j d h with h1 | h1
    · exact .inl h1
    · clear h
      split at h1
      · rename_i e he
        rw [Tr.get_set] at h1
        by_cases hj : j = k
        · rw [if_pos hj] at h1
          rw [hj]
          exact .inl (he.trans h1)
        · rw [if_neg hj] at h1
          exact .inr h1
      · exact .inr h1
theorem tyT_eq : cutTo (tysOf Try.prog) tyKeys .nil = tyT := by kernel_rfl
theorem tyT_ok (j : Nat) (d : ATy) (h : tyT.get j = some d) : (tysOf Try.prog).get j = some d := by
  rw [← tyT_eq] at h
  rcases cutTo_get _ _ _ j d h with h | h
  · exact h
  · cases h
/-- The tables as literals. -/
noncomputable def ES (K : FuncId) : Env := { P := Try.prog, fns := tab, tys := tyT, orc := (envL K).orc }
theorem ES_ok [Rho] {K : FuncId} (h : EnvOk (envL K)) : EnvOk (ES K) :=
  ⟨fun t d hd => h.ty t d (tyT_ok t d hd), h.fn, h.code, h.mixed, h.ext1, h.ext2, h.orc⟩
theorem orc_cons {K f : FuncId} {v : AV} {vs : List AV} : (ES K).orc f (v :: vs) = none := by
  show (bif Nat.beq f K then _ else _) = _
  cases Nat.beq f K <;> rfl
end Go.Proofs.Ytokieeiohfcgdaa.Ae
