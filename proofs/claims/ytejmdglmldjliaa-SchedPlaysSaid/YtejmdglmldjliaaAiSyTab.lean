/-
  THE TYPES THAT THE RULES LOOK UP, as literals; they are the ones that are reckoned out.
-/
import Derived.Test.YtejmdglmldjliaaAiSy2
import Derived.Test.YtejmdglmldjliaaAiKnown
import Derived.Test.YtejmdglmldjliaaAiKnown1
namespace Go.Proofs.Ytejmdglmldjliaa.Ae
open Go.AE Go.RowKit
set_option maxRecDepth 1000000
set_option linter.unusedVariables false
def d2 : ATy := ⟨(.int .i64), 1, 8, false, some [(.int .i64 0)], (.int .i64 0)⟩
def d3 : ATy := ⟨(.int .i64), 1, 8, false, some [(.int .i64 0)], (.int .i64 0)⟩
def d4 : ATy := ⟨.bool, 1, 1, false, some [(.bool false)], (.bool false)⟩
def d5 : ATy := ⟨(.int .u8), 1, 1, false, some [(.int .u8 0)], (.int .u8 0)⟩
def d6 : ATy := ⟨(.int .u8), 1, 1, false, some [(.int .u8 0)], (.int .u8 0)⟩
def d7 : ATy := ⟨(.struct #[⟨"x", 2, 0, false, "", "runtime", 0⟩, ⟨"y", 3, 1, false, "", "runtime", 8⟩, ⟨"signed", 4, 2, false, "", "runtime", 16⟩, ⟨"code", 6, 3, false, "", "runtime", 17⟩]), 4, 24, true, some [(.int .i64 0), (.int .i64 0), (.bool false), (.int .u8 0)], (.agg [(.int .i64 0), (.int .i64 0), (.bool false), (.int .u8 0)])⟩
def d8 : ATy := ⟨(.struct #[⟨"x", 2, 0, false, "", "runtime", 0⟩, ⟨"y", 3, 1, false, "", "runtime", 8⟩, ⟨"signed", 4, 2, false, "", "runtime", 16⟩, ⟨"code", 6, 3, false, "", "runtime", 17⟩]), 4, 24, true, some [(.int .i64 0), (.int .i64 0), (.bool false), (.int .u8 0)], (.agg [(.int .i64 0), (.int .i64 0), (.bool false), (.int .u8 0)])⟩
def d9 : ATy := ⟨.string, 1, 16, false, some [(.str [])], (.str [])⟩
def d10 : ATy := ⟨.string, 1, 16, false, some [(.str [])], (.str [])⟩
def d11 : ATy := ⟨.string, 1, 16, false, some [(.str [])], (.str [])⟩
def d12 : ATy := ⟨(.int .u64), 1, 8, false, some [(.int .u64 0)], (.int .u64 0)⟩
def d13 : ATy := ⟨(.struct #[⟨"msg", 9, 0, false, "", "runtime", 0⟩, ⟨"addr", 12, 1, false, "", "runtime", 16⟩]), 2, 24, true, some [(.str []), (.int .u64 0)], (.agg [(.str []), (.int .u64 0)])⟩
def d14 : ATy := ⟨(.struct #[⟨"msg", 9, 0, false, "", "runtime", 0⟩, ⟨"addr", 12, 1, false, "", "runtime", 16⟩]), 2, 24, true, some [(.str []), (.int .u64 0)], (.agg [(.str []), (.int .u64 0)])⟩
def d15 : ATy := ⟨(.pointer 134), 1, 8, false, some [.nilp], .nilp⟩
def d16 : ATy := ⟨(.pointer 137), 1, 8, false, some [.nilp], .nilp⟩
def d17 : ATy := ⟨(.pointer 146), 1, 8, false, some [.nilp], .nilp⟩
def d18 : ATy := ⟨(.struct #[⟨"typ", 17, 0, false, "", "internal/runtime/maps", 0⟩]), 1, 8, true, some [.nilp], (.agg [.nilp])⟩
def d19 : ATy := ⟨(.struct #[⟨"typ", 17, 0, false, "", "internal/runtime/maps", 0⟩]), 1, 8, true, some [.nilp], (.agg [.nilp])⟩
def d21 : ATy := ⟨(.int .i32), 1, 4, false, some [(.int .i32 0)], (.int .i32 0)⟩
def d22 : ATy := ⟨(.int .u64), 1, 8, false, some [(.int .u64 0)], (.int .u64 0)⟩
def d24 : ATy := ⟨(.pointer 113), 1, 8, false, some [.nilp], .nilp⟩
def d27 : ATy := ⟨(.slice 5), 1, 24, false, some [.nils], .nils⟩
def d29 : ATy := ⟨(.int .u64), 1, 8, false, some [(.int .u64 0)], (.int .u64 0)⟩
def d30 : ATy := ⟨(.pointer 114), 1, 8, false, some [.nilp], .nilp⟩
def d32 : ATy := ⟨(.int .i64), 1, 8, false, some [(.int .i64 0)], (.int .i64 0)⟩
def d37 : ATy := ⟨(.slice 39), 1, 24, false, some [.nils], .nils⟩
def d38 : ATy := ⟨(.struct #[⟨"What", 3, 0, false, "", "", 0⟩, ⟨"N", 22, 1, false, "", "", 8⟩, ⟨"S", 9, 2, false, "", "", 16⟩, ⟨"Re", 22, 3, false, "", "", 32⟩, ⟨"Im", 22, 4, false, "", "", 40⟩, ⟨"Most", 3, 5, false, "", "", 48⟩]), 6, 56, true, some [(.int .i64 0), (.int .u64 0), (.str []), (.int .u64 0), (.int .u64 0), (.int .i64 0)], (.agg [(.int .i64 0), (.int .u64 0), (.str []), (.int .u64 0), (.int .u64 0), (.int .i64 0)])⟩
def d39 : ATy := ⟨(.struct #[⟨"What", 3, 0, false, "", "", 0⟩, ⟨"N", 22, 1, false, "", "", 8⟩, ⟨"S", 9, 2, false, "", "", 16⟩, ⟨"Re", 22, 3, false, "", "", 32⟩, ⟨"Im", 22, 4, false, "", "", 40⟩, ⟨"Most", 3, 5, false, "", "", 48⟩]), 6, 56, true, some [(.int .i64 0), (.int .u64 0), (.str []), (.int .u64 0), (.int .u64 0), (.int .i64 0)], (.agg [(.int .i64 0), (.int .u64 0), (.str []), (.int .u64 0), (.int .u64 0), (.int .i64 0)])⟩
def d45 : ATy := ⟨(.complex .f64), 1, 16, false, some [(.cplx .f64 0 0)], (.cplx .f64 0 0)⟩
def d51 : ATy := ⟨(.int .u16), 1, 2, false, some [(.int .u16 0)], (.int .u16 0)⟩
def d57 : ATy := ⟨(.pointer 124), 1, 8, false, some [.nilp], .nilp⟩
def d60 : ATy := ⟨(.slice 3), 1, 24, false, some [.nils], .nils⟩
def d75 : ATy := ⟨(.slice 81), 1, 24, false, some [.nils], .nils⟩
def d76 : ATy := ⟨(.pointer 79), 1, 8, false, some [.nilp], .nilp⟩
def d77 : ATy := ⟨(.slice 126), 1, 24, false, some [.nils], .nils⟩
def d78 : ATy := ⟨(.struct #[⟨"l", 77, 0, false, "", "loom/loomref14", 0⟩]), 1, 24, true, some [.nils], (.agg [.nils])⟩
def d79 : ATy := ⟨(.struct #[⟨"l", 77, 0, false, "", "loom/loomref14", 0⟩]), 1, 24, true, some [.nils], (.agg [.nils])⟩
def d80 : ATy := ⟨(.struct #[⟨"What", 3, 0, false, "", "", 0⟩, ⟨"A", 3, 1, false, "", "", 8⟩, ⟨"B", 3, 2, false, "", "", 16⟩]), 3, 24, true, some [(.int .i64 0), (.int .i64 0), (.int .i64 0)], (.agg [(.int .i64 0), (.int .i64 0), (.int .i64 0)])⟩
def d81 : ATy := ⟨(.struct #[⟨"What", 3, 0, false, "", "", 0⟩, ⟨"A", 3, 1, false, "", "", 8⟩, ⟨"B", 3, 2, false, "", "", 16⟩]), 3, 24, true, some [(.int .i64 0), (.int .i64 0), (.int .i64 0)], (.agg [(.int .i64 0), (.int .i64 0), (.int .i64 0)])⟩
def d94 : ATy := ⟨(.pointer 96), 1, 8, false, some [.nilp], .nilp⟩
def d95 : ATy := ⟨(.struct #[⟨"B", 27, 0, false, "", "", 0⟩]), 1, 24, true, some [.nils], (.agg [.nils])⟩
def d96 : ATy := ⟨(.struct #[⟨"B", 27, 0, false, "", "", 0⟩]), 1, 24, true, some [.nils], (.agg [.nils])⟩
def d112 : ATy := ⟨(.struct #[⟨"b", 27, 0, false, "", "loom/wire", 0⟩]), 1, 24, true, some [.nils], (.agg [.nils])⟩
def d113 : ATy := ⟨(.struct #[⟨"b", 27, 0, false, "", "loom/wire", 0⟩]), 1, 24, true, some [.nils], (.agg [.nils])⟩
def d114 : ATy := ⟨(.struct #[⟨"b", 27, 0, false, "", "loom/wire", 0⟩]), 1, 24, true, some [.nils], (.agg [.nils])⟩
def d115 : ATy := ⟨(.float .f64), 1, 8, false, some [(.float .f64 0)], (.float .f64 0)⟩
def d116 : ATy := ⟨(.array 2 115), 2, 16, true, some [(.float .f64 0), (.float .f64 0)], (.agg [(.float .f64 0), (.float .f64 0)])⟩
def d123 : ATy := ⟨(.struct #[⟨"states", 60, 0, false, "", "loom/sched", 0⟩, ⟨"joins", 60, 1, false, "", "loom/sched", 24⟩]), 2, 48, true, some [.nils, .nils], (.agg [.nils, .nils])⟩
def d124 : ATy := ⟨(.struct #[⟨"states", 60, 0, false, "", "loom/sched", 0⟩, ⟨"joins", 60, 1, false, "", "loom/sched", 24⟩]), 2, 48, true, some [.nils, .nils], (.agg [.nils, .nils])⟩
def d125 : ATy := ⟨(.struct #[⟨"state", 3, 0, false, "", "loom/loomref14", 0⟩, ⟨"joins", 3, 1, false, "", "loom/loomref14", 8⟩]), 2, 16, true, some [(.int .i64 0), (.int .i64 0)], (.agg [(.int .i64 0), (.int .i64 0)])⟩
def d126 : ATy := ⟨(.struct #[⟨"state", 3, 0, false, "", "loom/loomref14", 0⟩, ⟨"joins", 3, 1, false, "", "loom/loomref14", 8⟩]), 2, 16, true, some [(.int .i64 0), (.int .i64 0)], (.agg [(.int .i64 0), (.int .i64 0)])⟩
def d129 : ATy := ⟨(.array 2 22), 2, 16, true, some [(.int .u64 0), (.int .u64 0)], (.agg [(.int .u64 0), (.int .u64 0)])⟩
def d133 : ATy := ⟨(.struct #[⟨"_interface", 17, 0, false, "", "runtime", 0⟩, ⟨"concrete", 17, 1, false, "", "runtime", 8⟩, ⟨"asserted", 17, 2, false, "", "runtime", 16⟩, ⟨"missingMethod", 9, 3, false, "", "runtime", 24⟩]), 4, 40, true, some [.nilp, .nilp, .nilp, (.str [])], (.agg [.nilp, .nilp, .nilp, (.str [])])⟩
def d134 : ATy := ⟨(.struct #[⟨"_interface", 17, 0, false, "", "runtime", 0⟩, ⟨"concrete", 17, 1, false, "", "runtime", 8⟩, ⟨"asserted", 17, 2, false, "", "runtime", 16⟩, ⟨"missingMethod", 9, 3, false, "", "runtime", 24⟩]), 4, 40, true, some [.nilp, .nilp, .nilp, (.str [])], (.agg [.nilp, .nilp, .nilp, (.str [])])⟩
def d135 : ATy := ⟨(.array 0 16), 0, 0, true, some [], (.agg [])⟩
def d136 : ATy := ⟨(.struct #[⟨"_", 135, 0, false, "", "runtime", 0⟩]), 0, 0, true, some [], (.agg [])⟩
def d137 : ATy := ⟨(.struct #[⟨"_", 135, 0, false, "", "runtime", 0⟩]), 0, 0, true, some [], (.agg [])⟩
def d138 : ATy := ⟨(.int .u32), 1, 4, false, some [(.int .u32 0)], (.int .u32 0)⟩
def d139 : ATy := ⟨(.int .u8), 1, 1, false, some [(.int .u8 0)], (.int .u8 0)⟩
def d140 : ATy := ⟨(.int .u8), 1, 1, false, some [(.int .u8 0)], (.int .u8 0)⟩
def d142 : ATy := ⟨(.pointer 5), 1, 8, false, some [.nilp], .nilp⟩
def d143 : ATy := ⟨(.int .i32), 1, 4, false, some [(.int .i32 0)], (.int .i32 0)⟩
def d144 : ATy := ⟨(.int .i32), 1, 4, false, some [(.int .i32 0)], (.int .i32 0)⟩
def d145 : ATy := ⟨(.struct #[⟨"Size_", 12, 0, false, "", "", 0⟩, ⟨"PtrBytes", 12, 1, false, "", "", 8⟩, ⟨"Hash", 138, 2, false, "", "", 16⟩, ⟨"TFlag", 139, 3, false, "", "", 20⟩, ⟨"Align_", 5, 4, false, "", "", 21⟩, ⟨"FieldAlign_", 5, 5, false, "", "", 22⟩, ⟨"Kind_", 140, 6, false, "", "", 23⟩, ⟨"Equal", 141, 7, false, "", "", 24⟩, ⟨"GCData", 142, 8, false, "", "", 32⟩, ⟨"Str", 143, 9, false, "", "", 40⟩, ⟨"PtrToThis", 144, 10, false, "", "", 44⟩]), 11, 48, true, some [(.int .u64 0), (.int .u64 0), (.int .u32 0), (.int .u8 0), (.int .u8 0), (.int .u8 0), (.int .u8 0), .nilFunc, .nilp, (.int .i32 0), (.int .i32 0)], (.agg [(.int .u64 0), (.int .u64 0), (.int .u32 0), (.int .u8 0), (.int .u8 0), (.int .u8 0), (.int .u8 0), .nilFunc, .nilp, (.int .i32 0), (.int .i32 0)])⟩
def d146 : ATy := ⟨(.struct #[⟨"Size_", 12, 0, false, "", "", 0⟩, ⟨"PtrBytes", 12, 1, false, "", "", 8⟩, ⟨"Hash", 138, 2, false, "", "", 16⟩, ⟨"TFlag", 139, 3, false, "", "", 20⟩, ⟨"Align_", 5, 4, false, "", "", 21⟩, ⟨"FieldAlign_", 5, 5, false, "", "", 22⟩, ⟨"Kind_", 140, 6, false, "", "", 23⟩, ⟨"Equal", 141, 7, false, "", "", 24⟩, ⟨"GCData", 142, 8, false, "", "", 32⟩, ⟨"Str", 143, 9, false, "", "", 40⟩, ⟨"PtrToThis", 144, 10, false, "", "", 44⟩]), 11, 48, true, some [(.int .u64 0), (.int .u64 0), (.int .u32 0), (.int .u8 0), (.int .u8 0), (.int .u8 0), (.int .u8 0), .nilFunc, .nilp, (.int .i32 0), (.int .i32 0)], (.agg [(.int .u64 0), (.int .u64 0), (.int .u32 0), (.int .u8 0), (.int .u8 0), (.int .u8 0), (.int .u8 0), .nilFunc, .nilp, (.int .i32 0), (.int .i32 0)])⟩
noncomputable def tyT : Tr ATy := (.node (.node (.node (.node (.node (.node .nil none (.node .nil (some d95) .nil)) (some d15) (.node (.node (.node .nil (some d143) .nil) (some d79) .nil) none .nil)) (some d7) (.node (.node (.node (.node .nil (some d135) .nil) none .nil) (some d39) .nil) none .nil)) (some d3) (.node (.node .nil (some d19) (.node .nil (some d51) (.node .nil (some d115) .nil))) (some d11) (.node (.node (.node (.node .nil (some d139) .nil) (some d75) .nil) none .nil) (some d27) (.node .nil none (.node .nil (some d123) .nil))))) none (.node (.node (.node (.node (.node (.node .nil (some d129) .nil) none .nil) none .nil) (some d17) (.node (.node (.node .nil (some d145) .nil) (some d81) .nil) none (.node .nil (some d113) .nil))) (some d9) (.node (.node (.node (.node .nil (some d137) .nil) none .nil) none .nil) none (.node .nil (some d57) .nil))) (some d5) (.node (.node (.node (.node (.node .nil (some d133) .nil) none .nil) (some d37) .nil) (some d21) .nil) (some d13) (.node (.node (.node .nil (some d77) .nil) (some d45) .nil) (some d29) (.node .nil none (.node .nil (some d125) .nil)))))) none (.node (.node (.node (.node (.node .nil (some d32) (.node .nil (some d96) .nil)) (some d16) (.node (.node (.node .nil (some d144) .nil) (some d80) .nil) none (.node .nil (some d112) .nil))) (some d8) (.node (.node (.node (.node .nil (some d136) .nil) none .nil) none .nil) (some d24) .nil)) (some d4) (.node (.node .nil none (.node .nil none (.node .nil (some d116) .nil))) (some d12) (.node (.node (.node (.node .nil (some d140) .nil) (some d76) .nil) none .nil) none (.node .nil (some d60) (.node .nil (some d124) .nil))))) (some d2) (.node (.node (.node .nil (some d18) (.node (.node (.node .nil (some d146) .nil) none .nil) none (.node .nil (some d114) .nil))) (some d10) (.node (.node (.node (.node .nil (some d138) .nil) none .nil) none .nil) none .nil)) (some d6) (.node (.node (.node (.node (.node .nil (some d134) .nil) none .nil) (some d38) .nil) (some d22) .nil) (some d14) (.node (.node (.node (.node .nil (some d142) .nil) (some d78) .nil) none .nil) (some d30) (.node (.node .nil (some d94) .nil) none (.node .nil (some d126) .nil)))))))
def tyKeys : List Nat := [2, 3, 4, 5, 6, 7, 8, 9, 10, 11, 12, 13, 14, 15, 16, 17, 18, 19, 21, 22, 24, 27, 29, 30, 32, 37, 38, 39, 45, 51, 57, 60, 75, 76, 77, 78, 79, 80, 81, 94, 95, 96, 112, 113, 114, 115, 116, 123, 124, 125, 126, 129, 133, 134, 135, 136, 137, 138, 139, 140, 142, 143, 144, 145, 146]
def cutTo (t : Tr ATy) : List Nat → Tr ATy → Tr ATy
  | [], a => a
  | k :: l, a => cutTo t l (match t.get k with
    | some d => a.set k d
    | none => a)
theorem cutTo_get (t : Tr ATy) : ∀ (l : List Nat) (a : Tr ATy) (j : Nat) (d : ATy), (cutTo t l a).get j = some d → t.get j = some d ∨ a.get j = some d
  | [], a, j, d, h => .inr h
  | k :: l, a, j, d, h => by
    rcases cutTo_get t l _ j d h with h1 | h1
    · exact .inl h1
    · clear h
      split at h1
      · rename_i e he
        rw [Tr.get_set] at h1
        by_cases hj : j = k
        · rw [if_pos hj] at h1
          rw [hj]
          exact .inl (he.trans h1)
        · rw [if_neg hj] at h1
          exact .inr h1
      · exact .inr h1
theorem tyT_eq : cutTo (tysOf Try.prog) tyKeys .nil = tyT := by kernel_rfl
theorem tyT_ok (j : Nat) (d : ATy) (h : tyT.get j = some d) : (tysOf Try.prog).get j = some d := by
  rw [← tyT_eq] at h
  rcases cutTo_get _ _ _ j d h with h | h
  · exact h
  · cases h
/-- The tables as literals. -/
noncomputable def ES (K : FuncId) : Env := { P := Try.prog, fns := tab, tys := tyT, orc := (envL K).orc }
theorem ES_ok [Rho] {K : FuncId} (h : EnvOk (envL K)) : EnvOk (ES K) :=
  ⟨fun t d hd => h.ty t d (tyT_ok t d hd), h.fn, h.code, h.mixed, h.ext1, h.ext2, h.orc⟩
theorem orc_cons {K f : FuncId} {v : AV} {vs : List AV} : (ES K).orc f (v :: vs) = none := by
  show (bif Nat.beq f K then _ else _) = _
  cases Nat.beq f K <;> rfl
end Go.Proofs.Ytejmdglmldjliaa.Ae
