/-
  LEAST: for every input (the law's call, in the model).
-/
import Derived.Test.YtokieeiohfcgdaaAiSyT10
import Derived.Test.YtokieeiohfcgdaaAiSy6
namespace Go.Proofs.Ytokieeiohfcgdaa.Ae
open Go.AE Go.ChangeShapes Go.RowKit
set_option linter.unusedVariables false
set_option maxRecDepth 100000
/-- No names are in use. -/
instance rho0 : Rho := ⟨fun _ => 0, fun _ => false, fun _ => [], fun _ => Nat.zero_le _⟩

theorem str_bytes (s : ByteArray) : small (s.data.toList.map UInt8.toNat) := fun b hb => by
  obtain ⟨c, _, rfl⟩ := List.mem_map.1 hb
  exact c.toNat_lt
section
variable {H : Type} {enc : TypeId × Value → H} {w : World} {held : Bool}
theorem open_strs {v : Value} {d : DataW H} {ps : List MemPlace} (hv : ∃ a n c, v = .slice a n c) (h : DataW.Trod enc Try.prog w 0 (fun _ => true) held 23 v d ps) :
    ∃ xs : List Str, (∀ x ∈ xs, small x) ∧ xs.length ≤ maxLen ∧ ArgS w 1 v xs.length (sts xs) :=
  open_arg (f := fun s : Str => [AV.str s]) (ok := small) Try.underlying23 (by kernel_rfl) (by decide) (fun _ => rfl) (fun n cs y h => by
    obtain ⟨s, rfl, _, _⟩ := DataW.trod_string Try.underlying9 h
    exact ⟨s.data.toList.map UInt8.toNat, str_bytes s, .cons rfl (fun _ => .str _) .nil⟩) hv h
end
theorem str_mk {H : Type} {enc : TypeId × Value → H} {w : World} {b0 : Nat} {sp : Nat → Bool} {held : Bool} {s : ByteArray} (m : Nat) (hs : s.size ≤ maxLen) : DataW.trod enc Try.prog w b0 sp held (m + 1) 9 [.string s] = some (.lit (.string s.data.toList), []) := by
  simp [DataW.trod, Try.underlying9, hs]
def bs (s : ByteArray) : Str := s.data.toList.map UInt8.toNat
theorem tv_rel {μ : Mp} {a : Int} {s : ByteArray} : VRel μ (tv (a, bs s)) (.agg #[.int .i64 a, .string s]) := by
  refine .agg rfl (fun i x y hx hy => ?_) (fun x hx => ?_)
  · match i, hx, hy with
    | 0, hx, hy => cases hx; cases hy; exact .int _ _
    | 1, hx, hy => cases hx; cases hy; exact .str _
    | i + 2, hx, hy => simp at hx
  · simp only [List.mem_cons, List.not_mem_nil, or_false] at hx
    rcases hx with rfl | rfl <;> rfl
theorem typesLeast {W : World} {v0 v1 : Value} (ns ss : List Str) (a2 : Int) (b2 : ByteArray) (a3 : Int) (b3 : ByteArray) (a4 : Int) (b4 : ByteArray) (_ : ∀ x ∈ ns, small x) (hl0 : ns.length ≤ maxLen) (hs0 : ArgS W 1 v0 ns.length (sts ns))
    (hsm : ∀ x ∈ ss, small x) (hl1 : ss.length ≤ maxLen) (hs1 : ArgS W 1 v1 ss.length (sts ss)) (_ : (Lit.int .i64 a2).wf = true) (_ : b2.size ≤ maxLen) (_ : (Lit.int .i64 a3).wf = true) (_ : b3.size ≤ maxLen) (_ : (Lit.int .i64 a4).wf = true) (_ : b4.size ≤ maxLen) :
    Calls Try.prog 7 #[v0, v1, .agg #[.int .i64 a2, .string b2], .agg #[.int .i64 a3, .string b3], .agg #[.int .i64 a4, .string b4]] W fun e W' => e = .returned (.bool true) ∧ Below W.heap.size W W' := by
  obtain ⟨a0, A0, μ0, g1, g2, _, g3, g4, _⟩ := add_arg (rel_none W.heap.size W (Nat.le_refl _)) (fun f F hF => by simp [Tr.get] at hF) hs0
  obtain ⟨a, A, μ, h1, h2, ho, h3, h4, hk⟩ := add_arg g1 g2 hs1
  have hm : maxLen < 9223372036854775808 := by decide
  exact topP (ES_ok envKnown) (least_spec (a := (a2, bs b2)) (b := (a3, bs b3)) (c := (a4, bs b4)) h1.lt (g3.keep ho fun _ _ h => h).row h3.row (by omega) (by omega) hsm (str_bytes b2) (str_bytes b3) (str_bytes b4)) (fun _ _ h => h) h2 h1
    (.cons (g4.mono hk) (.cons h4 (.cons tv_rel (.cons tv_rel (.cons tv_rel (.nil _))))))
end Go.Proofs.Ytokieeiohfcgdaa.Ae
