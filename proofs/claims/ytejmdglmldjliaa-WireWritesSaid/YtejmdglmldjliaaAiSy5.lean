/-
  THE EVALUATOR BY RULES, fifth part: rows that are read; the top.
-/
import Derived.Test.YtejmdglmldjliaaAiSy4
import Derived.Test.YtejmdglmldjliaaAiTop
namespace Go.AE
set_option linter.unusedVariables false
set_option linter.unusedSimpArgs false

/-- A row that is looked at: n elements of es cells. -/
def Row (A : AW) (es : Nat) (v : AV) (n : Nat) (cs : List AV) : Prop :=
  ((v = .nils ∨ ∃ z, v = .emp z) ∧ n = 0 ∧ cs = []) ∨ ∃ f t o c ex ro all, v = .slice f t o n c ex ∧ A.heap.get f = some (.cells t ro es all) ∧ takeN (n * es) (dropN o all) = some cs
theorem Buf.row {A : AW} {es : Nat} {v : AV} {n : Nat} {cs : List AV} (h : Buf A es v n cs) : Row A es v n cs := by
  rcases h with ⟨rfl, rfl, rfl⟩ | ⟨f, t, rfl, h1, h2, h3⟩
  · exact .inl ⟨.inl rfl, rfl, rfl⟩
  · refine .inr ⟨f, t, 0, n, false, false, cs, rfl, h1, ?_⟩
    rw [show dropN 0 cs = cs from rfl, takeN_some _ _ (by omega), ← h2, List.take_length]
theorem Row.length {A : AW} {es : Nat} {v : AV} {n : Nat} {cs : List AV} (h : Row A es v n cs) : cs.length = n * es := by
  rcases h with ⟨_, rfl, rfl⟩ | ⟨f, t, o, c, ex, ro, all, rfl, h1, h2⟩
  · simp
  · exact (takeN_eq _ _ _ h2).2
theorem Row.lenV {A : AW} {es : Nat} {v : AV} {n : Nat} {cs : List AV} (h : Row A es v n cs) : lenV v = some n := by
  rcases h with ⟨rfl | ⟨z, rfl⟩, rfl, rfl⟩ | ⟨f, t, o, c, ex, ro, all, rfl, h1, h2⟩ <;> rfl
theorem Row.keep {A A1 : AW} {es : Nat} {v : AV} {n : Nat} {cs : List AV} {T : Nat → Prop} (h : Row A es v n cs) (ho : Only A A1 T) (hd : Disj v.isFam T) : Row A1 es v n cs := by
  rcases h with ⟨hv, rfl, rfl⟩ | ⟨f, t, o, c, ex, ro, all, rfl, h1, h2⟩
  · exact .inl ⟨hv, rfl, rfl⟩
  · exact .inr ⟨f, t, o, c, ex, ro, all, rfl, ho.keep f _ h1 (hd f rfl), h2⟩
theorem Row.src {A : AW} {es : Nat} {v : AV} {n : Nat} {cs : List AV} (h : Row A es v n cs) : srcA A es v = some (n, cs) := by
  rcases h with ⟨rfl | ⟨z, rfl⟩, rfl, rfl⟩ | ⟨f, t, o, c, ex, ro, all, rfl, h1, h2⟩
  · rfl
  · rfl
  · simp only [srcA, readCells, h1, Nat.beq_refl, cond_true]
    rw [show Nat.mul n es = n * es from rfl, h2]
theorem Row.under {A : AW} {es : Nat} {v : AV} {n : Nat} {cs : List AV} (hw : Wf A) (h : Row A es v n cs) : Under A v.isFam := fun g hg => by
  rcases h with ⟨rfl | ⟨z, rfl⟩, _, _⟩ | ⟨f, t, o, c, ex, ro, all, rfl, h1, h2⟩
  · exact hg.elim
  · exact hg.elim
  · cases hg; exact hw _ _ h1
theorem take_sub {α : Type} {l cs : List α} {n i k : Nat} (h : takeN n l = some cs) (hk : i + k ≤ n) : takeN k (dropN i l) = takeN k (dropN i cs) := by
  obtain ⟨h1, h2⟩ := takeN_eq _ _ _ h
  have hl : n ≤ l.length := by
    rw [h1, List.length_take] at h2
    omega
  rw [dropN_eq, dropN_eq, takeN_some _ _ (by rw [List.length_drop]; omega), takeN_some _ _ (by rw [List.length_drop]; omega), h1, List.drop_take, List.take_take]
  congr 1
  rw [Nat.min_eq_left (by omega)]
theorem dropN_add {α : Type} (l : List α) (a b : Nat) : dropN (a + b) l = dropN b (dropN a l) := by rw [dropN_eq, dropN_eq, dropN_eq, List.drop_drop]
/-- The i-th element's cells. -/
theorem Row.at {A : AW} {es : Nat} {v : AV} {n : Nat} {cs : List AV} (h : Row A es v n cs) {i : Nat} (hi : i < n) : ∃ f t o c ex ro all, v = .slice f t o n c ex ∧ A.heap.get f = some (.cells t ro es all) ∧
    ∀ k j, j + k ≤ es → takeN k (dropN (Nat.add (Nat.add o (Nat.mul i es)) j) all) = takeN k (dropN (i * es + j) cs) := by
  rcases h with ⟨_, rfl, rfl⟩ | ⟨f, t, o, c, ex, ro, all, rfl, h1, h2⟩
  · omega
  · refine ⟨f, t, o, c, ex, ro, all, rfl, h1, fun k j hk => ?_⟩
    have e : Nat.add (Nat.add o (Nat.mul i es)) j = o + (i * es + j) := Nat.add_assoc _ _ _
    rw [e, dropN_add, take_sub h2]
    have : i * es + es ≤ n * es := by rw [← Nat.succ_mul]; exact Nat.mul_le_mul_right es hi
    omega
theorem takeN_one {α : Type} (l : List α) (x : α) : takeN 1 l = some [x] → nth l 0 = some x := by
  cases l with
  | nil => intro h; cases h
  | cons y l =>
    intro h
    simp only [takeN, Option.some.injEq, List.cons.injEq, and_true] at h
    subst h
    rfl
theorem nth_drop {α : Type} (l : List α) (n : Nat) : nth l n = nth (dropN n l) 0 := by simp [nth_eq, dropN_eq]
theorem nth_take {α : Type} {l : List α} {n : Nat} {x : α} (h : takeN 1 (dropN n l) = some [x]) : nth l n = some x := by
  rw [nth_drop]
  exact takeN_one _ _ h
/-- Elements laid side by side. -/
theorem take_flat {α β : Type} {f : α → List β} {es : Nat} (hf : ∀ a, (f a).length = es) : ∀ {l : List α} {i : Nat} {a : α}, l[i]? = some a → ∀ k j, j + k ≤ es → takeN k (dropN (i * es + j) (l.flatMap f)) = takeN k (dropN j (f a))
  | [], i, a, h, k, j, hk => by simp at h
  | x :: l, 0, a, h, k, j, hk => by
    simp only [List.getElem?_cons_zero, Option.some.injEq] at h
    subst h
    have := hf x
    rw [List.flatMap_cons, Nat.zero_mul, Nat.zero_add, dropN_eq, dropN_eq, takeN_some _ _ (by simp; omega), takeN_some _ _ (by simp; omega), List.drop_append_of_le_length (by omega), List.take_append_of_le_length (by simp; omega)]
  | x :: l, i + 1, a, h, k, j, hk => by
    have ih := take_flat hf (l := l) (i := i) (a := a) (by simpa using h) k j hk
    rw [← ih, List.flatMap_cons]
    have e : (i + 1) * es + j = (f x).length + (i * es + j) := by rw [hf, Nat.succ_mul]; omega
    rw [e, dropN_add]
    congr 1
    rw [dropN_eq, dropN_eq, dropN_eq, List.drop_append_of_le_length (Nat.le_refl _), List.drop_length, List.nil_append]
theorem flat_len {α β : Type} {f : α → List β} {es : Nat} (hf : ∀ a, (f a).length = es) : ∀ l : List α, (l.flatMap f).length = l.length * es
  | [] => by simp
  | x :: l => by rw [List.flatMap_cons, List.length_append, hf, flat_len hf l, List.length_cons, Nat.succ_mul]; omega

/-! ### The top -/
/-- All that is there is only looked at. -/
def AllRo (A : AW) : Prop := ∀ f F, A.heap.get f = some F → F.ro = true
open Go.RowKit in
theorem topP [Rho] {E : Env} (hE : EnvOk E) {f : FuncId} {args : List AV} {A : AW} {μ : Mp} {w : World} {cargs : Array Value} {R : AV → AW → Prop} (h : CallP E f args A R) (hr : ∀ v A1, R v A1 → v = .bool true) (hro : AllRo A) (hR : Rel w.heap.size μ A w) (ha : LRel μ args cargs.toList) :
    Calls E.P f cargs w fun e w' => e = .returned (.bool true) ∧ Below w.heap.size w w' := by
  obtain ⟨v, A1, r, n0, hc⟩ := h
  have hv := hr v A1 r
  subst hv
  refine (call_ok hE n0 f args A (.bool true) A1 μ w cargs (hc n0 (Nat.le_refl _)) hR ha).mono ?_
  rintro e w' ⟨cv, μ', rfl, hv, hs⟩
  cases hv
  exact ⟨rfl, hs.os, hs.tape, hs.output, hs.size, fun k hk => hs.blk k hk fun g F t p hF hf => by rw [hro g F hF] at hf; cases hf⟩
end Go.AE
