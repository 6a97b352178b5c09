/-
  THE EVALUATOR BY RULES, fifth part: rows that are read; the top.
-/
import Derived.Test.YtiecclkgjcnaoaaGreatAiSy4
import Derived.Test.YtiecclkgjcnaoaaGreatAiOrc
namespace Go.AE
set_option linter.unusedVariables false
set_option linter.unusedSimpArgs false
def Row (A : AW) (es : Nat) (v : AV) (n : Nat) (cs : List AV) : Prop :=
  ((v = .nils ∨ ∃ z, v = .emp z) ∧ n = 0 ∧ cs = []) ∨ ∃ f t o c ex ro all, v = .slice f t o n c ex ∧ A.heap.get f = some (.cells t ro es all) ∧ n ≤ c ∧ takeN (n * es) (dropN o all) = some cs
theorem Buf.row {A : AW} {es : Nat} {v : AV} {n : Nat} {cs : List AV} (h : Buf A es v n cs) : Row A es v n cs := by
  rcases h with ⟨rfl, rfl, rfl⟩ | ⟨f, t, rfl, h1, h2, h3⟩
  · exact .inl ⟨.inl rfl, rfl, rfl⟩
  · refine .inr ⟨f, t, 0, n, false, false, cs, rfl, h1, Nat.le_refl _, ?_⟩
    rw [show dropN 0 cs = cs from rfl, takeN_some _ _ (by omega), ← h2, List.take_length]
theorem Row.length {A : AW} {es : Nat} {v : AV} {n : Nat} {cs : List AV} (h : Row A es v n cs) : cs.length = n * es := by
  rcases h with ⟨_, rfl, rfl⟩ | ⟨f, t, o, c, ex, ro, all, rfl, h1, h0, h2⟩
  · simp
  · exact (takeN_eq _ _ _ h2).2
theorem Row.lenV {A : AW} {es : Nat} {v : AV} {n : Nat} {cs : List AV} (h : Row A es v n cs) : lenV v = some n := by
  rcases h with ⟨rfl | ⟨z, rfl⟩, rfl, rfl⟩ | ⟨f, t, o, c, ex, ro, all, rfl, h1, h0, h2⟩ <;> rfl
theorem Row.keep {A A1 : AW} {es : Nat} {v : AV} {n : Nat} {cs : List AV} {T : Nat → Prop} (h : Row A es v n cs) (ho : Only A A1 T) (hd : Disj v.isFam T) : Row A1 es v n cs := by
  rcases h with ⟨hv, rfl, rfl⟩ | ⟨f, t, o, c, ex, ro, all, rfl, h1, h0, h2⟩
  · exact .inl ⟨hv, rfl, rfl⟩
  · exact .inr ⟨f, t, o, c, ex, ro, all, rfl, ho.keep f _ h1 (hd f rfl), h0, h2⟩
theorem Row.src {A : AW} {es : Nat} {v : AV} {n : Nat} {cs : List AV} (h : Row A es v n cs) : srcA A es v = some (n, cs) := by
  rcases h with ⟨rfl | ⟨z, rfl⟩, rfl, rfl⟩ | ⟨f, t, o, c, ex, ro, all, rfl, h1, h0, h2⟩
  · rfl
  · rfl
  · simp only [srcA, readCells, h1, Nat.beq_refl, cond_true]
    rw [show Nat.mul n es = n * es from rfl, h2]
theorem Row.under {A : AW} {es : Nat} {v : AV} {n : Nat} {cs : List AV} (hw : Wf A) (h : Row A es v n cs) : Under A v.isFam := fun g hg => by
  rcases h with ⟨rfl | ⟨z, rfl⟩, _, _⟩ | ⟨f, t, o, c, ex, ro, all, rfl, h1, h0, h2⟩
  · exact hg.elim
  · exact hg.elim
  · cases hg; exact hw _ _ h1
theorem take_sub {α : Type} {l cs : List α} {n i k : Nat} (h : takeN n l = some cs) (hk : i + k ≤ n) : takeN k (dropN i l) = takeN k (dropN i cs) := by
  obtain ⟨h1, h2⟩ := takeN_eq _ _ _ h
  have hl : n ≤ l.length := by
    rw [h1, List.length_take] at h2
    omega
  rw [dropN_eq, dropN_eq, takeN_some _ _ (by rw [List.length_drop]; omega), takeN_some _ _ (by rw [List.length_drop]; omega), h1, List.drop_take, List.take_take]
  congr 1
  rw [Nat.min_eq_left (by omega)]
theorem dropN_add {α : Type} (l : List α) (a b : Nat) : dropN (a + b) l = dropN b (dropN a l) := by rw [dropN_eq, dropN_eq, dropN_eq, List.drop_drop]
theorem Row.at {A : AW} {es : Nat} {v : AV} {n : Nat} {cs : List AV} (h : Row A es v n cs) {i : Nat} (hi : i < n) : ∃ f t o c ex ro all, v = .slice f t o n c ex ∧ A.heap.get f = some (.cells t ro es all) ∧
    ∀ k j, j + k ≤ es → takeN k (dropN (Nat.add (Nat.add o (Nat.mul i es)) j) all) = takeN k (dropN (i * es + j) cs) := by
  rcases h with ⟨_, rfl, rfl⟩ | ⟨f, t, o, c, ex, ro, all, rfl, h1, h0, h2⟩
  · omega
  · refine ⟨f, t, o, c, ex, ro, all, rfl, h1, fun k j hk => ?_⟩
    have e : Nat.add (Nat.add o (Nat.mul i es)) j = o + (i * es + j) := Nat.add_assoc _ _ _
    rw [e, dropN_add, take_sub h2]
    have : i * es + es ≤ n * es := by rw [← Nat.succ_mul]; exact Nat.mul_le_mul_right es hi
    omega
theorem takeN_one {α : Type} (l : List α) (x : α) : takeN 1 l = some [x] → nth l 0 = some x := by
  cases l with
  | nil => intro h; cases h
  | cons y l =>
    intro h
    simp only [takeN, Option.some.injEq, List.cons.injEq, and_true] at h
    subst h
    rfl
theorem nth_drop {α : Type} (l : List α) (n : Nat) : nth l n = nth (dropN n l) 0 := by simp [nth_eq, dropN_eq]
theorem nth_take {α : Type} {l : List α} {n : Nat} {x : α} (h : takeN 1 (dropN n l) = some [x]) : nth l n = some x := by
  rw [nth_drop]
  exact takeN_one _ _ h
theorem take_flat {α β : Type} {f : α → List β} {es : Nat} (hf : ∀ a, (f a).length = es) : ∀ {l : List α} {i : Nat} {a : α}, l[i]? = some a → ∀ k j, j + k ≤ es → takeN k (dropN (i * es + j) (l.flatMap f)) = takeN k (dropN j (f a))
  | [], i, a, h, k, j, hk => by simp at h
  | x :: l, 0, a, h, k, j, hk => by
    simp only [List.getElem?_cons_zero, Option.some.injEq] at h
    subst h
    have := hf x
    rw [List.flatMap_cons, Nat.zero_mul, Nat.zero_add, dropN_eq, dropN_eq, takeN_some _ _ (by simp; omega), takeN_some _ _ (by simp; omega), List.drop_append_of_le_length (by omega), List.take_append_of_le_length (by simp; omega)]
  | x :: l, i + 1, a, h, k, j, hk => by
    have ih := take_flat hf (l := l) (i := i) (a := a) (by simpa using h) k j hk
    rw [← ih, List.flatMap_cons]
    have e : (i + 1) * es + j = (f x).length + (i * es + j) := by rw [hf, Nat.succ_mul]; omega
    rw [e, dropN_add]
    congr 1
    rw [dropN_eq, dropN_eq, dropN_eq, List.drop_append_of_le_length (Nat.le_refl _), List.drop_length, List.nil_append]
theorem flat_len {α β : Type} {f : α → List β} {es : Nat} (hf : ∀ a, (f a).length = es) : ∀ l : List α, (l.flatMap f).length = l.length * es
  | [] => by simp
  | x :: l => by rw [List.flatMap_cons, List.length_append, hf, flat_len hf l, List.length_cons, Nat.succ_mul]; omega
theorem Row.byte {A : AW} {v : AV} {n : Nat} {bs : List Nat} (h : Row A 1 v n (bys bs)) {i b : Nat} (hb : bs[i]? = some b) : ∃ f t o c ex ro all, v = .slice f t o n c ex ∧ A.heap.get f = some (.cells t ro 1 all) ∧ i < n ∧ nth all (Nat.add o (Nat.mul i 1)) = some (.int .u8 (b : Int)) := by
  have hi : i < n := by
    have h1 := h.length
    rw [bys_length] at h1
    have := (List.getElem?_eq_some_iff.1 hb).1
    omega
  obtain ⟨f, t, o, c, ex, ro, all, rfl, h1, h2⟩ := h.at hi
  refine ⟨f, t, o, c, ex, ro, all, rfl, h1, hi, nth_take ?_⟩
  refine (h2 1 0 (Nat.le_refl _)).trans ?_
  have hl : i < (bys bs).length := by rw [bys_length]; exact (List.getElem?_eq_some_iff.1 hb).1
  rw [Nat.mul_one, Nat.add_zero, dropN_eq, takeN_some _ _ (by rw [List.length_drop]; omega)]
  congr 1
  have : (bys bs)[i]? = some (.int .u8 (b : Int)) := by unfold bys; rw [List.getElem?_map, hb]; rfl
  rw [List.getElem?_eq_getElem hl, Option.some.injEq] at this
  rw [List.drop_eq_getElem_cons hl, List.take_succ_cons, List.take_zero, this]
theorem Row.drop {E : Env} {A : AW} {t e : TypeId} {d de : ATy} {v : AV} {n k : Nat} {cs : List AV} {kk : IntKind} (ht : E.tys.get t = some d) (hs : d.desc = .slice e) (he : E.tys.get e = some de) (h : Row A de.size v n cs) (hk : k < n) :
    ∃ r, sliceA E t v (some (.int kk (k : Int))) none none A = .val r A ∧ Row A de.size r (n - k) (cs.drop (k * de.size)) ∧ (∀ g, r.isFam g → v.isFam g) ∧ avEq r r = true := by
  unfold sliceA
  rcases h with ⟨_, rfl, rfl⟩ | ⟨f, u, o, c, ex, ro, all, rfl, h1, h0, h2⟩
  · omega
  · simp only [ht, hs, he, sliceRow, h1, Nat.beq_refl, Bool.and_self, cond_true]
    have e1 : bound (some (.int kk (k : Int))) n 0 = some k := by
      show (bif Nat.ble k n then some k else none) = _
      rw [Nat.ble_eq_true_of_le (by omega)]
      rfl
    have e2 : bound none c n = some n := rfl
    have hl := (takeN_eq _ _ _ h2).2
    have e3 : Nat.beq k c = false := by rw [beq_eq]; exact decide_eq_false (by omega)
    simp only [e2, e1, e3, cond_false]
    refine ⟨_, rfl, .inr ⟨f, u, Nat.add o (Nat.mul k de.size), _, ex, ro, all, rfl, h1, by show n - k ≤ c - k; omega, ?_⟩, fun g h => h, ?_⟩
    · have h5 : k * de.size ≤ n * de.size := Nat.mul_le_mul_right _ (by omega)
      have e6 : k * de.size + (n - k) * de.size = n * de.size := by rw [← Nat.add_mul]; congr 1; omega
      have e5 : dropN (Nat.add o (Nat.mul k de.size)) all = dropN (k * de.size) (dropN o all) := dropN_add _ _ _
      have := take_sub (i := k * de.size) (k := (n - k) * de.size) h2 (by omega)
      rw [e5, this, dropN_eq, takeN_some _ _ (by rw [List.length_drop]; omega), List.take_of_length_le (by rw [List.length_drop]; omega)]
    · simp only [avEq, Nat.beq_refl, Bool.and_self, beq_self_eq_true]
theorem toStr_row {E : Env} {A : AW} {s t e : TypeId} {ds dt : ATy} {v : AV} {n : Nat} {bs : List Nat} (hs : E.tys.get s = some ds) (he : ds.desc = .slice e) (hu : isU8 E e = true) (ht : E.tys.get t = some dt) (hd : dt.desc = .string) (hb : Row A 1 v n (bys bs)) :
    convertA E s t v A = .val (.str (mods bs)) A := by
  unfold convertA
  have h0 : ∀ l : List Nat, bys l = [] → l = [] := fun l h => by cases l with
    | nil => rfl
    | cons b l => cases h
  rcases hb with ⟨rfl | ⟨z, rfl⟩, rfl, h⟩ | ⟨f, u, o, c, ex, ro, all, rfl, h1, _, h2⟩
  · rw [h0 bs h, hs, ht]
    simp only [hd, he, hu, cond_true]
    rfl
  · rw [h0 bs h, hs, ht]
    simp only [hd, he, hu, cond_true]
    rfl
  · rw [hs, ht]
    rw [Nat.mul_one] at h2
    simp only [hd, he, hu, cond_true, readCells, h1, Nat.beq_refl, h2, bys_mods]
def Full (A : AW) (es : Nat) (v : AV) (n : Nat) (cs : List AV) : Prop := Row A es v n cs
theorem Full.row {A : AW} {es : Nat} {v : AV} {n : Nat} {cs : List AV} (h : Full A es v n cs) : Row A es v n cs := h
theorem Buf.full {A : AW} {es : Nat} {v : AV} {n : Nat} {cs : List AV} (h : Buf A es v n cs) : Full A es v n cs := h.row
theorem Full.keep {A A1 : AW} {es : Nat} {v : AV} {n : Nat} {cs : List AV} {T : Nat → Prop} (h : Full A es v n cs) (ho : Only A A1 T) (hd : Disj v.isFam T) : Full A1 es v n cs := Row.keep h ho hd
theorem Full.still {A : AW} {es : Nat} {v : AV} {n : Nat} {cs : List AV} (h : Full A es v n cs) : valEq v v = true := by
  rcases h with ⟨rfl | ⟨z, rfl⟩, _, _⟩ | ⟨f, t, o, c, ex, ro, all, rfl, _, _⟩
  · rfl
  · show (z == z) = true
    simp
  · show (Nat.beq f f && Nat.beq t t && Nat.beq o o && Nat.beq n n && Nat.beq c c && (ex == ex)) = true
    simp only [Nat.beq_refl, beq_self_eq_true, Bool.and_self]
theorem Full.cells {A : AW} {es : Nat} {v : AV} {n : Nat} {cs : List AV} (h : Full A es v n cs) : cellsOf v = some [v] := by
  rcases h with ⟨rfl | ⟨z, rfl⟩, _, _⟩ | ⟨f, t, o, c, ex, ro, all, rfl, _, _⟩ <;> rfl
section
variable {E : Env} {A : AW} {t e : TypeId} {d de : ATy} {v : AV} {n k : Nat} {cs : List AV} {kk : IntKind}
theorem Full.take (ht : E.tys.get t = some d) (hs : d.desc = .slice e) (he : E.tys.get e = some de) (h : Full A de.size v n cs) (hk : k ≤ n) :
    ∃ r, sliceA E t v none (some (.int kk (k : Int))) none A = .val r A ∧ Row A de.size r k (cs.take (k * de.size)) ∧ ∀ g, r.isFam g → v.isFam g := by
  unfold sliceA
  rcases h with ⟨rfl | ⟨z, rfl⟩, rfl, rfl⟩ | ⟨f, u, o, c, ex, ro, all, rfl, h1, hc, h2⟩
  · obtain rfl : k = 0 := by omega
    simp only [ht, hs, he]
    exact ⟨.nils, rfl, .inl ⟨.inl rfl, rfl, by simp⟩, fun g h => h⟩
  · obtain rfl : k = 0 := by omega
    simp only [ht, hs, he]
    exact ⟨.emp z, rfl, .inl ⟨.inr ⟨z, rfl⟩, rfl, by simp⟩, fun g h => h⟩
  · simp only [ht, hs, he, sliceRow, h1, Nat.beq_refl, Bool.and_self, cond_true]
    have e1 : bound (some (.int kk (k : Int))) c n = some k := by
      show (bif Nat.ble k c then some k else none) = _
      rw [Nat.ble_eq_true_of_le (Nat.le_trans hk hc)]
      rfl
    have e2 : bound none k 0 = some 0 := rfl
    simp only [e1, e2]
    by_cases hn : c = 0
    · subst hn
      obtain rfl : k = 0 := by omega
      exact ⟨_, rfl, .inl ⟨.inr ⟨ex, rfl⟩, rfl, by simp⟩, fun g h => h.elim⟩
    · have e3 : Nat.beq 0 c = false := by rw [beq_eq]; exact decide_eq_false (by omega)
      rw [e3]
      refine ⟨_, rfl, .inr ⟨f, u, Nat.add o (Nat.mul 0 de.size), Nat.sub c 0, ex, ro, all, rfl, h1, by show k - 0 ≤ c - 0; omega, ?_⟩, fun g h => h⟩
      have e4 : Nat.add o (Nat.mul 0 de.size) = o := by show o + 0 * de.size = o; omega
      have h5 : k * de.size ≤ n * de.size := Nat.mul_le_mul_right _ hk
      have := take_sub (i := 0) (k := k * de.size) h2 (by omega)
      rw [e4]
      rw [show dropN 0 (dropN o all) = dropN o all from rfl, show dropN 0 cs = cs from rfl] at this
      rw [this, takeN_some _ _ (by rw [(takeN_eq _ _ _ h2).2]; exact h5)]
theorem Full.drop (ht : E.tys.get t = some d) (hs : d.desc = .slice e) (he : E.tys.get e = some de) (h : Full A de.size v n cs) (hk : k ≤ n) :
    ∃ r, sliceA E t v (some (.int kk (k : Int))) none none A = .val r A ∧ Full A de.size r (n - k) (cs.drop (k * de.size)) ∧ ∀ g, r.isFam g → v.isFam g := by
  unfold sliceA
  rcases h with ⟨rfl | ⟨z, rfl⟩, rfl, rfl⟩ | ⟨f, u, o, c, ex, ro, all, rfl, h1, hc, h2⟩
  · obtain rfl : k = 0 := by omega
    simp only [ht, hs, he]
    exact ⟨.nils, rfl, .inl ⟨.inl rfl, rfl, by simp⟩, fun g h => h⟩
  · obtain rfl : k = 0 := by omega
    simp only [ht, hs, he]
    exact ⟨.emp z, rfl, .inl ⟨.inr ⟨z, rfl⟩, rfl, by simp⟩, fun g h => h⟩
  · simp only [ht, hs, he, sliceRow, h1, Nat.beq_refl, Bool.and_self, cond_true]
    have e1 : bound (some (.int kk (k : Int))) n 0 = some k := by
      show (bif Nat.ble k n then some k else none) = _
      rw [Nat.ble_eq_true_of_le hk]
      rfl
    have e2 : bound none c n = some n := rfl
    have hl := (takeN_eq _ _ _ h2).2
    simp only [e2, e1]
    by_cases hn : k = c
    · subst hn
      obtain rfl : k = n := by omega
      rw [Nat.beq_refl]
      exact ⟨_, rfl, .inl ⟨.inr ⟨ex, rfl⟩, Nat.sub_self _, by rw [← hl, List.drop_length]⟩, fun g h => h.elim⟩
    · have e3 : Nat.beq k c = false := by rw [beq_eq]; exact decide_eq_false hn
      rw [e3]
      refine ⟨_, rfl, .inr ⟨f, u, Nat.add o (Nat.mul k de.size), Nat.sub c k, ex, ro, all, rfl, h1, by show n - k ≤ c - k; omega, ?_⟩, fun g h => h⟩
      have h5 : k * de.size ≤ n * de.size := Nat.mul_le_mul_right _ hk
      have e6 : k * de.size + (n - k) * de.size = n * de.size := by rw [← Nat.add_mul]; congr 1; omega
      have e5 : dropN (Nat.add o (Nat.mul k de.size)) all = dropN (k * de.size) (dropN o all) := dropN_add _ _ _
      have := take_sub (i := k * de.size) (k := (n - k) * de.size) h2 (by omega)
      rw [e5, this, dropN_eq, takeN_some _ _ (by rw [List.length_drop]; omega), List.take_of_length_le (by rw [List.length_drop]; omega)]
end
theorem Buf.slice {A : AW} {es : Nat} {v : AV} {n : Nat} {cs : List AV} (h : Buf A es v n cs) (hn : 0 < n) : ∃ f t, v = .slice f t 0 n n false ∧ A.heap.get f = some (.cells t false es cs) ∧ cs.length = n * es := by
  rcases h with ⟨_, h, _⟩ | ⟨f, t, h1, h2, h3, _⟩
  · omega
  · exact ⟨f, t, h1, h2, h3⟩
theorem Buf.put {A : AW} {es f t : Nat} {n : Nat} {cs cs' : List AV} (h : Buf A es (.slice f t 0 n n false) n cs) (hl : cs'.length = cs.length) : Buf (A.put f (.cells t false es cs')) es (.slice f t 0 n n false) n cs' := by
  rcases h with ⟨h, _⟩ | ⟨f', t', h1, h2, h3, h4⟩
  · cases h
  · cases h1
    exact .inr ⟨f, t, rfl, by simp, by omega, h4⟩
def AllRo (A : AW) : Prop := ∀ f F, A.heap.get f = some F → F.ro = true
open Go.RowKit in
theorem topP [Rho] {E : Env} (hE : EnvOk E) {f : FuncId} {args : List AV} {A : AW} {μ : Mp} {w : World} {cargs : Array Value} {R : AV → AW → Prop} (h : CallP E f args A R) (hr : ∀ v A1, R v A1 → v = .bool true) (hro : AllRo A) (hR : Rel w.heap.size μ A w) (ha : LRel μ args cargs.toList) :
    Calls E.P f cargs w fun e w' => e = .returned (.bool true) ∧ Below w.heap.size w w' := by
  obtain ⟨v, A1, r, n0, hc⟩ := h
  have hv := hr v A1 r
  subst hv
  refine (call_ok hE n0 f args A (.bool true) A1 μ w cargs (hc n0 (Nat.le_refl _)) hR ha).mono ?_
  rintro e w' ⟨cv, μ', rfl, hv, hs⟩
  cases hv
  exact ⟨rfl, hs.os, hs.tape, hs.output, hs.size, fun k hk => hs.blk k hk fun g F t p hF hf => by rw [hro g F hF] at hf; cases hf⟩
section
variable {E : Env} {C : FnE} {all rest : List Oper} {l : Kn} {A : AW} {K : Kn → AW → Prop} {d : Tmp} {ty : TypeId} {pos : String} {after : Array Edge}
def optO (l : Kn) : Option Operand → Option (Option AV)
  | none => some none
  | some x => (match evO l x with
    | some v => some (some v)
    | none => none)
theorem optO_spec {F : Fr} (hF : Kf C l F) {x : Option Operand} {v : Option AV} (h : optO l x = some v) : optA F x = v := by
  cases x with
  | none => exact Option.some.inj h
  | some x =>
    simp only [optO] at h
    split at h
    · rename_i w hw
      cases h
      show some (ev F x) = _
      rw [hF.ev hw]
    · cases h
theorem wo_slice {t : TypeId} {x : Operand} {lo hi mx : Option Operand} {v : AV} {a b c : Option AV} {Q : AV → Prop} (hd : Nat.blt d C.N = true) (hx : evO l x = some v) (h1 : optO l lo = some a) (h2 : optO l hi = some b) (h3 : optO l mx = some c)
    (hv : ∃ r, sliceA E t v a b c A = .val r A ∧ Q r) (h : ∀ r, Q r → WO E C all rest (.put d r l) A K) : WO E C all (⟨some d, .slice t x lo hi mx, ty, pos, after, none⟩ :: rest) l A K := by
  obtain ⟨r, hv, q⟩ := hv
  refine wo_val hd (fun F hF => ?_) (h r q)
  show liftR (sliceA E t (ev F x) (optA F lo) (optA F hi) (optA F mx) A) = _
  rw [hF.ev hx, optO_spec hF h1, optO_spec hF h2, optO_spec hF h3, hv]
  rfl
theorem xA (t : Tmp) {b : Bool} (b' : Bool) (ht : l.find t = some (.bool b)) (hb : b = b') (h : WO E C all rest (.put t (.bool b') l) A K) : WO E C all rest l A K := by
  subst hb
  exact wo_bool ht (fun e => e ▸ h) (fun e => e ▸ h)
theorem wo_storeV {t : TypeId} {a x : Operand} {f s o : Nat} {dt : ATy} {es : Nat} {cs cs' : List AV} {v : AV} (ha : evO l a = some (.ptr f s o)) (hx : evO l x = some v) (hc : cellsOf v = some [v]) (ht : E.tys.get t = some dt)
    (hl : Nat.beq 1 dt.size = true) (hf : A.heap.get f = some (.cells s false es cs)) (hp : putN o [v] cs = some cs') (h : WO E C all rest l (A.put f (.cells s false es cs')) K) :
    WO E C all (⟨none, .store t a x, ty, pos, after, none⟩ :: rest) l A K := qZ ha hx hc ht hl rfl hf hp h
end
end Go.AE
