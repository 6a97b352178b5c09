/-
  THE EVALUATOR BY RULES, third part: what a piece of memory is, and what stays.
-/
import Derived.Test.YtokieeiohfcgdaaAiSy2
namespace Go.AE
set_option linter.unusedVariables false
set_option linter.unusedSimpArgs false

def Wf (A : AW) : Prop := ∀ g F, A.heap.get g = some F → g < A.nxt
/-- Families outside of T are as they were. -/
structure Only (A A1 : AW) (T : Nat → Prop) : Prop where
  wf : Wf A1
  nxt : A.nxt ≤ A1.nxt
  keep : ∀ g F, A.heap.get g = some F → ¬ T g → A1.heap.get g = some F
/-- What is in S' was in S, or is new. -/
def Grow (A : AW) (S S' : Nat → Prop) : Prop := ∀ g, S' g → S g ∨ A.nxt ≤ g
def Disj (S T : Nat → Prop) : Prop := ∀ g, S g → ¬ T g
def Under (A : AW) (S : Nat → Prop) : Prop := ∀ g, S g → g < A.nxt
def none' : Nat → Prop := fun _ => False
def one (f : Nat) : Nat → Prop := fun g => g = f
def both (S T : Nat → Prop) : Nat → Prop := fun g => S g ∨ T g

theorem Only.refl {A : AW} (h : Wf A) (T : Nat → Prop) : Only A A T := ⟨h, Nat.le_refl _, fun _ _ h _ => h⟩
theorem Only.mono {A A1 : AW} {T T' : Nat → Prop} (h : Only A A1 T) (ht : ∀ g, T g → T' g) : Only A A1 T' := ⟨h.wf, h.nxt, fun g F hg hn => h.keep g F hg fun h => hn (ht g h)⟩
theorem Only.trans {A A1 A2 : AW} {T T' : Nat → Prop} (hw : Wf A) (h : Only A A1 T) (h' : Only A1 A2 T') (ht : Grow A T T') : Only A A2 T :=
  ⟨h'.wf, Nat.le_trans h.nxt h'.nxt, fun g F hg hn => h'.keep g F (h.keep g F hg hn) fun h => by
    rcases ht g h with h | h
    · exact hn h
    · have := hw g F hg
      omega⟩
theorem Only.same {A A1 A2 : AW} {T : Nat → Prop} (h : Only A A1 T) (h' : Only A1 A2 T) : Only A A2 T :=
  ⟨h'.wf, Nat.le_trans h.nxt h'.nxt, fun g F hg hn => h'.keep g F (h.keep g F hg hn) hn⟩
theorem Grow.refl (A : AW) (S : Nat → Prop) : Grow A S S := fun g h => .inl h
theorem Grow.trans {A A1 : AW} {S S1 S2 : Nat → Prop} (h : Grow A S S1) (h' : Grow A1 S1 S2) (hn : A.nxt ≤ A1.nxt) : Grow A S S2 := fun g hg => by
  rcases h' g hg with h1 | h1
  · exact h g h1
  · exact .inr (Nat.le_trans hn h1)
theorem Grow.none (A : AW) (S : Nat → Prop) : Grow A S none' := fun g h => h.elim
/-- What lies apart stays apart. -/
theorem Grow.disj {A : AW} {S S' T : Nat → Prop} (h : Grow A S S') (hd : Disj T S) (hu : Under A T) : Disj T S' := fun g ht hs => by
  rcases h g hs with h | h
  · exact hd g ht h
  · have := hu g ht
    omega
theorem Disj.symm {S T : Nat → Prop} (h : Disj S T) : Disj T S := fun g a b => h g b a
theorem Under.mono {A A1 : AW} {S : Nat → Prop} (h : Under A S) (hn : A.nxt ≤ A1.nxt) : Under A1 S := fun g hg => Nat.lt_of_lt_of_le (h g hg) hn
theorem Only.keeps {A A1 : AW} {S T : Nat → Prop} (h : Only A A1 T) (hd : Disj S T) {g : Nat} {F : AFam} (hs : S g) (hg : A.heap.get g = some F) : A1.heap.get g = some F := h.keep g F hg (hd g hs)

theorem Wf.put {A : AW} (h : Wf A) {f : Nat} {x : AFam} (hf : f < A.nxt) : Wf (A.put f x) := fun g F hg => by
  rw [AW.put_get] at hg
  split at hg
  · rename_i e; subst e; exact hf
  · exact h g F hg
theorem Wf.add {A : AW} (h : Wf A) {x : AFam} : Wf (A.add x) := fun g F hg => by
  rw [AW.add_get] at hg
  split at hg
  · rename_i e; subst e; exact Nat.lt_succ_self _
  · exact Nat.lt_succ_of_lt (h g F hg)
theorem Only.put {A : AW} (h : Wf A) {f : Nat} {x : AFam} (hf : f < A.nxt) : Only A (A.put f x) (one f) := ⟨h.put hf, Nat.le_refl _, fun g F hg hn => by
  rw [AW.put_get, if_neg (fun e : g = f => hn e)]; exact hg⟩
theorem Only.add {A : AW} (h : Wf A) {x : AFam} (T : Nat → Prop) : Only A (A.add x) T := ⟨h.add, Nat.le_succ _, fun g F hg hn => by
  have := h g F hg
  rw [AW.add_get, if_neg (by omega)]; exact hg⟩

/-! ### Rows that grow -/
def AV.isFam : AV → Nat → Prop
  | .slice f _ _ _ _ _, g => g = f
  | _, _ => False
/-- A row that is appended to, its elements of es cells: nil, or all of a family of its own. -/
def Buf (A : AW) (es : Nat) (v : AV) (n : Nat) (cs : List AV) : Prop :=
  (v = .nils ∧ n = 0 ∧ cs = []) ∨ ∃ f t, v = .slice f t 0 n n false ∧ A.heap.get f = some (.cells t false es cs) ∧ cs.length = n * es ∧ 0 < n
theorem Buf.length {A : AW} {es : Nat} {v : AV} {n : Nat} {cs : List AV} (h : Buf A es v n cs) : cs.length = n * es := by
  rcases h with ⟨_, rfl, rfl⟩ | ⟨_, _, _, _, h, _⟩
  · simp
  · exact h
theorem Buf.lenV {A : AW} {es : Nat} {v : AV} {n : Nat} {cs : List AV} (h : Buf A es v n cs) : lenV v = some n := by
  rcases h with ⟨rfl, rfl, _⟩ | ⟨_, _, rfl, _⟩ <;> rfl
theorem Buf.cells {A : AW} {es : Nat} {v : AV} {n : Nat} {cs : List AV} (h : Buf A es v n cs) : cellsOf v = some [v] := by
  rcases h with ⟨rfl, rfl, _⟩ | ⟨_, _, rfl, _⟩ <;> rfl
theorem Buf.under {A : AW} {es : Nat} {v : AV} {n : Nat} {cs : List AV} (hw : Wf A) (h : Buf A es v n cs) : Under A v.isFam := fun g hg => by
  rcases h with ⟨rfl, _, _⟩ | ⟨f, t, rfl, h1, _⟩
  · exact hg.elim
  · cases hg; exact hw _ _ h1
theorem Buf.keep {A A1 : AW} {es : Nat} {v : AV} {n : Nat} {cs : List AV} {T : Nat → Prop} (h : Buf A es v n cs) (ho : Only A A1 T) (hd : Disj v.isFam T) : Buf A1 es v n cs := by
  rcases h with ⟨rfl, rfl, rfl⟩ | ⟨f, t, rfl, h1, h2, h3⟩
  · exact .inl ⟨rfl, rfl, rfl⟩
  · exact .inr ⟨f, t, rfl, ho.keep f _ h1 (hd f rfl), h2, h3⟩
theorem Buf.src {A : AW} {es : Nat} {v : AV} {n : Nat} {cs : List AV} (h : Buf A es v n cs) : srcA A es v = some (n, cs) := by
  rcases h with ⟨rfl, rfl, rfl⟩ | ⟨f, t, rfl, h1, h2, h3⟩
  · rfl
  · have : takeN (Nat.mul n es) cs = some cs := by
      rw [takeN_some _ _ (by rw [h2]; exact Nat.le_refl _), show Nat.mul n es = n * es from rfl, ← h2, List.take_length]
    simp only [srcA, readCells, h1, Nat.beq_refl, cond_true, dropN, this]

/-- What has been appended to. -/
structure Grew (A A1 : AW) (es : Nat) (v v' : AV) (n : Nat) (cs : List AV) : Prop where
  buf : Buf A1 es v' n cs
  only : Only A A1 v.isFam
  grow : Grow A v.isFam v'.isFam

theorem append_buf {E : Env} {A : AW} {t e : TypeId} {d de : ATy} {z : List AV} {v x : AV} {n m : Nat} {cs xs : List AV} (ht : E.tys.get t = some d) (hs : d.desc = .slice e) (he : E.tys.get e = some de) (hz : de.zero = some z)
    (hw : Wf A) (hb : Buf A de.size v n cs) (hx : srcA A de.size x = some (m, xs)) (hl : xs.length = m * de.size) (h1 : 1 ≤ de.size) (hr : roomA (n + m) de.bytes = true) :
    ∃ v' A1, appendA E t v x A = .val v' A1 ∧ Grew A A1 de.size v v' (n + m) (cs ++ xs) := by
  unfold appendA
  simp only [ht, hs, he, hz, hx]
  by_cases h0 : m = 0
  · subst h0
    have hxs : xs = [] := List.eq_nil_of_length_eq_zero (by simpa using hl)
    subst hxs
    simp only [Nat.beq_refl, cond_true, Nat.add_zero, List.append_nil]
    rcases hb with ⟨rfl, rfl, rfl⟩ | ⟨f, t', rfl, g1, g2, g3⟩
    · exact ⟨_, _, rfl, .inl ⟨rfl, rfl, rfl⟩, Only.refl hw _, Grow.refl _ _⟩
    · exact ⟨_, _, rfl, .inr ⟨f, t', rfl, g1, g2, g3⟩, Only.refl hw _, Grow.refl _ _⟩
  · have e0 : Nat.beq m 0 = false := by rw [beq_eq]; simp [h0]
    have e1 : Nat.ble 1 de.size = true := Nat.ble_eq_true_of_le h1
    simp only [e0, cond_false, e1, cond_true]
    rcases hb with ⟨rfl, rfl, rfl⟩ | ⟨f, t', rfl, g1, g2, g3⟩
    · simp only [appendNew]
      rw [Nat.zero_add] at hr
      rw [hr]
      simp only [cond_true, Nat.zero_add, List.nil_append]
      refine ⟨_, A.add (.cells 0 false de.size xs), rfl, .inr ⟨A.nxt, 0, rfl, by simp, hl, by omega⟩, Only.add hw _, fun g hg => .inr ?_⟩
      cases hg
      exact Nat.le_refl _
    · simp only [appendRow, g1, Nat.beq_refl, Bool.and_self, cond_true]
      have e2 : Nat.ble (Nat.add n m) n = false := by
        rw [ble_dec]
        exact decide_eq_false (by show ¬ n + m ≤ n; omega)
      have e3 : takeN (Nat.add 0 (Nat.mul n de.size)) cs = some cs := by
        have : Nat.add 0 (Nat.mul n de.size) = n * de.size := Nat.zero_add _
        rw [this, takeN_some _ _ (by rw [g2]; exact Nat.le_refl _), ← g2, List.take_length]
      have hr' : roomA (Nat.add n m) de.bytes = true := hr
      rw [e2, hr', e3]
      simp only [cond_false, cond_true]
      refine ⟨_, A.put f (.cells (Nat.succ t') false de.size (cs ++ xs)), rfl, .inr ⟨f, Nat.succ t', rfl, by simp, ?_, by omega⟩, (Only.put hw (hw _ _ g1)).mono fun g hg => ?_, fun g hg => .inl ?_⟩
      · simp [g2, hl, Nat.add_mul]
      · exact hg
      · exact hg

theorem append_one {E : Env} {A : AW} {t e : TypeId} {d de : ATy} {z : List AV} {v : AV} {n : Nat} {cs xs : List AV} (ht : E.tys.get t = some d) (hs : d.desc = .slice e) (he : E.tys.get e = some de) (hz : de.zero = some z)
    (hw : Wf A) (hb : Buf A de.size v n cs) (hl : xs.length = de.size) (h1 : 1 ≤ de.size) (hr : roomA (n + 1) de.bytes = true) :
    ∃ v' A1, appendA E t v (.slice A.nxt 0 0 1 1 true) (A.add (.cells 0 false de.size xs)) = .val v' A1 ∧ Grew A A1 de.size v v' (n + 1) (cs ++ xs) := by
  have o1 : Only A (A.add (.cells 0 false de.size xs)) none' := Only.add hw _
  obtain ⟨v', A1, h, g⟩ := append_buf (m := 1) (xs := xs) (x := .slice A.nxt 0 0 1 1 true) ht hs he hz o1.wf (hb.keep o1 fun _ _ h => h) (by
    have e : takeN (Nat.mul 1 de.size) xs = some xs := by
      have : Nat.mul 1 de.size = de.size := Nat.one_mul _
      rw [this, takeN_some _ _ (by omega), ← hl, List.take_length]
    simp only [srcA, readCells, dropN]
    rw [AW.add_get, if_pos rfl]
    simp only [Nat.beq_refl, cond_true, e]) (by omega) h1 hr
  exact ⟨v', A1, h, g.buf, (o1.mono fun _ h => h.elim).same g.only, fun k hk => by
    rcases g.grow k hk with h | h
    · exact .inl h
    · exact .inr (Nat.le_trans o1.nxt h)⟩

theorem room_of {n b : Nat} (h : n ≤ 1099511627776) (hb : b ≤ 64) : roomA n b = true := by
  have h1 : Nat.ble n maxBytes = true := Nat.ble_eq_true_of_le (Nat.le_trans h (by decide))
  have h2 : Nat.ble (Nat.mul n b) maxBytes = true := Nat.ble_eq_true_of_le (Nat.le_trans (Nat.mul_le_mul h hb) (by decide))
  unfold roomA
  rw [h1, h2]
  rfl

/-- Bytes as cells. -/
def bys (l : List Nat) : List AV := l.map fun b : Nat => .int .u8 (b : Int)
theorem bys_length (l : List Nat) : (bys l).length = l.length := by simp [bys]
theorem bys_append (l m : List Nat) : bys (l ++ m) = bys l ++ bys m := by simp [bys]
theorem bys_str : ∀ l : List Nat, cellsOfStr l = bys l
  | [] => rfl
  | b :: l => by show _ :: cellsOfStr l = _; rw [bys_str l]; rfl
theorem bys_bytes : ∀ l : List Nat, (∀ b ∈ l, b < 256) → bytesOf (bys l) = some l
  | [], _ => rfl
  | b :: l, h => by
    have h1 := bys_bytes l fun c hc => h c (List.mem_cons_of_mem _ hc)
    have h2 : Nat.mod b 256 = b := Nat.mod_eq_of_lt (h b (List.mem_cons_self ..))
    show (match bytesOf (bys l) with
      | some r => some (Nat.mod b 256 :: r)
      | none => none) = _
    rw [h1, h2]
end Go.AE
