/-
  ROWS THAT COME IN: a slice of an input, as a family that is only looked at.
-/
import Derived.Test.YtokieeiohfcgdaaAiSy5
import Derived.Deep.Slices
import Derived.WideShapes
import Derived.Carry
namespace Go.AE
open Go.ChangeShapes Go.Deep
set_option linter.unusedVariables false
set_option linter.unusedSimpArgs false
variable [Rho]

/-- A value without addresses, and what it is read as. -/
def Same (l : List AV) (vs : List Value) : Prop := l.length = vs.length ∧ ∀ (i : Nat) a x, l[i]? = some a → vs[i]? = some x → a.one = true ∧ ∀ μ, VRel μ a x
theorem Same.nil : Same [] [] := ⟨rfl, by simp⟩
theorem Same.cons {a : AV} {x : Value} {l : List AV} {vs : List Value} (h1 : a.one = true) (h2 : ∀ μ, VRel μ a x) (h : Same l vs) : Same (a :: l) (x :: vs) := by
  refine ⟨by simp [h.1], fun i b y hb hy => ?_⟩
  cases i with
  | zero => simp at hb hy; subst hb hy; exact ⟨h1, h2⟩
  | succ i => exact h.2 i b y (by simpa using hb) (by simpa using hy)

/-- A slice that came in: n elements, their cells. -/
def ArgS (w : World) (es : Nat) (v : Value) (n : Nat) (cs : List AV) : Prop :=
  (v = .slice none 0 0 ∧ n = 0 ∧ cs = []) ∨ (∃ a cap, v = .slice (some a) 0 cap ∧ n = 0 ∧ cs = []) ∨
  ∃ c off cap arr elem fz, v = .slice (some ⟨c, off, none⟩) n cap ∧ 0 < n ∧ n ≤ cap ∧ off + cap * es ≤ arr.size ∧ w.heap[c]? = some (.cells arr elem fz) ∧ cs.length = n * es ∧
    ∀ (i : Nat) a, cs[i]? = some a → a.one = true ∧ ∃ cv, arr[off + i]? = some cv ∧ ∀ μ, VRel μ a cv

omit [Rho] in
theorem choose_list {α : Type} {p : Nat → α → Prop} : ∀ (n : Nat), (∀ i, i < n → ∃ x, p i x) → ∃ l : List α, l.length = n ∧ ∀ i x, l[i]? = some x → p i x
  | 0, _ => ⟨[], rfl, by simp⟩
  | n + 1, h => by
    obtain ⟨l, hl, hp⟩ := choose_list n fun i hi => h i (by omega)
    obtain ⟨x, hx⟩ := h n (by omega)
    refine ⟨l ++ [x], by simp [hl], fun i y hy => ?_⟩
    by_cases hi : i < n
    · rw [List.getElem?_append_left (by omega)] at hy
      exact hp i y hy
    · rw [List.getElem?_append_right (by omega)] at hy
      have : i = n := by
        by_cases h : i - l.length = 0
        · omega
        · rw [List.getElem?_cons, if_neg h] at hy
          simp at hy
      subst this
      rw [hl, Nat.sub_self] at hy
      simp at hy
      subst hy
      exact hx
omit [Rho] in
theorem flat_get {α β : Type} {f : α → List β} {es : Nat} (hf : ∀ a, (f a).length = es) : ∀ {l : List α} {i : Nat} {b : β}, (l.flatMap f)[i]? = some b → ∃ a, l[i / es]? = some a ∧ (f a)[i % es]? = some b ∧ 0 < es
  | [], i, b, h => by simp at h
  | x :: l, i, b, h => by
    rw [List.flatMap_cons] at h
    by_cases hi : i < es
    · rw [List.getElem?_append_left (by rw [hf]; exact hi)] at h
      exact ⟨x, by rw [Nat.div_eq_of_lt hi]; rfl, by rw [Nat.mod_eq_of_lt hi]; exact h, by omega⟩
    · rw [List.getElem?_append_right (by rw [hf]; omega), hf] at h
      obtain ⟨a, h1, h2, h3⟩ := flat_get hf h
      refine ⟨a, ?_, ?_, h3⟩
      · rw [show i / es = (i - es) / es + 1 from by rw [← Nat.sub_add_cancel (show es ≤ i by omega), Nat.add_div_right _ h3]; simp]
        simpa using h1
      · rw [Nat.mod_eq_sub_mod (by omega)]
        exact h2

section
variable {H : Type} {enc : TypeId × Value → H} {P : Program} {w : World} {held : Bool}
omit [Rho] in
theorem take_drop1 {α : Type} : ∀ {l : List α} {i : Nat} {c : α}, l[i]? = some c → (l.drop i).take 1 = [c]
  | [], i, c, h => by simp at h
  | a :: l, 0, c, h => by simp at h; subst h; simp
  | a :: l, i + 1, c, h => by
    rw [List.drop_succ_cons]
    exact take_drop1 (by simpa using h)
omit [Rho] in
/-- A field of one cell. -/
theorem fld {fs : Array Field} {n : Nat} {cs : List Value} {xs : List (DataW H × List MemPlace)} (hf : ∀ (i : Nat) (f : Field), fs[i]? = some f → DataW.trod enc P w 0 (fun _ => true) held n f.type ((cs.drop f.offset).take (P.cellsOf f.type)) = xs[i]?)
    (i : Nat) {f : Field} (t : TypeId) (off : Nat) {c : Value} {x : DataW H × List MemPlace} (hi : fs[i]? = some f) (ht : f.type = t) (ho : f.offset = off) (hc : P.cellsOf t = 1) (hcs : cs[off]? = some c) (hx : xs[i]? = some x) :
    DataW.trod enc P w 0 (fun _ => true) held n t [c] = some x := by
  have h := hf i f hi
  rw [ht, ho, hc, take_drop1 hcs, hx] at h
  exact h
/-- A SLICE OPENED: 'f' tells an element's cells, 'ok' what is known of an element. -/
theorem open_arg {α : Type} {f : α → List AV} {ok : α → Prop} {es : Nat} {t e : TypeId} {v : Value} {d : DataW H} {ps : List MemPlace} (ht : P.underlying t = some (.slice e)) (hc : P.cellsOf e = es) (h0 : 0 < es) (hf : ∀ a, (f a).length = es)
    (hel : ∀ n cs y, DataW.trod enc P w 0 (fun _ => true) held n e cs = some y → ∃ x : α, ok x ∧ Same (f x) cs) (hv : ∃ a n c, v = .slice a n c) (h : DataW.Trod enc P w 0 (fun _ => true) held t v d ps) :
    ∃ xs : List α, (∀ x ∈ xs, ok x) ∧ xs.length ≤ maxLen ∧ ArgS w es v xs.length (xs.flatMap f) := by
  obtain ⟨fuel, hk⟩ := h
  obtain ⟨sa, sn, sc, rfl⟩ := hv
  rcases open_slice ht hk with ⟨hcs, _⟩ | ⟨a, len, cap, m, n, D, Pl, hcs, _, hl, hm, rfl, _, hx⟩
  · simp [Value.cells] at hcs
    obtain ⟨rfl, rfl, rfl⟩ := hcs
    exact ⟨[], by simp, Nat.zero_le _, .inl ⟨rfl, rfl, rfl⟩⟩
  · simp [Value.cells] at hcs
    obtain ⟨rfl, rfl, rfl⟩ := hcs
    have hx : ∀ i, i < sc → ∃ cs', w.cells? 0 (a.add (i * P.cellsOf e)) (P.cellsOf e) = some cs' ∧ DataW.trod enc P w 0 (fun _ => true) held n e cs' = some (D i, Pl i) := hx
    by_cases hn : sn = 0
    · subst hn
      exact ⟨[], by simp, Nat.zero_le _, .inr (.inl ⟨a, sc, rfl, rfl, rfl⟩)⟩
    · have hz : ∃ xs : List α, xs.length = sn ∧ ∀ i x, xs[i]? = some x → ok x ∧ ∃ cs', w.cells? 0 (a.add (i * es)) es = some cs' ∧ Same (f x) cs' :=
        choose_list sn fun i hi => by
          obtain ⟨cs', h1, h2⟩ := hx i (by omega)
          obtain ⟨x, h3, h4⟩ := hel _ _ _ h2
          rw [hc] at h1
          exact ⟨x, h3, cs', h1, h4⟩
      obtain ⟨xs, hlen, hxs⟩ := hz
      have hcell : ∀ j, j < sc * es → ∃ cv, w.cell? (a.add j) = some cv := fun j hj => by
        have hi : j / es < sc := Nat.div_lt_of_lt_mul (by rw [Nat.mul_comm]; exact hj)
        obtain ⟨cs', h1, _⟩ := hx (j / es) hi
        rw [hc] at h1
        obtain ⟨_, h2, h3⟩ := World.cells?_some h1
        have hm := Nat.mod_lt j h0
        have := h3 (j % es) hm
        rw [add_add, show j / es * es + j % es = j from by rw [Nat.mul_comm]; exact Nat.div_add_mod j es, List.getElem?_eq_getElem (by omega)] at this
        exact ⟨_, this⟩
      have hpos : 0 < sc * es := Nat.mul_pos (by omega) h0
      obtain ⟨cv0, hcv0⟩ := hcell 0 hpos
      have hblk : ∃ arr elem fz, w.heap[a.block]? = some (.cells arr elem fz) ∧ a.spot = none := by
        have e0 : a.add 0 = a := by simp [Addr.add]
        rw [e0] at hcv0
        unfold World.cell? at hcv0
        split at hcv0
        · rename_i arr elem fz hb
          refine ⟨arr, elem, fz, hb, ?_⟩
          cases hs : a.spot with
          | none => rfl
          | some k => rw [hs] at hcv0; simp at hcv0
        · cases hcv0
      obtain ⟨arr, elem, fz, hb, hsp⟩ := hblk
      have hat : ∀ j cv, w.cell? (a.add j) = some cv → arr[a.off + j]? = some cv := fun j cv hj => by
        unfold World.cell? Addr.add at hj
        by_cases h0 : j = 0
        · subst h0
          simp only [if_true, hb, hsp] at hj
          simpa using hj
        · simp only [if_neg h0, hb] at hj
          simpa using hj
      have ha : a = ⟨a.block, a.off, none⟩ := by cases a; simp only at hsp; subst hsp; rfl
      refine ⟨xs, fun x hx' => ?_, by omega, .inr (.inr ⟨a.block, a.off, sc, arr, elem, fz, by rw [hlen, ← ha], by omega, by omega, ?_, hb, flat_len hf xs, fun i b hi => ?_⟩)⟩
      · obtain ⟨i, hi⟩ := List.getElem?_of_mem hx'
        exact (hxs i x hi).1
      · obtain ⟨cv, hcv⟩ := hcell (sc * es - 1) (by omega)
        have := (Array.getElem?_eq_some_iff.1 (hat _ _ hcv)).1
        omega
      · obtain ⟨x, h1, h2, _⟩ := flat_get hf hi
        obtain ⟨_, cs', h3, h4⟩ := hxs _ _ h1
        obtain ⟨_, h5, h6⟩ := World.cells?_some h3
        have hm := Nat.mod_lt i h0
        have h7 := h6 (i % es) hm
        rw [add_add, show i / es * es + i % es = i from by rw [Nat.mul_comm]; exact Nat.div_add_mod i es, List.getElem?_eq_getElem (by omega)] at h7
        obtain ⟨o1, o2⟩ := h4.2 (i % es) b _ h2 (List.getElem?_eq_getElem (by omega))
        exact ⟨o1, _, hat _ _ h7, o2⟩
end

/-- The heap with one more row that is only looked at. -/
theorem add_arg {base : Nat} {μ : Mp} {A : AW} {w : World} {es n : Nat} {v : Value} {cs : List AV} (h : Rel base μ A w) (hro : AllRo A) (hs : ArgS w es v n cs) :
    ∃ a A' μ', Rel base μ' A' w ∧ AllRo A' ∧ Only A A' none' ∧ Full A' es a n cs ∧ VRel μ' a v ∧ ∀ f t p, μ f t = some p → μ' f t = some p := by
  have hwf : Wf A := h.lt
  rcases hs with ⟨rfl, rfl, rfl⟩ | ⟨ad, cap, rfl, rfl, rfl⟩ | ⟨c, off, cap, arr, elem, fz, rfl, hn, hcap, hsz, hb, hlen, hcs⟩
  · exact ⟨.nils, A, μ, h, hro, Only.refl hwf _, .inl ⟨.inl rfl, rfl, rfl⟩, .nils, fun _ _ _ h => h⟩
  · exact ⟨.emp false, A, μ, h, hro, Only.refl hwf _, .inl ⟨.inr ⟨false, rfl⟩, rfl, rfl⟩, .emp ad (fun h => by cases h), fun _ _ _ h => h⟩
  · have hnone : ∀ t, μ A.nxt t = none := fun t => by
      cases hp : μ A.nxt t with
      | none => rfl
      | some q =>
        obtain ⟨_, F, hF, _⟩ := h.dom _ _ _ hp
        have := h.lt _ _ hF
        omega
    have hkeep : ∀ f t p, μ f t = some p → (μ.put A.nxt 0 ⟨c, off, 0, arr.size, es⟩) f t = some p := fun f t q hq => by
      rw [Mp.put_ne]
      · exact hq
      · by_cases e : f = A.nxt
        · subst e; rw [hnone t] at hq; cases hq
        · exact .inl e
    have hinv : ∀ f t q, (μ.put A.nxt 0 ⟨c, off, 0, arr.size, es⟩) f t = some q → (f = A.nxt ∧ t = 0 ∧ q = ⟨c, off, 0, arr.size, es⟩) ∨ (f ≠ A.nxt ∧ μ f t = some q) := fun f t q hq => by
      unfold Mp.put at hq
      split at hq
      · rename_i e; cases hq; exact .inl ⟨e.1, e.2, rfl⟩
      · rename_i e
        refine .inr ⟨fun e' => ?_, hq⟩
        subst e'
        rw [hnone t] at hq
        cases hq
    have hclt : c < w.heap.size := (Array.getElem?_eq_some_iff.1 hb).1
    refine ⟨.slice A.nxt 0 0 n n false, A.add (.cells 0 true es cs), μ.put A.nxt 0 ⟨c, off, 0, arr.size, es⟩, ⟨h.base_le, ?_, ?_, ?_, ?_, ?_⟩, ?_, Only.add hwf _, .inr ⟨A.nxt, 0, 0, false, true, cs, rfl, by simp, ?_⟩, ?_, hkeep⟩
    · intro f F hF
      rw [AW.add_get] at hF
      rw [AW.add_nxt]
      split at hF
      · omega
      · have := h.lt _ _ hF
        omega
    · intro f t q hq
      rcases hinv f t q hq with ⟨rfl, rfl, rfl⟩ | ⟨e, hq⟩
      · exact ⟨hclt, _, by rw [AW.add_get, if_pos rfl], Nat.le_refl _⟩
      · obtain ⟨a1, F, b1, c1⟩ := h.dom _ _ _ hq
        exact ⟨a1, F, by rw [AW.add_get, if_neg e]; exact b1, c1⟩
    · intro f f' F t t' q q' hF hr hq hq' hcc
      rw [AW.add_get] at hF
      split at hF
      · cases hF; cases hr
      · rw [hro f F hF] at hr; cases hr
    · intro f F t q hF hq hr
      rw [AW.add_get] at hF
      split at hF
      · cases hF; cases hr
      · rw [hro f F hF] at hr; cases hr
    · intro f F q hF hq
      rw [AW.add_get] at hF
      by_cases e : f = A.nxt
      · rw [if_pos e] at hF
        cases hF
        rcases hinv _ _ _ hq with ⟨_, _, rfl⟩ | ⟨e', _⟩
        · refine ⟨arr, elem, fz, hb, rfl, rfl, (fun h : true = false => by cases h), fun i a ha _ => ?_⟩
          obtain ⟨o1, cv, o2, o3⟩ := hcs i a ha
          exact ⟨o1, cv, by show arr[i + off - 0]? = _; rw [Nat.sub_zero, Nat.add_comm]; exact o2, o3 _⟩
        · exact absurd e e'
      · rw [if_neg e] at hF
        rcases hinv _ _ _ hq with ⟨e', _⟩ | ⟨_, hq'⟩
        · exact absurd e' e
        · exact (h.con f F q hF hq').mono hkeep rfl
    · intro f F hF
      rw [AW.add_get] at hF
      split at hF
      · cases hF; rfl
      · exact hro f F hF
    · rw [show dropN 0 cs = cs from rfl, takeN_some _ _ (by omega), ← hlen, List.take_length]
    · exact .slice (p := ⟨c, off, 0, arr.size, es⟩) (Mp.put_same _ _ _ _) (by show off + 0 = 0 + off; omega) (Nat.le_refl _) hcap (fun h => by cases h) hsz
end Go.AE
