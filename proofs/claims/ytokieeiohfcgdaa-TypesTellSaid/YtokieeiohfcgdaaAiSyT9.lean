/-
  TYPES MAKE AN ORDER, MERGE ITS LEAST UPPER BOUND: plain, without the program.
-/
import Derived.Test.YtokieeiohfcgdaaAiSyT8
namespace Go.Proofs.Ytokieeiohfcgdaa.Ae
open Go.AE
set_option linter.unusedVariables false
variable {hs : Hs}

def Tp (hs : Hs) (x : Ty') : Prop := (x.1 = 4 ∧ has hs x.2 = true) ∨ (x.2 = [] ∧ (x.1 = 1 ∨ x.1 = 2 ∨ x.1 = 3 ∨ x.1 = 5 ∨ x.1 = 6))
theorem tp_real {x : Ty'} (h : realT hs x) : Tp hs x := by
  unfold realT at h
  by_cases h4 : x.1 = 4
  · rw [if_pos h4] at h
    exact .inl ⟨h4, h⟩
  · rw [if_neg h4] at h
    obtain ⟨h1, h2, h3⟩ := h
    exact .inr ⟨h1, by omega⟩
def LE (hs : Hs) (x y : Ty') : Prop := y.1 = 6 ∨ (x.1 = 5 ∧ (y.1 = 3 ∨ y.1 = 4)) ∨ (x.1 = 4 ∧ y.1 = 4 ∧ y.2 ∈ anc hs x.2) ∨ x = y
theorem tp_same {x y : Ty'} (hx : Tp hs x) (hy : Tp hs y) (h : x.1 = y.1) (h4 : ¬ x.1 = 4) : x = y := by
  rcases hx with ⟨h1, _⟩ | ⟨h1, _⟩
  · exact absurd h1 h4
  · rcases hy with ⟨h2, _⟩ | ⟨h2, _⟩
    · exact absurd (h.trans h2) h4
    · exact Prod.ext h (h1.trans h2.symm)
theorem tp_has {x : Ty'} (hx : Tp hs x) (h4 : x.1 = 4) : has hs x.2 = true := by
  rcases hx with ⟨_, h⟩ | ⟨_, h⟩
  · exact h
  · omega
theorem tp_kind {x : Ty'} (hx : Tp hs x) : 1 ≤ x.1 ∧ x.1 ≤ 6 := by
  rcases hx with ⟨h, _⟩ | ⟨_, h⟩ <;> omega
theorem fits_le (t : Tree hs) {x y : Ty'} (hx : Tp hs x) (hy : Tp hs y) : fitsT hs x y ↔ LE hs x y := by
  have kx := tp_kind hx
  have ky := tp_kind hy
  unfold fitsT LE
  by_cases h6 : y.1 = 6
  · rw [if_pos h6]
    exact ⟨fun _ => .inl h6, fun _ => trivial⟩
  rw [if_neg h6]
  by_cases h5 : x.1 = 5
  · rw [if_pos h5]
    constructor
    · rintro (h | h | h)
      · exact .inr (.inr (.inr (tp_same hx hy (by omega) (by omega))))
      · exact .inr (.inl ⟨h5, .inl h⟩)
      · exact .inr (.inl ⟨h5, .inr h⟩)
    · rintro (h | ⟨_, h⟩ | ⟨h, _⟩ | h)
      · exact absurd h h6
      · rcases h with h | h
        · exact .inr (.inl h)
        · exact .inr (.inr h)
      · omega
      · rw [← h]
        exact .inl h5
  rw [if_neg h5]
  by_cases h4 : x.1 = 4 ∧ y.1 = 4
  · rw [if_pos h4]
    unfold sub
    rw [decide_eq_true_iff]
    constructor
    · exact fun h => .inr (.inr (.inl ⟨h4.1, h4.2, h⟩))
    · rintro (h | ⟨h, _⟩ | ⟨_, _, h⟩ | h)
      · omega
      · omega
      · exact h
      · rw [← h]
        exact anc_self t (tp_has hx h4.1)
  rw [if_neg h4]
  constructor
  · rintro ⟨h1, h2, h3⟩
    exact .inr (.inr (.inr (tp_same hx hy h1 (by omega))))
  · rintro (h | ⟨h, _⟩ | ⟨h1, h2, _⟩ | h)
    · omega
    · omega
    · exact absurd ⟨h1, h2⟩ h4
    · subst h
      refine ⟨rfl, kx.1, ?_⟩
      have : ¬ x.1 = 4 := fun e => h4 ⟨e, e⟩
      omega
theorem le_anti (t : Tree hs) {x y : Ty'} (hx : Tp hs x) (hy : Tp hs y) (h1 : LE hs x y) (h2 : LE hs y x) : x = y := by
  rcases h1 with h | ⟨h, h'⟩ | ⟨h, h', hm⟩ | h
  · rcases h2 with k | ⟨k, _⟩ | ⟨k, _⟩ | k
    · exact tp_same hx hy (by omega) (by omega)
    · omega
    · omega
    · exact k.symm
  · rcases h2 with k | ⟨k, _⟩ | ⟨k, k', _⟩ | k
    · omega
    · omega
    · omega
    · exact k.symm
  · rcases h2 with k | ⟨k, _⟩ | ⟨k, k', km⟩ | k
    · omega
    · omega
    · exact Prod.ext (h.trans h'.symm) (anc_anti t (tp_has hx h) (tp_has hy h') hm km)
    · exact k.symm
  · exact h
theorem le_trans (t : Tree hs) {x y z : Ty'} (hx : Tp hs x) (h1 : LE hs x y) (h2 : LE hs y z) : LE hs x z := by
  rcases h2 with k | ⟨k, k'⟩ | ⟨k, k', km⟩ | rfl
  · exact .inl k
  · rcases h1 with h | ⟨h, h'⟩ | ⟨h, h', hm⟩ | rfl
    · omega
    · omega
    · omega
    · exact .inr (.inl ⟨k, k'⟩)
  · rcases h1 with h | ⟨h, h'⟩ | ⟨h, h', hm⟩ | rfl
    · omega
    · exact .inr (.inl ⟨h, .inr k'⟩)
    · exact .inr (.inr (.inl ⟨h, k', anc_trans t _ (tp_has hx h) hm km⟩))
    · exact .inr (.inr (.inl ⟨k, k', km⟩))
  · exact h1
theorem tp_top : Tp hs (6, []) := .inr ⟨rfl, by decide⟩
theorem merge_lub (t : Tree hs) {a b : Ty'} (ha : Tp hs a) (hb : Tp hs b) : Tp hs (mergeT hs a b) ∧ LE hs a (mergeT hs a b) ∧ LE hs b (mergeT hs a b) ∧ ∀ u, Tp hs u → LE hs a u → LE hs b u → LE hs (mergeT hs a b) u := by
  unfold mergeT
  by_cases h0 : a = b
  · rw [if_pos h0]
    exact ⟨ha, .inr (.inr (.inr rfl)), .inr (.inr (.inr h0.symm)), fun u _ h _ => h⟩
  rw [if_neg h0]
  by_cases h1 : a.1 = 5 ∧ refersT b
  · rw [if_pos h1]
    exact ⟨hb, .inr (.inl h1), .inr (.inr (.inr rfl)), fun u _ _ h => h⟩
  rw [if_neg h1]
  by_cases h2 : b.1 = 5 ∧ refersT a
  · rw [if_pos h2]
    exact ⟨ha, .inr (.inr (.inr rfl)), .inr (.inl h2), fun u _ h _ => h⟩
  rw [if_neg h2]
  have r1 : a.1 = 5 → ¬ (b.1 = 3 ∨ b.1 = 4) := fun h h' => h1 ⟨h, h'⟩
  have r2 : b.1 = 5 → ¬ (a.1 = 3 ∨ a.1 = 4) := fun h h' => h2 ⟨h, h'⟩
  by_cases h3 : a.1 ≠ 4 ∨ b.1 ≠ 4
  · rw [if_pos h3]
    refine ⟨tp_top, .inl rfl, .inl rfl, fun u hu h h' => ?_⟩
    by_cases hu6 : u.1 = 6
    · exact .inl hu6
    exfalso
    rcases h with h | ⟨h, k⟩ | ⟨h, k, _⟩ | rfl
    · exact hu6 h
    · rcases h' with h' | ⟨h', k'⟩ | ⟨h', k', _⟩ | rfl
      · exact hu6 h'
      · exact h0 (tp_same ha hb (by omega) (by omega))
      · exact r1 h (.inr h')
      · exact r1 h k
    · rcases h' with h' | ⟨h', k'⟩ | ⟨h', k', _⟩ | rfl
      · exact hu6 h'
      · exact r2 h' (.inr h)
      · omega
      · omega
    · rcases h' with h' | ⟨h', k'⟩ | ⟨h', k', _⟩ | h'
      · exact hu6 h'
      · exact r2 h' k'
      · omega
      · exact h0 h'.symm
  rw [if_neg h3]
  have a4 : a.1 = 4 := by omega
  have b4 : b.1 = 4 := by omega
  have aH := tp_has ha a4
  obtain ⟨c1, c2, c3⟩ := com_lub t (tp_has hb b4) a.2 aH
  have cH := anc_has t a.2 aH _ c1
  have cne : com hs a.2 b.2 ≠ [] := fun e => by
    rw [e, t.nz] at cH
    cases cH
  rw [if_pos cne]
  refine ⟨.inl ⟨rfl, cH⟩, .inr (.inr (.inl ⟨a4, rfl, c1⟩)), .inr (.inr (.inl ⟨b4, rfl, c2⟩)), fun u hu h h' => ?_⟩
  rcases h with h | ⟨h, k⟩ | ⟨h, k, m⟩ | rfl
  · exact .inl h
  · omega
  · rcases h' with h' | ⟨h', k'⟩ | ⟨h', k', m'⟩ | rfl
    · exact .inl h'
    · omega
    · exact .inr (.inr (.inl ⟨rfl, k, c3 _ m m'⟩))
    · exact .inr (.inr (.inl ⟨rfl, k, c3 _ m (anc_self t (tp_has hb b4))⟩))
  · rcases h' with h' | ⟨h', k'⟩ | ⟨h', k', m'⟩ | rfl
    · exact .inl h'
    · omega
    · exact .inr (.inr (.inl ⟨rfl, a4, c3 _ (anc_self t aH) m'⟩))
    · exact absurd rfl h0
theorem merge_comm (t : Tree hs) {a b : Ty'} (ha : Tp hs a) (hb : Tp hs b) : mergeT hs a b = mergeT hs b a := by
  obtain ⟨p1, p2, p3, p4⟩ := merge_lub t ha hb
  obtain ⟨q1, q2, q3, q4⟩ := merge_lub t hb ha
  exact le_anti t p1 q1 (p4 _ q1 q3 q2) (q4 _ p1 p3 p2)
theorem merge_self (a : Ty') : mergeT hs a a = a := by
  unfold mergeT
  rw [if_pos rfl]
theorem merge_assoc (t : Tree hs) {a b c : Ty'} (ha : Tp hs a) (hb : Tp hs b) (hc : Tp hs c) : mergeT hs (mergeT hs a b) c = mergeT hs a (mergeT hs b c) := by
  obtain ⟨p1, p2, p3, p4⟩ := merge_lub t ha hb
  obtain ⟨q1, q2, q3, q4⟩ := merge_lub t hb hc
  obtain ⟨l1, l2, l3, l4⟩ := merge_lub t p1 hc
  obtain ⟨r1, r2, r3, r4⟩ := merge_lub t ha q1
  have e1 : LE hs a (mergeT hs (mergeT hs a b) c) := le_trans t ha p2 l2
  have e2 : LE hs b (mergeT hs (mergeT hs a b) c) := le_trans t hb p3 l2
  have e3 : LE hs b (mergeT hs a (mergeT hs b c)) := le_trans t hb q2 r3
  have e4 : LE hs c (mergeT hs a (mergeT hs b c)) := le_trans t hc q3 r3
  exact le_anti t l1 r1 (l4 _ r1 (p4 _ r1 r2 e3) e4) (r4 _ l1 e1 (q4 _ l1 e2 l3))
theorem merge_small (t : Tree hs) {a b : Ty'} (sa : small a.2) (sb : small b.2) : small (mergeT hs a b).2 := by
  have s0 : small [] := fun b hb => absurd hb (List.not_mem_nil)
  unfold mergeT
  split
  · exact sa
  · split
    · exact sb
    · split
      · exact sa
      · split
        · exact s0
        · split
          · have key : ∀ (l m : List Str), (∀ u ∈ l, small u) → small (fstIn l m) := by
              intro l m
              induction l with
              | nil => exact fun _ => s0
              | cons x l ih =>
                intro h
                unfold fstIn
                split
                · exact h x (List.mem_cons_self ..)
                · exact ih fun u hu => h u (List.mem_cons_of_mem _ hu)
            exact key _ _ (has_small t sa)
          · exact s0
end Go.Proofs.Ytokieeiohfcgdaa.Ae
