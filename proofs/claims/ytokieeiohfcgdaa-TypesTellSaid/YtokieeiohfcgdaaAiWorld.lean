/-
  THE EVALUATOR's MEMORY AGAINST THE MODEL's WORLD, AND THE STEPS THAT KEEP THEM TOGETHER.
-/
import Derived.Test.YtokieeiohfcgdaaAiRel
namespace Go.AE
variable [Rho]

def AFam.cur : AFam → Nat
  | .cells cur _ _ _ => cur
  | .map _ => 0
def AFam.ro : AFam → Bool
  | .cells _ ro _ _ => ro
  | .map _ => false

/-- What a family holds, at its place. -/
def CR (μ : Mp) (F : AFam) (p : Pl) (w : World) : Prop :=
  match F with
  | .cells _ ro es cs => ∃ (arr : Array Value) (elem : TypeId) (fz : Nat × Nat), w.heap[p.c]? = some (.cells arr elem fz) ∧ arr.size = p.n ∧ p.es = es ∧ (ro = false → fz = (0, 0)) ∧
      ∀ (i : Nat) v, cs[i]? = some v → p.down ≤ i + p.up → v.one = true ∧ ∃ cv, arr[i + p.up - p.down]? = some cv ∧ VRel μ v cv
  | .map es => ∃ (ents : Array MapEntry) (clock : Nat), w.heap[p.c]? = some (.map ents clock) ∧ es.length = ents.size ∧
      ∀ (i : Nat) k v, es[i]? = some (k, v) → ∃ e, ents.toList[i]? = some e ∧ VRel μ k e.key ∧ VRel μ v e.val

theorem CR.mono {μ μ' : Mp} {F : AFam} {p : Pl} {w w' : World} (hm : ∀ f t p, μ f t = some p → μ' f t = some p) (hw : w'.heap[p.c]? = w.heap[p.c]?) (h : CR μ F p w) : CR μ' F p w' := by
  cases F with
  | cells cur ro es cs =>
    obtain ⟨arr, elem, fz, h1, h2, h3, h4, h5⟩ := h
    refine ⟨arr, elem, fz, hw.trans h1, h2, h3, h4, fun i v hv hd => ?_⟩
    obtain ⟨ho, cv, a, b⟩ := h5 i v hv hd
    exact ⟨ho, cv, a, b.mono hm⟩
  | map es =>
    obtain ⟨ents, clock, h1, h2, h3⟩ := h
    refine ⟨ents, clock, hw.trans h1, h2, fun i k v hv => ?_⟩
    obtain ⟨e, a, b, c⟩ := h3 i k v hv
    exact ⟨e, a, b.mono hm, c.mono hm⟩

structure Rel (base : Nat) (μ : Mp) (A : AW) (w : World) : Prop where
  base_le : base ≤ w.heap.size
  lt : ∀ f F, A.heap.get f = some F → f < A.nxt
  dom : ∀ f t p, μ f t = some p → p.c < w.heap.size ∧ ∃ F, A.heap.get f = some F ∧ t ≤ F.cur
  inj : ∀ f f' F t t' p p', A.heap.get f = some F → F.ro = false → μ f t = some p → μ f' t' = some p' → p.c = p'.c → f = f'
  own : ∀ f F t p, A.heap.get f = some F → μ f t = some p → F.ro = false → base ≤ p.c
  con : ∀ f F p, A.heap.get f = some F → μ f F.cur = some p → CR μ F p w

structure Step (base : Nat) (μ : Mp) (A : AW) (w : World) (μ' : Mp) (A' : AW) (w' : World) : Prop where
  pre : Rel base μ A w
  rel : Rel base μ' A' w'
  keep : ∀ f t p, μ f t = some p → μ' f t = some p
  pend : ∀ f, f < A.nxt → (∀ t, μ f t = none) → (∀ t, μ' f t = none) ∧ A'.heap.get f = A.heap.get f
  nxt : A.nxt ≤ A'.nxt
  src : ∀ f t p, μ' f t = some p → (∃ t0 p0, μ f t0 = some p0 ∧ p0.c = p.c) ∨ w.heap.size ≤ p.c
  fam : ∀ f F, A.heap.get f = some F → ∃ F', A'.heap.get f = some F' ∧ F'.ro = F.ro ∧ F.cur ≤ F'.cur
  os : w'.os = w.os
  tape : w'.tape = w.tape
  output : w'.output = w.output
  size : w.heap.size ≤ w'.heap.size
  blk : ∀ b, b < w.heap.size → (∀ f F t p, A.heap.get f = some F → F.ro = false → μ f t = some p → p.c ≠ b) → w'.heap[b]? = w.heap[b]?

section
variable {base : Nat} {μ μ1 μ2 : Mp} {A A1 A2 : AW} {w w1 w2 : World}

theorem Step.refl (h : Rel base μ A w) : Step base μ A w μ A w :=
  ⟨h, h, fun _ _ _ h => h, fun _ _ h => ⟨h, rfl⟩, Nat.le_refl _, fun _ t p h => .inl ⟨t, p, h, rfl⟩, fun _ F h => ⟨F, h, rfl, Nat.le_refl _⟩, rfl, rfl, rfl, Nat.le_refl _, fun _ _ _ => rfl⟩

theorem Step.trans (h : Step base μ A w μ1 A1 w1) (k : Step base μ1 A1 w1 μ2 A2 w2) : Step base μ A w μ2 A2 w2 where
  pre := h.pre
  rel := k.rel
  keep := fun f t p hp => k.keep _ _ _ (h.keep _ _ _ hp)
  pend := fun f hf hn => by
    obtain ⟨a, b⟩ := h.pend f hf hn
    obtain ⟨c, d⟩ := k.pend f (Nat.lt_of_lt_of_le hf h.nxt) a
    exact ⟨c, d.trans b⟩
  nxt := Nat.le_trans h.nxt k.nxt
  src := fun f t p hp => by
    rcases k.src f t p hp with ⟨t0, p0, a, b⟩ | a
    · rcases h.src f t0 p0 a with ⟨t1, p1, c, d⟩ | c
      · exact .inl ⟨t1, p1, c, d.trans b⟩
      · exact .inr (b ▸ c)
    · exact .inr (Nat.le_trans h.size a)
  fam := fun f F hF => by
    obtain ⟨F1, a, b, c⟩ := h.fam f F hF
    obtain ⟨F2, d, e, g⟩ := k.fam f F1 a
    exact ⟨F2, d, e.trans b, Nat.le_trans c g⟩
  os := k.os.trans h.os
  tape := k.tape.trans h.tape
  output := k.output.trans h.output
  size := Nat.le_trans h.size k.size
  blk := fun b hb hn => by
    refine (k.blk b (Nat.lt_of_lt_of_le hb h.size) ?_).trans (h.blk b hb hn)
    intro f F1 t p hF1 hro hp hc
    rcases h.src f t p hp with ⟨t0, p0, a, e⟩ | a
    · obtain ⟨_, F, hF, _⟩ := h.pre.dom f t0 p0 a
      obtain ⟨F1', b1, b2, _⟩ := h.fam f F hF
      rw [b1] at hF1
      cases hF1
      exact hn f F t0 p0 hF (b2 ▸ hro) a (e.trans hc)
    · omega

/-- A map with one entry more. -/
def Mp.put (μ : Mp) (f t : Nat) (p : Pl) : Mp := fun f' t' => if f' = f ∧ t' = t then some p else μ f' t'

omit [Rho] in
theorem Mp.put_same (μ : Mp) (f t : Nat) (p : Pl) : μ.put f t p f t = some p := by simp [Mp.put]
omit [Rho] in
theorem Mp.put_ne (μ : Mp) {f t f' t' : Nat} (p : Pl) (h : f' ≠ f ∨ t' ≠ t) : μ.put f t p f' t' = μ f' t' := by
  unfold Mp.put
  rw [if_neg]
  rintro ⟨rfl, rfl⟩
  rcases h with h | h <;> exact h rfl

/-- What is outside of the heap stays. -/
structure Side (w w' : World) : Prop where
  os : w'.os = w.os
  tape : w'.tape = w.tape
  output : w'.output = w.output

/-- A NEW FAMILY, in a new block. -/
theorem Step.new (h : Rel base μ A w) (F : AFam) (p : Pl) (hs : Side w w1) (hc : p.c = w.heap.size) (hz : w1.heap.size = w.heap.size + 1)
    (hold : ∀ b, b < w.heap.size → w1.heap[b]? = w.heap[b]?) (hcur : F.cur = 0) (hCR : CR μ F p w1) :
    Step base μ A w (μ.put A.nxt 0 p) ⟨A.heap.set A.nxt F, Nat.succ A.nxt⟩ w1 := by
  have hnone : ∀ t, μ A.nxt t = none := fun t => by
    cases hp : μ A.nxt t with
    | none => rfl
    | some q => obtain ⟨_, F', hF', _⟩ := h.dom _ _ _ hp; have := h.lt _ _ hF'; omega
  have hkeep : ∀ f t q, μ f t = some q → (μ.put A.nxt 0 p) f t = some q := fun f t q hq => by
    rw [Mp.put_ne]
    · exact hq
    · by_cases e : f = A.nxt
      · subst e; rw [hnone t] at hq; cases hq
      · exact .inl e
  have hget : ∀ f, (A.heap.set A.nxt F).get f = if f = A.nxt then some F else A.heap.get f := fun f => Tr.get_set _ _ _ _
  have hinv : ∀ f t q, (μ.put A.nxt 0 p) f t = some q → (f = A.nxt ∧ t = 0 ∧ q = p) ∨ (f ≠ A.nxt ∧ μ f t = some q) := fun f t q hq => by
    unfold Mp.put at hq
    split at hq
    · rename_i e; cases hq; exact .inl ⟨e.1, e.2, rfl⟩
    · rename_i e
      refine .inr ⟨fun e' => ?_, hq⟩
      subst e'
      rw [hnone t] at hq
      cases hq
  refine ⟨h, ⟨by have := h.base_le; omega, ?_, ?_, ?_, ?_, ?_⟩, hkeep, ?_, Nat.le_succ _, ?_, ?_, hs.os, hs.tape, hs.output, by omega, fun b hb _ => hold b hb⟩
  · intro f F' hF'
    show f < Nat.succ A.nxt
    rw [hget] at hF'
    split at hF'
    · omega
    · have := h.lt _ _ hF'; omega
  · intro f t q hq
    rcases hinv f t q hq with ⟨rfl, rfl, rfl⟩ | ⟨e, hq⟩
    · exact ⟨by omega, F, by simp only [hget]; simp, by omega⟩
    · obtain ⟨a, F', b, c⟩ := h.dom _ _ _ hq
      exact ⟨by omega, F', by simp only [hget]; simp [e, b], c⟩
  · intro f f' F' t t' q q' hF' hro hq hq' hcc
    rw [hget] at hF'
    rcases hinv f t q hq with ⟨rfl, rfl, rfl⟩ | ⟨e, hq1⟩ <;> rcases hinv f' t' q' hq' with ⟨rfl, rfl, rfl⟩ | ⟨e', hq1'⟩
    · rfl
    · have := (h.dom _ _ _ hq1').1; omega
    · have := (h.dom _ _ _ hq1).1; omega
    · rw [if_neg e] at hF'
      exact h.inj f f' F' t t' q q' hF' hro hq1 hq1' hcc
  · intro f F' t q hF' hq hro
    rw [hget] at hF'
    rcases hinv f t q hq with ⟨rfl, rfl, rfl⟩ | ⟨e, hq1⟩
    · have := h.base_le; omega
    · rw [if_neg e] at hF'
      exact h.own f F' t q hF' hq1 hro
  · intro f F' q hF' hq
    rw [hget] at hF'
    rcases hinv f F'.cur q hq with ⟨rfl, e0, rfl⟩ | ⟨e, hq1⟩
    · simp at hF'
      subst hF'
      exact hCR.mono hkeep rfl
    · rw [if_neg e] at hF'
      exact (h.con f F' q hF' hq1).mono hkeep (hold _ (h.dom _ _ _ hq1).1)
  · intro f hf hn
    have e : f ≠ A.nxt := by omega
    exact ⟨fun t => by rw [Mp.put_ne _ _ (.inl e)]; exact hn t, by simp only [hget]; simp [e]⟩
  · intro f t q hq
    rcases hinv f t q hq with ⟨rfl, rfl, rfl⟩ | ⟨e, hq1⟩
    · exact .inr (by omega)
    · exact .inl ⟨t, q, hq1, rfl⟩
  · intro f F' hF'
    have := h.lt _ _ hF'
    have e : f ≠ A.nxt := by omega
    exact ⟨F', by simp only [hget]; simp [e, hF'], rfl, Nat.le_refl _⟩

/-- A FAMILY WRITTEN IN ITS OWN BLOCK (F.cur': as it was, or one more). -/
theorem Step.write (h : Rel base μ A w) {f : Nat} {F F' : AFam} {p : Pl} (hF : A.heap.get f = some F) (hro : F.ro = false) (hp : μ f F.cur = some p) (hro' : F'.ro = false)
    (hcur : F'.cur = F.cur ∨ F'.cur = Nat.succ F.cur) (hs : Side w w1) (hz : w1.heap.size = w.heap.size) (hold : ∀ b, b ≠ p.c → w1.heap[b]? = w.heap[b]?) (hCR : CR μ F' p w1) :
    Step base μ A w (μ.put f F'.cur p) ⟨A.heap.set f F', A.nxt⟩ w1 := by
  have hfresh : ∀ q, μ f F'.cur = some q → q = p := fun q hq => by
    rcases hcur with e | e
    · rw [e, hp] at hq; cases hq; rfl
    · obtain ⟨_, F2, hF2, hle⟩ := h.dom _ _ _ hq
      rw [hF] at hF2; cases hF2; omega
  have hkeep : ∀ g t q, μ g t = some q → (μ.put f F'.cur p) g t = some q := fun g t q hq => by
    unfold Mp.put
    split
    · rename_i e; obtain ⟨rfl, rfl⟩ := e; rw [hfresh q hq]
    · exact hq
  have hget : ∀ g, (A.heap.set f F').get g = if g = f then some F' else A.heap.get g := fun g => Tr.get_set _ _ _ _
  have hinv : ∀ g t q, (μ.put f F'.cur p) g t = some q → (g = f ∧ t = F'.cur ∧ q = p) ∨ μ g t = some q := fun g t q hq => by
    unfold Mp.put at hq
    split at hq
    · rename_i e; cases hq; exact .inl ⟨e.1, e.2, rfl⟩
    · exact .inr hq
  have hcb : ∀ g t q, (μ.put f F'.cur p) g t = some q → ∃ t0 q0, μ g t0 = some q0 ∧ q0.c = q.c := fun g t q hq => by
    rcases hinv g t q hq with ⟨rfl, rfl, rfl⟩ | hq
    · exact ⟨_, _, hp, rfl⟩
    · exact ⟨_, _, hq, rfl⟩
  refine ⟨h, ⟨by have := h.base_le; omega, ?_, ?_, ?_, ?_, ?_⟩, hkeep, ?_, Nat.le_refl _, fun g t q hq => .inl (hcb g t q hq), ?_, hs.os, hs.tape, hs.output, by omega, ?_⟩
  · intro g G hG
    rw [hget] at hG
    split at hG
    · rename_i e; subst e; exact h.lt _ _ hF
    · exact h.lt _ _ hG
  · intro g t q hq
    rcases hinv g t q hq with ⟨rfl, rfl, rfl⟩ | hq
    · have := (h.dom _ _ _ hp).1
      exact ⟨by omega, F', by simp only [hget]; simp, Nat.le_refl _⟩
    · obtain ⟨a, G, b, c⟩ := h.dom _ _ _ hq
      by_cases e : g = f
      · subst e
        rw [hF] at b; cases b
        exact ⟨by omega, F', by simp only [hget]; simp, by rcases hcur with e | e <;> omega⟩
      · exact ⟨by omega, G, by simp only [hget]; simp [e, b], c⟩
  · intro g g' G t t' q q' hG hGro hq hq' hcc
    obtain ⟨t0, q0, a0, b0⟩ := hcb g t q hq
    obtain ⟨t1, q1, a1, b1⟩ := hcb g' t' q' hq'
    rw [hget] at hG
    by_cases e : g = f
    · subst e
      exact h.inj g g' F t0 t1 q0 q1 hF hro a0 a1 (by omega)
    · rw [if_neg e] at hG
      exact h.inj g g' G t0 t1 q0 q1 hG hGro a0 a1 (by omega)
  · intro g G t q hG hq hGro
    obtain ⟨t0, q0, a0, b0⟩ := hcb g t q hq
    rw [hget] at hG
    by_cases e : g = f
    · subst e
      rw [← b0]
      exact h.own g F t0 q0 hF a0 hro
    · rw [if_neg e] at hG
      rw [← b0]
      exact h.own g G t0 q0 hG a0 hGro
  · intro g G q hG hq
    rw [hget] at hG
    by_cases e : g = f
    · subst e
      simp at hG
      subst hG
      rw [Mp.put_same] at hq
      cases hq
      exact hCR.mono hkeep rfl
    · rw [if_neg e] at hG
      rw [Mp.put_ne _ _ (.inl e)] at hq
      refine (h.con g G q hG hq).mono hkeep (hold _ ?_)
      intro ec
      exact e (h.inj f g F _ _ _ _ hF hro hp hq ec.symm).symm
  · intro g hg hn
    have e : g ≠ f := fun e => by subst e; rw [hn] at hp; cases hp
    exact ⟨fun t => by rw [Mp.put_ne _ _ (.inl e)]; exact hn t, by simp only [hget]; simp [e]⟩
  · intro g G hG
    by_cases e : g = f
    · subst e
      rw [hF] at hG; cases hG
      exact ⟨F', by simp only [hget]; simp, by rw [hro, hro'], by rcases hcur with e | e <;> omega⟩
    · exact ⟨G, by simp only [hget]; simp [e, hG], rfl, Nat.le_refl _⟩
  · intro b hb hn
    exact hold b (fun e => hn f F F.cur p hF hro hp e.symm)

/-- A FAMILY MOVED INTO A NEW BLOCK. -/
theorem Step.move (h : Rel base μ A w) {f : Nat} {F F' : AFam} {p p' : Pl} (hF : A.heap.get f = some F) (hro : F.ro = false) (hp : μ f F.cur = some p) (hro' : F'.ro = false)
    (hcur : F'.cur = Nat.succ F.cur) (hs : Side w w1) (hc : p'.c = w.heap.size) (hz : w1.heap.size = w.heap.size + 1)
    (hold : ∀ b, b < w.heap.size → w1.heap[b]? = w.heap[b]?) (hCR : CR μ F' p' w1) :
    Step base μ A w (μ.put f F'.cur p') ⟨A.heap.set f F', A.nxt⟩ w1 := by
  have hnone : μ f F'.cur = none := by
    cases hq : μ f F'.cur with
    | none => rfl
    | some q =>
      obtain ⟨_, F2, hF2, hle⟩ := h.dom _ _ _ hq
      rw [hF] at hF2; cases hF2; omega
  have hkeep : ∀ g t q, μ g t = some q → (μ.put f F'.cur p') g t = some q := fun g t q hq => by
    unfold Mp.put
    split
    · rename_i e; obtain ⟨rfl, rfl⟩ := e; rw [hnone] at hq; cases hq
    · exact hq
  have hget : ∀ g, (A.heap.set f F').get g = if g = f then some F' else A.heap.get g := fun g => Tr.get_set _ _ _ _
  have hinv : ∀ g t q, (μ.put f F'.cur p') g t = some q → (g = f ∧ t = F'.cur ∧ q = p') ∨ (μ g t = some q ∧ q.c < w.heap.size) := fun g t q hq => by
    unfold Mp.put at hq
    split at hq
    · rename_i e; cases hq; exact .inl ⟨e.1, e.2, rfl⟩
    · exact .inr ⟨hq, (h.dom _ _ _ hq).1⟩
  refine ⟨h, ⟨by have := h.base_le; omega, ?_, ?_, ?_, ?_, ?_⟩, hkeep, ?_, Nat.le_refl _, ?_, ?_, hs.os, hs.tape, hs.output, by omega, fun b hb _ => hold b hb⟩
  · intro g G hG
    rw [hget] at hG
    split at hG
    · rename_i e; subst e; exact h.lt _ _ hF
    · exact h.lt _ _ hG
  · intro g t q hq
    rcases hinv g t q hq with ⟨rfl, rfl, rfl⟩ | ⟨hq, _⟩
    · exact ⟨by omega, F', by simp only [hget]; simp, Nat.le_refl _⟩
    · obtain ⟨a, G, b, c⟩ := h.dom _ _ _ hq
      by_cases e : g = f
      · subst e
        rw [hF] at b; cases b
        exact ⟨by omega, F', by simp only [hget]; simp, by omega⟩
      · exact ⟨by omega, G, by simp only [hget]; simp [e, b], c⟩
  · intro g g' G t t' q q' hG hGro hq hq' hcc
    rw [hget] at hG
    rcases hinv g t q hq with ⟨rfl, rfl, rfl⟩ | ⟨hq1, l1⟩ <;> rcases hinv g' t' q' hq' with ⟨rfl, rfl, rfl⟩ | ⟨hq1', l1'⟩
    · rfl
    · omega
    · omega
    · by_cases e : g = f
      · subst e
        exact h.inj g g' F t t' q q' hF hro hq1 hq1' hcc
      · rw [if_neg e] at hG
        exact h.inj g g' G t t' q q' hG hGro hq1 hq1' hcc
  · intro g G t q hG hq hGro
    rw [hget] at hG
    rcases hinv g t q hq with ⟨rfl, rfl, rfl⟩ | ⟨hq1, l1⟩
    · have := h.base_le; omega
    · by_cases e : g = f
      · subst e
        exact h.own g F t q hF hq1 hro
      · rw [if_neg e] at hG
        exact h.own g G t q hG hq1 hGro
  · intro g G q hG hq
    rw [hget] at hG
    by_cases e : g = f
    · subst e
      simp at hG
      subst hG
      rw [Mp.put_same] at hq
      cases hq
      exact hCR.mono hkeep rfl
    · rw [if_neg e] at hG
      rw [Mp.put_ne _ _ (.inl e)] at hq
      exact (h.con g G q hG hq).mono hkeep (hold _ (h.dom _ _ _ hq).1)
  · intro g hg hn
    have e : g ≠ f := fun e => by subst e; rw [hn] at hp; cases hp
    exact ⟨fun t => by rw [Mp.put_ne _ _ (.inl e)]; exact hn t, by simp only [hget]; simp [e]⟩
  · intro g t q hq
    rcases hinv g t q hq with ⟨rfl, rfl, rfl⟩ | ⟨hq, _⟩
    · exact .inr (by omega)
    · exact .inl ⟨t, q, hq, rfl⟩
  · intro g G hG
    by_cases e : g = f
    · subst e
      rw [hF] at hG; cases hG
      exact ⟨F', by simp only [hget]; simp, by rw [hro, hro'], by omega⟩
    · exact ⟨G, by simp only [hget]; simp [e, hG], rfl, Nat.le_refl _⟩

/-- The world behind some draws. -/
theorem Rel.side (h : Rel base μ A w) (hh : w1.heap = w.heap) : Rel base μ A w1 := by
  refine ⟨by rw [hh]; exact h.base_le, h.lt, fun f t p hp => by rw [hh]; exact h.dom f t p hp, h.inj, h.own, fun f F p hF hp => (h.con f F p hF hp).mono (fun _ _ _ h => h) (by rw [hh])⟩

theorem Step.side (h : Rel base μ A w) (hs : Side w w1) (hh : w1.heap = w.heap) : Step base μ A w μ A w1 :=
  ⟨h, h.side hh, fun _ _ _ h => h, fun _ _ h => ⟨h, rfl⟩, Nat.le_refl _, fun _ t p h => .inl ⟨t, p, h, rfl⟩, fun _ F h => ⟨F, h, rfl, Nat.le_refl _⟩, hs.os, hs.tape, hs.output, by rw [hh]; exact Nat.le_refl _,
    fun _ _ _ => by rw [hh]⟩

end
end Go.AE
