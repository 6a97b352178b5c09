/-
  OPERATIONS ON MEMORY: what the evaluator answers the model answers.
-/
import Derived.Test.YtokieeiohfcgdaaAiWorld
namespace Go.AE
variable [Rho]

structure TyOk (P : Program) (t : TypeId) (d : ATy) : Prop where
  und : P.underlying t = some d.desc
  agg : d.agg = isAggD d.desc
  info : ∃ i, P.info? t = some i ∧ i.size = d.size ∧ i.bytes = d.bytes ∧ ∀ z, d.zero = some z → ∃ zv, i.zero = some zv ∧ z = zv.cells.toList.map ofLeaf ∧ z.length = d.size ∧ d.zv = ofConst zv ∧ ∀ x ∈ z, x.one = true

def TysOk (E : Env) : Prop := ∀ t d, E.tys.get t = some d → TyOk E.P t d

section
variable {P : Program} {t : TypeId} {d : ATy}
omit [Rho] in
theorem TyOk.run_und (h : TyOk P t d) (w : World) : (underlying t).run P w = .ok d.desc w := run_underlying h.und w
omit [Rho] in
theorem TyOk.run_size (h : TyOk P t d) (w : World) : (sizeOf t).run P w = .ok d.size w := by
  obtain ⟨i, hi, hs, _⟩ := h.info
  simp [sizeOf, typeInfo, hi, hs]
omit [Rho] in
theorem TyOk.run_info (h : TyOk P t d) (w : World) : ∃ i, (typeInfo t).run P w = .ok i w ∧ i.size = d.size ∧ i.bytes = d.bytes := by
  obtain ⟨i, hi, hs, hb, _⟩ := h.info
  exact ⟨i, by simp [typeInfo, hi], hs, hb⟩
omit [Rho] in
theorem TyOk.run_agg (h : TyOk P t d) (w : World) : (isAgg t).run P w = .ok d.agg w := by
  rw [h.agg]
  unfold isAgg
  rw [Sem.run_bind, h.run_und]
  simp only [Result.andThen_ok]
  cases d.desc <;> rfl
theorem TyOk.run_zero (h : TyOk P t d) (w : World) {z : List AV} (hz : d.zero = some z) (μ : Mp) : ∃ zv, (zeroValue t).run P w = .ok zv w ∧ LRel μ z zv.cells.toList ∧ (∀ x ∈ z, x.one = true) ∧ z.length = d.size ∧ VRel μ d.zv zv := by
  obtain ⟨i, hi, _, _, hzz⟩ := h.info
  obtain ⟨zv, h1, rfl, h4, h5, h3⟩ := hzz z hz
  refine ⟨zv, by simp [zeroValue, typeInfo, hi, h1], ?_, h3, h4, by rw [h5]; exact ofConst_rel μ zv⟩
  generalize zv.cells.toList = l
  induction l with
  | nil => exact LRel.nil μ
  | cons a l ih => exact LRel.cons (ofLeaf_rel μ a) ih
end

omit [Rho] in
theorem alloc_side (w : World) (o : Obj) : Side w (w.alloc o) := ⟨rfl, rfl, rfl⟩
omit [Rho] in
theorem alloc_size (w : World) (o : Obj) : (w.alloc o).heap.size = w.heap.size + 1 := by
  show (w.heap.push o).size = _
  simp
omit [Rho] in
theorem alloc_old (w : World) (o : Obj) (b : Nat) (h : b < w.heap.size) : (w.alloc o).heap[b]? = w.heap[b]? := heap_alloc_old w o b h
omit [Rho] in
theorem alloc_new (w : World) (o : Obj) : (w.alloc o).heap[w.heap.size]? = some o := heap_alloc_new w o

section
variable {E : Env} {base : Nat} {μ : Mp} {A : AW} {w : World}

/-- A new row of cells (some of them beyond what is known). -/
theorem Step.newRow (h : Rel base μ A w) {w1 : World} (hs : Side w w1) (hh : w1.heap = w.heap) {cs : List AV} {arr : Array Value} (elem : TypeId) (es : Nat) (ro : Bool) (fz : Nat × Nat)
    (hfz : ro = false → fz = (0, 0)) (hrel : ∀ (i : Nat) v, cs[i]? = some v → v.one = true ∧ ∃ cv, arr[i]? = some cv ∧ VRel μ v cv) :
    Step base μ A w (μ.put A.nxt 0 ⟨w.heap.size, 0, 0, arr.size, es⟩) ⟨A.heap.set A.nxt (.cells 0 ro es cs), Nat.succ A.nxt⟩ (w1.alloc (.cells arr elem fz)) := by
  refine Step.new h _ _ ⟨hs.os, hs.tape, hs.output⟩ rfl (by rw [alloc_size, hh]) (fun b hb => by rw [alloc_old _ _ _ (by rw [hh]; exact hb), hh]) rfl ?_
  refine ⟨arr, elem, fz, by rw [← hh]; exact alloc_new w1 _, rfl, rfl, hfz, fun i v hv _ => ?_⟩
  simpa using hrel i v hv

theorem lrel_hrel {μ : Mp} {cs : List AV} {vs : List Value} (h : LRel μ cs vs) (h1 : ∀ x ∈ cs, x.one = true) (rest : List Value) :
    ∀ (i : Nat) v, cs[i]? = some v → v.one = true ∧ ∃ cv, (vs ++ rest).toArray[i]? = some cv ∧ VRel μ v cv := fun i v hv => by
  obtain ⟨y, hy, hr⟩ := h.get hv
  refine ⟨h1 v (List.mem_of_getElem? hv), y, ?_, hr⟩
  have hlt : i < vs.length := by rcases Nat.lt_or_ge i vs.length with h | h; exact h; simp [List.getElem?_eq_none h] at hy
  simp only [List.getElem?_toArray]
  rw [List.getElem?_append_left hlt]
  exact hy

/-- One cell, read. -/
theorem cell_of (h : Rel base μ A w) {f o cur es off : Nat} {ro : Bool} {cs : List AV} {p : Pl} {v : AV} (hF : A.heap.get f = some (.cells cur ro es cs)) (hp : μ f cur = some p)
    (e : off + p.down = o + p.up) (hv : cs[o]? = some v) : v.one = true ∧ ∃ cv, w.cell? ⟨p.c, off, none⟩ = some cv ∧ VRel μ v cv := by
  obtain ⟨arr, elem, fz, h1, h2, h3, h4, h5⟩ := h.con f _ p hF hp
  obtain ⟨ho, cv, a, b⟩ := h5 o v hv (by omega)
  refine ⟨ho, cv, ?_, b⟩
  have : o + p.up - p.down = off := by omega
  rw [this] at a
  simp [World.cell?, h1, a]

/-- Cells in a row, read. -/
theorem cells_of (h : Rel base μ A w) {f s o n off : Nat} {p : Pl} {l : List AV} (hr : readCells A f s o n = some l) (hp : μ f s = some p) (e : off + p.down = o + p.up) :
    ∃ cvs : List Value, LRel μ l cvs ∧ cvs.length = n ∧ (∀ x ∈ l, x.one = true) ∧ ∀ (j : Nat) v, cvs[j]? = some v → w.cell? ((⟨p.c, off, none⟩ : Addr).add j) = some v := by
  unfold readCells at hr
  split at hr
  · rename_i cur ro es cs hF
    cases hb : Nat.beq cur s
    · simp [hb] at hr
    · simp only [hb, cond_true] at hr
      have hcs : cur = s := Nat.eq_of_beq_eq_true hb
      subst hcs
      obtain ⟨h1, h2⟩ := takeN_eq _ _ _ hr
      rw [dropN_eq] at h1
      have hcell : ∀ j, j < n → ∃ v cv, l[j]? = some v ∧ v.one = true ∧ w.cell? ⟨p.c, off + j, none⟩ = some cv ∧ VRel μ v cv := fun j hj => by
        have hl : l[j]? = some l[j] := List.getElem?_eq_getElem (by omega)
        have hcsj : cs[o + j]? = some l[j] := by
          rw [← hl, h1, List.getElem?_take_of_lt hj, List.getElem?_drop]
        obtain ⟨ho, cv, a, b⟩ := cell_of h (o := o + j) (off := off + j) hF hp (by omega) hcsj
        exact ⟨_, cv, hl, ho, a, b⟩
      refine ⟨(List.range n).map fun j => (w.cell? ⟨p.c, off + j, none⟩).getD undef, ⟨by simp [h2], fun i x y hx hy => ?_⟩, by simp, fun x hx => ?_, fun j v hv => ?_⟩
      · have hi : i < n := by rcases Nat.lt_or_ge i n with h | h; exact h; rw [List.getElem?_eq_none (by omega)] at hx; cases hx
        obtain ⟨v, cv, a, _, b, c⟩ := hcell i hi
        rw [hx] at a; cases a
        simp [List.getElem?_map, List.getElem?_range hi, b] at hy
        subst hy
        exact c
      · obtain ⟨i, hi⟩ := List.mem_iff_getElem?.1 hx
        have hin : i < n := by rcases Nat.lt_or_ge i n with h | h; exact h; rw [List.getElem?_eq_none (by omega)] at hi; cases hi
        obtain ⟨v, cv, a, b, _⟩ := hcell i hin
        rw [hi] at a; cases a
        exact b
      · have hj : j < n := by rcases Nat.lt_or_ge j n with h | h; exact h; rw [List.getElem?_eq_none (by simp; omega)] at hv; cases hv
        obtain ⟨v', cv, a, _, b, c⟩ := hcell j hj
        simp [List.getElem?_map, List.getElem?_range hj, b] at hv
        rw [Addr.add_lit, b, hv]
  · cases hr

/-- load -/
theorem load_sound (hE : TysOk E) (h : Rel base μ A w) {t : TypeId} {a v : AV} {A' : AW} {ca : Value} (hl : loadA E t a A = .val v A') (ha : VRel μ a ca) :
    A' = A ∧ ∃ cv, (Instr.loadAt t ca).run E.P w = .ok cv w ∧ VRel μ v cv := by
  unfold loadA at hl
  split at hl
  · rename_i f s o
    cases ha with
    | ptr hp he =>
      rename_i p off
      split at hl
      · rename_i d hd
        have ht := hE t d hd
        cases hagg : d.agg
        · simp only [hagg, cond_false] at hl
          split at hl
          · rename_i cur ro es cs hF
            cases hb : Nat.beq cur s
            · simp [hb] at hl
            · have hcs : cur = s := Nat.eq_of_beq_eq_true hb
              subst hcs
              simp only [hb, cond_true] at hl
              split at hl
              · rename_i v' hv'
                cases hl
                rw [nth_eq] at hv'
                obtain ⟨_, cv, a, b⟩ := cell_of h hF hp he hv'
                refine ⟨rfl, cv, ?_, b⟩
                simp [Instr.loadAt, Instr.sureAddr, loadVar, ht.run_agg, hagg, a]
              · cases hl
          · cases hl
        · simp only [hagg, cond_true] at hl
          split at hl
          · rename_i cs hcs
            cases hl
            obtain ⟨cvs, a, b, c, e⟩ := cells_of h hcs hp he
            refine ⟨rfl, .agg cvs.toArray, ?_, vrel_agg_mk a c⟩
            have := run_loadCells_list (P := E.P) w _ cvs e
            rw [b] at this
            simp [Instr.loadAt, Instr.sureAddr, loadVar, ht.run_agg, hagg, ht.run_size, this]
          · cases hl
      · cases hl
  · cases hl

/-- Cells written over what a family holds. -/
theorem putN_step (h : Rel base μ A w) {f cur es o off : Nat} {cs cs' xs : List AV} {vs : List Value} {p : Pl} (hF : A.heap.get f = some (.cells cur false es cs)) (hp : μ f cur = some p)
    (e : off + p.down = o + p.up) (hxs : LRel μ xs vs) (h1 : ∀ x ∈ xs, x.one = true) (hput : putN o xs cs = some cs') (hpos : 0 < xs.length) :
    ∃ w', (storeCells ⟨p.c, off, none⟩ vs).run E.P w = .ok () w' ∧ Step base μ A w (μ.put f cur p) ⟨A.heap.set f (.cells cur false es cs'), A.nxt⟩ w' := by
  obtain ⟨arr, elem, fz, b1, b2, b3, b4, b5⟩ := h.con f _ p hF hp
  have hfz := b4 rfl
  subst hfz
  have hlen := hxs.1
  have hvone : ∀ v ∈ vs, v.oneCell' = true := fun v hv => by
    obtain ⟨i, hi⟩ := List.mem_iff_getElem?.1 hv
    have hlt : i < xs.length := by rw [hxs.1]; rcases Nat.lt_or_ge i vs.length with h | h; exact h; rw [List.getElem?_eq_none h] at hi; cases hi
    have hx : xs[i]? = some xs[i] := List.getElem?_eq_getElem hlt
    exact (hxs.2 i _ v hx hi).one (h1 _ (List.mem_of_getElem? hx))
  have hfit : off + 0 + vs.length ≤ arr.size := by
    rw [← hxs.1]
    obtain ⟨q1, _⟩ := putN_eq _ _ _ _ hput
    have hl : cs[o + xs.length - 1]? = some cs[o + xs.length - 1] := List.getElem?_eq_getElem (by omega)
    obtain ⟨_, cv, a, _⟩ := b5 _ _ hl (by omega)
    have := (Array.getElem?_eq_some_iff.1 a).1
    omega
  have hrun := run_storeCells_at E.P p.c off elem vs 0 arr w b1 hfit hvone
  refine ⟨_, hrun, ?_⟩
  refine Step.write (F' := .cells cur false es cs') (w1 := w.setRow p.c (arr.toList.take (off + 0) ++ vs ++ arr.toList.drop (off + 0 + vs.length)).toArray) h hF rfl hp rfl (.inl rfl) ⟨rfl, rfl, rfl⟩ (by simp) (fun b hb => setRow_other w p.c b _ hb) ?_
  refine ⟨_, elem, (0, 0), setRow_heap w p.c arr _ elem _ b1, ?_, b3, fun _ => rfl, fun i v hv hd => ?_⟩
  · simp only [List.size_toArray, List.length_append, List.length_take, List.length_drop, Array.length_toList]
    omega
  · rw [putN_get hput] at hv
    simp only [List.getElem?_toArray, Nat.add_zero]
    by_cases hin : o ≤ i ∧ i < o + xs.length
    · rw [if_pos hin] at hv
      obtain ⟨y, hy, hr⟩ := hxs.get hv
      refine ⟨h1 v (List.mem_of_getElem? hv), y, ?_, hr⟩
      rw [List.append_assoc, List.getElem?_append_right (by simp; omega), List.getElem?_append_left (by simp; omega)]
      rw [← hy]
      congr 1
      simp
      omega
    · rw [if_neg hin] at hv
      obtain ⟨ho, cv, a, b⟩ := b5 i v hv hd
      refine ⟨ho, cv, ?_, b⟩
      have hlt := (Array.getElem?_eq_some_iff.1 a).1
      have a' : arr.toList[i + p.up - p.down]? = some cv := by simpa using a
      by_cases hlo : i < o
      · rw [List.append_assoc, List.getElem?_append_left (by simp; omega), List.getElem?_take_of_lt (by omega)]
        exact a'
      · rw [List.getElem?_append_right (by simp; omega), List.getElem?_drop, ← a']
        congr 1
        simp
        omega

/-- store -/
theorem store_sound (hE : TysOk E) (h : Rel base μ A w) {t : TypeId} {a x v : AV} {A' : AW} {ca cx : Value} (hl : storeA E t a x A = .val v A') (ha : VRel μ a ca) (hx : VRel μ x cx) :
    v = .undef ∧ ∃ w' μ', (Instr.storeAt t ca cx).run E.P w = .ok () w' ∧ Step base μ A w μ' A' w' := by
  unfold storeA at hl
  split at hl
  · rename_i f s o
    cases ha with
    | ptr hp he =>
      rename_i p off
      split at hl
      · rename_i d xs hd hxs
        have ht := hE t d hd
        obtain ⟨hrel, hone⟩ := cellsOf_rel hx hxs
        cases hb : Nat.beq (len xs) d.size
        · simp [hb] at hl
        · simp only [hb, cond_true] at hl
          have hsz := Nat.eq_of_beq_eq_true hb
          rw [len_eq] at hsz
          cases hnil : isNil xs
          · simp only [hnil, cond_false] at hl
            have hpos : 0 < xs.length := by
              rcases xs with _ | ⟨y, ys⟩
              · simp [isNil] at hnil
              · simp
            split at hl
            · rename_i A2 hst
              cases hl
              refine ⟨rfl, ?_⟩
              unfold storeCellsA at hst
              split at hst
              · rename_i cur ro es cs hF
                cases hro : ro
                · subst hro
                  simp only [cond_false] at hst
                  cases hb2 : Nat.beq cur s
                  · simp [hb2] at hst
                  · have hcs : cur = s := Nat.eq_of_beq_eq_true hb2
                    subst hcs
                    simp only [hb2, cond_true] at hst
                    split at hst
                    · rename_i cs' hput
                      cases hst
                      obtain ⟨w', hw, hstep⟩ := putN_step (E := E) h hF hp he hrel hone hput hpos
                      refine ⟨w', _, ?_, hstep⟩
                      have hcl : cx.cells.size = d.size := by rw [← hsz, hrel.1]; simp
                      simp [Instr.storeAt, Instr.sureAddr, storeVar, ht.run_size, hcl, hw]
                    · cases hst
                · simp [hro] at hst
              · cases hst
            · cases hl
          · simp [hnil] at hl
      · cases hl
  · cases hl

end
end Go.AE
