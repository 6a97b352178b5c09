/-
  OPERATIONS ON MEMORY: what the evaluator answers the model answers.
  OPERATIONS THAT ONLY COMPUTE: numbers, texts, truth values, nil.
  NUMBERS BY THEIR BITS: what lists of bits stand for.
  EACH OPERATION OF THE EVALUATOR IS ONE OF THE MODEL's.
-/
import Derived.Test.YtiecclkgjcnaoaaGreatAiWorld
import Derived.Laws.Strings
import Derived.Laws.StructEq
import Derived.IntWalk
namespace Go.AE
variable [Rho]
structure TyOk (P : Program) (t : TypeId) (d : ATy) : Prop where
  und : P.underlying t = some d.desc
  agg : d.agg = isAggD d.desc
  info : ∃ i, P.info? t = some i ∧ i.size = d.size ∧ i.bytes = d.bytes ∧ ∀ z, d.zero = some z → ∃ zv, i.zero = some zv ∧ z = zv.cells.toList.map ofLeaf ∧ z.length = d.size ∧ d.zv = ofConst zv ∧ ∀ x ∈ z, x.one = true
def TysOk (E : Env) : Prop := ∀ t d, E.tys.get t = some d → TyOk E.P t d
section
variable {P : Program} {t : TypeId} {d : ATy}
omit [Rho] in
theorem TyOk.run_und (h : TyOk P t d) (w : World) : (underlying t).run P w = .ok d.desc w := run_underlying h.und w
omit [Rho] in
theorem TyOk.run_size (h : TyOk P t d) (w : World) : (sizeOf t).run P w = .ok d.size w := by
  obtain ⟨i, hi, hs, _⟩ := h.info
  simp [sizeOf, typeInfo, hi, hs]
omit [Rho] in
theorem TyOk.run_info (h : TyOk P t d) (w : World) : ∃ i, (typeInfo t).run P w = .ok i w ∧ i.size = d.size ∧ i.bytes = d.bytes := by
  obtain ⟨i, hi, hs, hb, _⟩ := h.info
  exact ⟨i, by simp [typeInfo, hi], hs, hb⟩
omit [Rho] in
theorem TyOk.run_agg (h : TyOk P t d) (w : World) : (isAgg t).run P w = .ok d.agg w := by
  rw [h.agg]
  unfold isAgg
  rw [Sem.run_bind, h.run_und]
  simp only [Result.andThen_ok]
  cases d.desc <;> rfl
theorem TyOk.run_zero (h : TyOk P t d) (w : World) {z : List AV} (hz : d.zero = some z) (μ : Mp) : ∃ zv, (zeroValue t).run P w = .ok zv w ∧ LRel μ z zv.cells.toList ∧ (∀ x ∈ z, x.one = true) ∧ z.length = d.size ∧ VRel μ d.zv zv := by
  obtain ⟨i, hi, _, _, hzz⟩ := h.info
  obtain ⟨zv, h1, rfl, h4, h5, h3⟩ := hzz z hz
  refine ⟨zv, by simp [zeroValue, typeInfo, hi, h1], ?_, h3, h4, by rw [h5]; exact ofConst_rel μ zv⟩
  generalize zv.cells.toList = l
  induction l with
  | nil => exact LRel.nil μ
  | cons a l ih => exact LRel.cons (ofLeaf_rel μ a) ih
end
omit [Rho] in
theorem alloc_size (w : World) (o : Obj) : (w.alloc o).heap.size = w.heap.size + 1 := by
  show (w.heap.push o).size = _
  simp
omit [Rho] in
theorem alloc_old (w : World) (o : Obj) (b : Nat) (h : b < w.heap.size) : (w.alloc o).heap[b]? = w.heap[b]? := heap_alloc_old w o b h
omit [Rho] in
theorem alloc_new (w : World) (o : Obj) : (w.alloc o).heap[w.heap.size]? = some o := heap_alloc_new w o
section
variable {E : Env} {base : Nat} {μ : Mp} {A : AW} {w : World}
theorem Step.newRow (h : Rel base μ A w) {w1 : World} (hs : Side w w1) (hh : w1.heap = w.heap) {cs : List AV} {arr : Array Value} (elem : TypeId) (es : Nat) (ro : Bool) (fz : Nat × Nat)
    (hfz : ro = false → fz = (0, 0)) (hrel : ∀ (i : Nat) v, cs[i]? = some v → v.one = true ∧ ∃ cv, arr[i]? = some cv ∧ VRel μ v cv) :
    Step base μ A w (μ.put A.nxt 0 ⟨w.heap.size, 0, 0, arr.size, es⟩) ⟨A.heap.set A.nxt (.cells 0 ro es cs), Nat.succ A.nxt⟩ (w1.alloc (.cells arr elem fz)) := by
  refine Step.new h _ _ ⟨hs.os, hs.tape, hs.output⟩ rfl (by rw [alloc_size, hh]) (fun b hb => by rw [alloc_old _ _ _ (by rw [hh]; exact hb), hh]) rfl ?_
  refine ⟨arr, elem, fz, by rw [← hh]; exact alloc_new w1 _, rfl, rfl, hfz, fun i v hv _ => ?_⟩
  simpa using hrel i v hv
theorem lrel_hrel {μ : Mp} {cs : List AV} {vs : List Value} (h : LRel μ cs vs) (h1 : ∀ x ∈ cs, x.one = true) (rest : List Value) :
    ∀ (i : Nat) v, cs[i]? = some v → v.one = true ∧ ∃ cv, (vs ++ rest).toArray[i]? = some cv ∧ VRel μ v cv := fun i v hv => by
  obtain ⟨y, hy, hr⟩ := h.get hv
  refine ⟨h1 v (List.mem_of_getElem? hv), y, ?_, hr⟩
  have hlt : i < vs.length := by rcases Nat.lt_or_ge i vs.length with h | h; exact h; simp [List.getElem?_eq_none h] at hy
  simp only [List.getElem?_toArray]
  rw [List.getElem?_append_left hlt]
  exact hy
theorem cell_of (h : Rel base μ A w) {f o cur es off : Nat} {ro : Bool} {cs : List AV} {p : Pl} {v : AV} (hF : A.heap.get f = some (.cells cur ro es cs)) (hp : μ f cur = some p)
    (e : off + p.down = o + p.up) (hv : cs[o]? = some v) : v.one = true ∧ ∃ cv, w.cell? ⟨p.c, off, none⟩ = some cv ∧ VRel μ v cv := by
  obtain ⟨arr, elem, fz, h1, h2, h3, h4, h5⟩ := h.con f _ p hF hp
  obtain ⟨ho, cv, a, b⟩ := h5 o v hv (by omega)
  refine ⟨ho, cv, ?_, b⟩
  have : o + p.up - p.down = off := by omega
  rw [this] at a
  simp [World.cell?, h1, a]
theorem cells_of (h : Rel base μ A w) {f s o n off : Nat} {p : Pl} {l : List AV} (hr : readCells A f s o n = some l) (hp : μ f s = some p) (e : off + p.down = o + p.up) :
    ∃ cvs : List Value, LRel μ l cvs ∧ cvs.length = n ∧ (∀ x ∈ l, x.one = true) ∧ ∀ (j : Nat) v, cvs[j]? = some v → w.cell? ((⟨p.c, off, none⟩ : Addr).add j) = some v := by
  unfold readCells at hr
  split at hr
  · rename_i cur ro es cs hF
    cases hb : Nat.beq cur s
    · simp [hb] at hr
    · simp only [hb, cond_true] at hr
      have hcs : cur = s := Nat.eq_of_beq_eq_true hb
      subst hcs
      obtain ⟨h1, h2⟩ := takeN_eq _ _ _ hr
      rw [dropN_eq] at h1
      have hcell : ∀ j, j < n → ∃ v cv, l[j]? = some v ∧ v.one = true ∧ w.cell? ⟨p.c, off + j, none⟩ = some cv ∧ VRel μ v cv := fun j hj => by
        have hl : l[j]? = some l[j] := List.getElem?_eq_getElem (by omega)
        have hcsj : cs[o + j]? = some l[j] := by
          rw [← hl, h1, List.getElem?_take_of_lt hj, List.getElem?_drop]
        obtain ⟨ho, cv, a, b⟩ := cell_of h (o := o + j) (off := off + j) hF hp (by omega) hcsj
        exact ⟨_, cv, hl, ho, a, b⟩
      refine ⟨(List.range n).map fun j => (w.cell? ⟨p.c, off + j, none⟩).getD undef, ⟨by simp [h2], fun i x y hx hy => ?_⟩, by simp, fun x hx => ?_, fun j v hv => ?_⟩
      · have hi : i < n := by rcases Nat.lt_or_ge i n with h | h; exact h; rw [List.getElem?_eq_none (by omega)] at hx; cases hx
        obtain ⟨v, cv, a, _, b, c⟩ := hcell i hi
        rw [hx] at a; cases a
        simp [List.getElem?_map, List.getElem?_range hi, b] at hy
        subst hy
        exact c
      · obtain ⟨i, hi⟩ := List.mem_iff_getElem?.1 hx
        have hin : i < n := by rcases Nat.lt_or_ge i n with h | h; exact h; rw [List.getElem?_eq_none (by omega)] at hi; cases hi
        obtain ⟨v, cv, a, b, _⟩ := hcell i hin
        rw [hi] at a; cases a
        exact b
      · have hj : j < n := by rcases Nat.lt_or_ge j n with h | h; exact h; rw [List.getElem?_eq_none (by simp; omega)] at hv; cases hv
        obtain ⟨v', cv, a, _, b, c⟩ := hcell j hj
        simp [List.getElem?_map, List.getElem?_range hj, b] at hv
        rw [Addr.add_lit, b, hv]
  · cases hr
theorem load_sound (hE : TysOk E) (h : Rel base μ A w) {t : TypeId} {a v : AV} {A' : AW} {ca : Value} (hl : loadA E t a A = .val v A') (ha : VRel μ a ca) :
    A' = A ∧ ∃ cv, (Instr.loadAt t ca).run E.P w = .ok cv w ∧ VRel μ v cv := by
  unfold loadA at hl
  split at hl
  · rename_i f s o
    cases ha with
    | ptr hp he =>
      rename_i p off
      split at hl
      · rename_i d hd
        have ht := hE t d hd
        cases hagg : d.agg
        · simp only [hagg, cond_false] at hl
          split at hl
          · rename_i cur ro es cs hF
            cases hb : Nat.beq cur s
            · simp [hb] at hl
            · have hcs : cur = s := Nat.eq_of_beq_eq_true hb
              subst hcs
              simp only [hb, cond_true] at hl
              split at hl
              · rename_i v' hv'
                cases hl
                rw [nth_eq] at hv'
                obtain ⟨_, cv, a, b⟩ := cell_of h hF hp he hv'
                refine ⟨rfl, cv, ?_, b⟩
                simp [Instr.loadAt, Instr.sureAddr, loadVar, ht.run_agg, hagg, a]
              · cases hl
          · cases hl
        · simp only [hagg, cond_true] at hl
          split at hl
          · rename_i cs hcs
            cases hl
            obtain ⟨cvs, a, b, c, e⟩ := cells_of h hcs hp he
            refine ⟨rfl, .agg cvs.toArray, ?_, vrel_agg_mk a c⟩
            have := run_loadCells_list (P := E.P) w _ cvs e
            rw [b] at this
            simp [Instr.loadAt, Instr.sureAddr, loadVar, ht.run_agg, hagg, ht.run_size, this]
          · cases hl
      · cases hl
  · cases hl
theorem putN_step (h : Rel base μ A w) {f cur es o off : Nat} {cs cs' xs : List AV} {vs : List Value} {p : Pl} (hF : A.heap.get f = some (.cells cur false es cs)) (hp : μ f cur = some p)
    (e : off + p.down = o + p.up) (hxs : LRel μ xs vs) (h1 : ∀ x ∈ xs, x.one = true) (hput : putN o xs cs = some cs') (hpos : 0 < xs.length) :
    ∃ w', (storeCells ⟨p.c, off, none⟩ vs).run E.P w = .ok () w' ∧ Step base μ A w (μ.put f cur p) ⟨A.heap.set f (.cells cur false es cs'), A.nxt⟩ w' := by
  obtain ⟨arr, elem, fz, b1, b2, b3, b4, b5⟩ := h.con f _ p hF hp
  have hfz := b4 rfl
  subst hfz
  have hlen := hxs.1
  have hvone : ∀ v ∈ vs, v.oneCell' = true := fun v hv => by
    obtain ⟨i, hi⟩ := List.mem_iff_getElem?.1 hv
    have hlt : i < xs.length := by rw [hxs.1]; rcases Nat.lt_or_ge i vs.length with h | h; exact h; rw [List.getElem?_eq_none h] at hi; cases hi
    have hx : xs[i]? = some xs[i] := List.getElem?_eq_getElem hlt
    exact (hxs.2 i _ v hx hi).one (h1 _ (List.mem_of_getElem? hx))
  have hfit : off + 0 + vs.length ≤ arr.size := by
    rw [← hxs.1]
    obtain ⟨q1, _⟩ := putN_eq _ _ _ _ hput
    have hl : cs[o + xs.length - 1]? = some cs[o + xs.length - 1] := List.getElem?_eq_getElem (by omega)
    obtain ⟨_, cv, a, _⟩ := b5 _ _ hl (by omega)
    have := (Array.getElem?_eq_some_iff.1 a).1
    omega
  have hrun := run_storeCells_at E.P p.c off elem vs 0 arr w b1 hfit hvone
  refine ⟨_, hrun, ?_⟩
  refine Step.write (F' := .cells cur false es cs') (w1 := w.setRow p.c (arr.toList.take (off + 0) ++ vs ++ arr.toList.drop (off + 0 + vs.length)).toArray) h hF rfl hp rfl (.inl rfl) ⟨rfl, rfl, rfl⟩ (by simp) (fun b hb => setRow_other w p.c b _ hb) ?_
  refine ⟨_, elem, (0, 0), setRow_heap w p.c arr _ elem _ b1, ?_, b3, fun _ => rfl, fun i v hv hd => ?_⟩
  · simp only [List.size_toArray, List.length_append, List.length_take, List.length_drop, Array.length_toList]
    omega
  · rw [putN_get hput] at hv
    simp only [List.getElem?_toArray, Nat.add_zero]
    by_cases hin : o ≤ i ∧ i < o + xs.length
    · rw [if_pos hin] at hv
      obtain ⟨y, hy, hr⟩ := hxs.get hv
      refine ⟨h1 v (List.mem_of_getElem? hv), y, ?_, hr⟩
      rw [List.append_assoc, List.getElem?_append_right (by simp; omega), List.getElem?_append_left (by simp; omega)]
      rw [← hy]
      congr 1
      simp
      omega
    · rw [if_neg hin] at hv
      obtain ⟨ho, cv, a, b⟩ := b5 i v hv hd
      refine ⟨ho, cv, ?_, b⟩
      have hlt := (Array.getElem?_eq_some_iff.1 a).1
      have a' : arr.toList[i + p.up - p.down]? = some cv := by simpa using a
      by_cases hlo : i < o
      · rw [List.append_assoc, List.getElem?_append_left (by simp; omega), List.getElem?_take_of_lt (by omega)]
        exact a'
      · rw [List.getElem?_append_right (by simp; omega), List.getElem?_drop, ← a']
        congr 1
        simp
        omega
theorem store_sound (hE : TysOk E) (h : Rel base μ A w) {t : TypeId} {a x v : AV} {A' : AW} {ca cx : Value} (hl : storeA E t a x A = .val v A') (ha : VRel μ a ca) (hx : VRel μ x cx) :
    v = .undef ∧ ∃ w' μ', (Instr.storeAt t ca cx).run E.P w = .ok () w' ∧ Step base μ A w μ' A' w' := by
  unfold storeA at hl
  split at hl
  · rename_i f s o
    cases ha with
    | ptr hp he =>
      rename_i p off
      split at hl
      · rename_i d xs hd hxs
        have ht := hE t d hd
        obtain ⟨hrel, hone⟩ := cellsOf_rel hx hxs
        cases hb : Nat.beq (len xs) d.size
        · simp [hb] at hl
        · simp only [hb, cond_true] at hl
          have hsz := Nat.eq_of_beq_eq_true hb
          rw [len_eq] at hsz
          cases hnil : isNil xs
          · simp only [hnil, cond_false] at hl
            have hpos : 0 < xs.length := by
              rcases xs with _ | ⟨y, ys⟩
              · simp [isNil] at hnil
              · simp
            split at hl
            · rename_i A2 hst
              cases hl
              refine ⟨rfl, ?_⟩
              unfold storeCellsA at hst
              split at hst
              · rename_i cur ro es cs hF
                cases hro : ro
                · subst hro
                  simp only [cond_false] at hst
                  cases hb2 : Nat.beq cur s
                  · simp [hb2] at hst
                  · have hcs : cur = s := Nat.eq_of_beq_eq_true hb2
                    subst hcs
                    simp only [hb2, cond_true] at hst
                    split at hst
                    · rename_i cs' hput
                      cases hst
                      obtain ⟨w', hw, hstep⟩ := putN_step (E := E) h hF hp he hrel hone hput hpos
                      refine ⟨w', _, ?_, hstep⟩
                      have hcl : cx.cells.size = d.size := by rw [← hsz, hrel.1]; simp
                      simp [Instr.storeAt, Instr.sureAddr, storeVar, ht.run_size, hcl, hw]
                    · cases hst
                · simp [hro] at hst
              · cases hst
            · cases hl
          · simp [hnil] at hl
      · cases hl
  · cases hl
end
end Go.AE
namespace Go.AE
variable [Rho]
omit [Rho] in
theorem iadd_eq (x y : Int) : iadd x y = x + y := by
  unfold iadd
  split
  · rfl
  · rfl
omit [Rho] in
theorem isub_eq (x y : Int) : isub x y = x - y := by
  unfold isub
  split
  · rename_i a b
    cases h : Nat.ble b a
    · have hb : ¬ b ≤ a := fun hle => by rw [Nat.ble_eq_true_of_le hle] at h; cases h
      simp only [cond_false]
      have e1 : Nat.sub (Nat.sub b a) 1 = b - a - 1 := rfl
      rw [e1]
      simp only [Int.ofNat_eq_natCast, Int.negSucc_eq]
      omega
    · have hb : b ≤ a := Nat.le_of_ble_eq_true h
      simp only [cond_true]
      have e1 : Nat.sub a b = a - b := rfl
      rw [e1]
      simp only [Int.ofNat_eq_natCast]
      omega
  · rfl
omit [Rho] in
theorem blt_eq (a b : Nat) : Nat.blt a b = decide (a < b) := by
  by_cases h : a < b
  · simp only [h, decide_true]; exact Nat.ble_eq_true_of_le h
  · simp only [h, decide_false]
    cases hb : Nat.blt a b
    · rfl
    · exact absurd (Nat.le_of_ble_eq_true hb) h
omit [Rho] in
theorem beq_eq (a b : Nat) : Nat.beq a b = decide (a = b) := by
  by_cases h : a = b
  · subst h; simp
  · simp only [h, decide_false]
    cases hb : Nat.beq a b
    · rfl
    · exact absurd (Nat.eq_of_beq_eq_true hb) h
omit [Rho] in
theorem ilt_eq (x y : Int) : ilt x y = decide (x < y) := by
  cases x with
  | ofNat a =>
    cases y with
    | ofNat b => simp [ilt, blt_eq]
    | negSucc b => simp only [ilt]; exact (decide_eq_false (by simp only [Int.ofNat_eq_natCast, Int.negSucc_eq]; omega)).symm
  | negSucc a =>
    cases y with
    | ofNat b => simp only [ilt]; exact (decide_eq_true (by simp only [Int.ofNat_eq_natCast, Int.negSucc_eq]; omega)).symm
    | negSucc b =>
      simp only [ilt, blt_eq]
      apply decide_eq_decide.2
      simp only [Int.negSucc_eq]; omega
omit [Rho] in
theorem ieq_eq (x y : Int) : ieq x y = decide (x = y) := by
  cases x with
  | ofNat a =>
    cases y with
    | ofNat b => simp only [ieq, beq_eq, Int.ofNat_eq_natCast]; exact decide_eq_decide.2 (by omega)
    | negSucc b => simp [ieq]
  | negSucc a =>
    cases y with
    | ofNat b => simp [ieq]
    | negSucc b => simp [ieq, beq_eq]
omit [Rho] in
theorem kindEq_eq (a b : IntKind) : kindEq a b = decide (a = b) := by
  cases a <;> cases b <;> rfl
omit [Rho] in
theorem bif_blt {α : Type} (m N : Nat) (a b : α) : (bif Nat.blt m N then a else b) = if m < N then a else b := by
  rw [blt_eq]
  by_cases h : m < N <;> simp [h]
omit [Rho] in
theorem wrapI_i64 (n : Int) : wrapI .i64 n = IntKind.i64.wrap n := by
  cases n with
  | ofNat m =>
    refine (bif_blt m 9223372036854775808 (Int.ofNat m) (IntKind.wrap .i64 (.ofNat m))).trans ?_
    split
    · exact (IntWalk.i64_in _ (by simp only [Int.ofNat_eq_natCast]; omega)).symm
    · rfl
  | negSucc m =>
    refine (bif_blt m 9223372036854775808 (Int.negSucc m) (IntKind.wrap .i64 (.negSucc m))).trans ?_
    split
    · exact (IntWalk.i64_in _ (by simp only [Int.negSucc_eq]; omega)).symm
    · rfl
omit [Rho] in
theorem wrapI_u8 (n : Int) : wrapI .u8 n = IntKind.u8.wrap n := by
  cases n with
  | ofNat m =>
    simp only [wrapI, IntKind.wrap_u8, Int.ofNat_eq_natCast]
    rfl
  | negSucc m => rfl
omit [Rho] in
theorem wrapI_u64 (n : Int) : wrapI .u64 n = IntKind.u64.wrap n := by
  cases n with
  | ofNat m =>
    simp only [wrapI, IntKind.wrap, IntKind.bits, IntKind.signed, Int.ofNat_eq_natCast, Bool.false_and, Bool.false_eq_true, if_false]
    rfl
  | negSucc m => rfl
omit [Rho] in
theorem wrapI_eq (k : IntKind) (n : Int) : wrapI k n = k.wrap n := by
  cases k with
  | i64 => exact wrapI_i64 n
  | u8 => exact wrapI_u8 n
  | u64 => exact wrapI_u64 n
  | i8 => rfl
  | i16 => rfl
  | i32 => rfl
  | u16 => rfl
  | u32 => rfl
omit [Rho] in
theorem retI_val {k : IntKind} {n : Int} {A A' : AW} {v : AV} (h : retI k n A = .val v A') : v = .int k n ∧ A' = A := by
  unfold retI at h
  split at h
  · rename_i m
    have e : Nat.ble 0 m = true := Nat.ble_eq_true_of_le (Nat.zero_le m)
    rw [e] at h
    cases h
    exact ⟨rfl, rfl⟩
  · rename_i m
    have e : Nat.ble 0 m = true := Nat.ble_eq_true_of_le (Nat.zero_le m)
    rw [e] at h
    cases h
    exact ⟨rfl, rfl⟩
omit [Rho] in
theorem retB_val {b : Bool} {A A' : AW} {v : AV} (h : retB b A = .val v A') : v = .bool b ∧ A' = A := by
  cases b <;> (cases h; exact ⟨rfl, rfl⟩)
omit [Rho] in
theorem runQ_run {α : Type} (P : Program) : ∀ (s : Sem α) (a : α), runQ P s = some a → ∀ w, s.run P w = .ok a w := by
  intro s
  induction s with
  | pure a => intro b h w; simp only [runQ, Option.some.injEq] at h; subst h; rfl
  | program k ih => intro b h w; exact ih P b h w
  | _ => intro b h; cases h
theorem back_rel {μ : Mp} {x : Value} {v : AV} (h : back x = some v) : VRel μ v x := by
  unfold back at h
  split at h <;> cases h
  · exact .bool _
  · exact .int _ _
  · exact .float _ _
  · exact .cplx _ _ _
  · exact .str _
theorem quiet_val {E : Env} {s : Sem Value} {A A' : AW} {v : AV} (h : quiet E s A = .val v A') : A' = A ∧ ∃ x, (∀ w, s.run E.P w = .ok x w) ∧ ∀ μ, VRel μ v x := by
  unfold quiet at h
  split at h
  · rename_i x hx
    split at h
    · rename_i a ha
      cases h
      exact ⟨rfl, x, runQ_run _ _ _ hx, fun μ => back_rel ha⟩
    · cases h
  · cases h
omit [Rho] in
theorem bytes_back (l : List UInt8) : (l.map UInt8.toNat).map UInt8.ofNat = l := by
  induction l with
  | nil => rfl
  | cons a l ih => simp [ih]
theorem leafVal_eq {μ : Mp} {v : AV} {x y : Value} (h : leafVal v = some y) (hr : VRel μ v x) : x = y := by
  cases hr <;> simp only [leafVal, Option.some.injEq, reduceCtorEq] at h <;> try exact h
  case str s =>
    rw [← h, bytes_back]
theorem leafVals_eq {μ : Mp} : ∀ {l : List AV} {vs ys : List Value}, leafVals l = some ys → LRel μ l vs → vs = ys
  | [], vs, ys, h, hr => by simp only [leafVals, Option.some.injEq] at h; subst h; exact hr.inv_nil
  | v :: l, vs, ys, h, hr => by
    obtain ⟨y, ys', rfl, h1, h2⟩ := hr.inv
    simp only [leafVals] at h
    split at h
    · rename_i a as ha has
      cases h
      rw [leafVal_eq ha h1, leafVals_eq has h2]
    · cases h
theorem toVal_eq {μ : Mp} {v : AV} {x y : Value} (h : toVal v = some y) (hr : VRel μ v x) : x = y := by
  unfold toVal at h
  split at h
  · rename_i cs
    obtain ⟨us, rfl, h1, _⟩ := vrel_agg hr
    split at h
    · rename_i vs hvs
      cases h
      rw [← leafVals_eq hvs h1]
    · cases h
  · exact leafVal_eq h hr
omit [Rho] in
theorem leafVal_notIface {v : AV} {y : Value} (h : leafVal v = some y) : y ≠ .nilIface := by
  cases v <;> simp [leafVal] at h <;> subst h <;> simp
omit [Rho] in
theorem toVal_notIface {v : AV} {y : Value} (h : toVal v = some y) : y ≠ .nilIface := by
  unfold toVal at h
  split at h
  · split at h
    · cases h; simp
    · cases h
  · exact leafVal_notIface h
omit [Rho] in
theorem toNat_inj {a b : UInt8} : a.toNat = b.toNat ↔ a = b := by
  constructor
  · intro h; exact UInt8.toNat_inj.1 h
  · rintro rfl; rfl
omit [Rho] in
theorem strEq_eq : ∀ (a b : List UInt8), strEq (a.map UInt8.toNat) (b.map UInt8.toNat) = (a == b)
  | [], [] => rfl
  | [], _ :: _ => rfl
  | _ :: _, [] => rfl
  | x :: a, y :: b => by
    simp only [List.map_cons, strEq, beq_eq]
    by_cases h : x = y
    · subst h; simp [strEq_eq a b]
    · have : x.toNat ≠ y.toNat := fun e => h (toNat_inj.1 e)
      simp [this, h]
omit [Rho] in
theorem strLt_eq : ∀ (a b : List UInt8), strLt (a.map UInt8.toNat) (b.map UInt8.toNat) = Op.bytesLess a b
  | [], [] => rfl
  | [], _ :: _ => rfl
  | _ :: _, [] => rfl
  | x :: a, y :: b => by
    simp only [List.map_cons, strLt, blt_eq, beq_eq, Op.bytesLess]
    by_cases h : x = y
    · subst h; simp [strLt_eq a b]
    · have h1 : x.toNat ≠ y.toNat := fun e => h (toNat_inj.1 e)
      simp only [h1, decide_false, cond_false, UInt8.lt_iff_toNat_lt]
      by_cases h2 : x.toNat < y.toNat <;> simp [h2, h]
end Go.AE
namespace Go.AE
variable [Rho]
theorem bval_le (b : Bt) : bval b ≤ 1 := by
  cases b <;> simp only [bval] <;> (try (rename_i i; cases Rho.b i)) <;> simp
theorem bmin_le (b : Bt) : bmin b ≤ bval b := by
  cases b <;> simp [bval, bmin]
theorem bmax_le (b : Bt) : bval b ≤ bmax b := by
  have := bval_le b
  cases b <;> simp_all [bval, bmax]
theorem natMin_le : ∀ l : List Bt, natMin l ≤ natOf l
  | [] => Nat.le_refl _
  | b :: l => by
    have h1 := natMin_le l
    have h2 := bmin_le b
    show bmin b + 2 * natMin l ≤ bval b + 2 * natOf l
    omega
theorem natMax_le : ∀ l : List Bt, natOf l ≤ natMax l
  | [] => Nat.le_refl _
  | b :: l => by
    have h1 := natMax_le l
    have h2 := bmax_le b
    show bval b + 2 * natOf l ≤ bmax b + 2 * natMax l
    omega
theorem natOf_const : ∀ l : List Bt, allConst l = true → natOf l = natMin l
  | [], _ => rfl
  | b :: l, h => by
    simp only [allConst] at h
    cases hb : isConst b <;> rw [hb] at h <;> simp only [cond_true, cond_false, Bool.false_eq_true] at h
    have h1 := natOf_const l h
    show bval b + 2 * natOf l = bmin b + 2 * natMin l
    rw [h1]
    cases b <;> simp_all [isConst, bval, bmin]
theorem natOf_lt : ∀ l : List Bt, natOf l < 2 ^ lenB l
  | [] => by simp [natOf, lenB]
  | b :: l => by
    have h1 := natOf_lt l
    have h2 := bval_le b
    show bval b + 2 * natOf l < 2 ^ (lenB l + 1)
    rw [Nat.pow_succ]
    omega
theorem natOf_lt' {l : List Bt} {n : Nat} (h : lenB l ≤ n) : natOf l < 2 ^ n :=
  Nat.lt_of_lt_of_le (natOf_lt l) (Nat.pow_le_pow_right (by decide) h)
theorem natOf_drop : ∀ (c : Nat) (l : List Bt), natOf (dropN c l) = natOf l / 2 ^ c
  | 0, l => by cases l <;> simp [dropN]
  | c + 1, [] => by simp [dropN, natOf]
  | c + 1, b :: l => by
    have h := natOf_drop c l
    have hb := bval_le b
    show natOf (dropN c l) = (bval b + 2 * natOf l) / 2 ^ (c + 1)
    rw [h, Nat.pow_succ, Nat.mul_comm (2 ^ c) 2, ← Nat.div_div_eq_div_mul]
    have e : (bval b + 2 * natOf l) / 2 = natOf l := by omega
    rw [e]
theorem natOf_head : ∀ (c : Nat) (l : List Bt), natOf (headN c l) = natOf l % 2 ^ c
  | 0, l => by cases l <;> simp [headN, natOf, Nat.mod_one]
  | c + 1, [] => by simp [headN, natOf]
  | c + 1, b :: l => by
    have h := natOf_head c l
    have hb := bval_le b
    show bval b + 2 * natOf (headN c l) = (bval b + 2 * natOf l) % 2 ^ (c + 1)
    rw [h, Nat.pow_succ, Nat.mul_comm (2 ^ c) 2, Nat.mod_mul]
    have e1 : (bval b + 2 * natOf l) % 2 = bval b := by omega
    have e2 : (bval b + 2 * natOf l) / 2 = natOf l := by omega
    rw [e1, e2]
theorem natOf_zeros : ∀ (c : Nat) (l : List Bt), natOf (zerosN c l) = 2 ^ c * natOf l
  | 0, l => by simp [zerosN]
  | c + 1, l => by
    have h := natOf_zeros c l
    show 0 + 2 * natOf (zerosN c l) = 2 ^ (c + 1) * natOf l
    rw [h, Nat.pow_succ, Nat.mul_comm (2 ^ c) 2, Nat.mul_assoc, Nat.zero_add]
theorem natOf_pad : ∀ (c : Nat) (l : List Bt), natOf (padN c l) = natOf l
  | 0, l => by simp [padN]
  | c + 1, [] => by
    have h := natOf_pad c []
    show 0 + 2 * natOf (padN c []) = 0
    rw [h]
    rfl
  | c + 1, b :: l => by
    have h := natOf_pad c l
    show bval b + 2 * natOf (padN c l) = bval b + 2 * natOf l
    rw [h]
omit [Rho] in
theorem lenB_pad : ∀ (c : Nat) (l : List Bt), lenB l ≤ c → lenB (padN c l) = c
  | 0, [], _ => rfl
  | 0, b :: l, h => by simp [lenB] at h
  | c + 1, [], _ => congrArg Nat.succ (lenB_pad c [] (Nat.zero_le _))
  | c + 1, b :: l, h => congrArg Nat.succ (lenB_pad c l (Nat.le_of_succ_le_succ h))
omit [Rho] in
theorem lenB_head : ∀ (c : Nat) (l : List Bt), lenB (headN c l) ≤ c
  | 0, l => by cases l <;> simp [headN, lenB]
  | c + 1, [] => Nat.zero_le _
  | c + 1, b :: l => Nat.succ_le_succ (lenB_head c l)
theorem bval_neg (b : Bt) : bval (negB b) = 1 - bval b := by
  cases b <;> simp only [bval, negB] <;> (rename_i i; cases Rho.b i) <;> rfl
theorem natOf_compl : ∀ l : List Bt, natOf (compl l) + natOf l + 1 = 2 ^ lenB l
  | [] => rfl
  | b :: l => by
    have h := natOf_compl l
    have hb := bval_le b
    show (bval (negB b) + 2 * natOf (compl l)) + (bval b + 2 * natOf l) + 1 = 2 ^ (lenB l + 1)
    rw [bval_neg, Nat.pow_succ]
    omega
theorem natOf_snoc (b : Bt) : ∀ l : List Bt, natOf (l ++ [b]) = natOf l + 2 ^ lenB l * bval b
  | [] => by simp [natOf, lenB]
  | a :: l => by
    have h := natOf_snoc b l
    show bval a + 2 * natOf (l ++ [b]) = (bval a + 2 * natOf l) + 2 ^ (lenB l + 1) * bval b
    rw [h, Nat.pow_succ, Nat.mul_comm (2 ^ lenB l) 2, Nat.mul_assoc, Nat.mul_add]
    omega
omit [Rho] in
theorem or_step (b c m n : Nat) (hb : b ≤ 1) (hc : c ≤ 1) : (b + 2 * m) ||| (c + 2 * n) = (b ||| c) + 2 * (m ||| n) := by
  have h1 : ((b + 2 * m) ||| (c + 2 * n)) / 2 = m ||| n := by
    rw [Nat.or_div_two]
    have e1 : (b + 2 * m) / 2 = m := by omega
    have e2 : (c + 2 * n) / 2 = n := by omega
    rw [e1, e2]
  have h2 : ((b + 2 * m) ||| (c + 2 * n)) % 2 = b ||| c := by
    have := @Nat.or_mod_two_pow (b + 2 * m) (c + 2 * n) 1
    rw [Nat.pow_one] at this
    rw [this]
    have e1 : (b + 2 * m) % 2 = b := by omega
    have e2 : (c + 2 * n) % 2 = c := by omega
    rw [e1, e2]
  omega
theorem bval_or {a b c : Bt} (h : orB a b = some c) : bval c = bval a ||| bval b := by
  have ha := bval_le a
  have hb := bval_le b
  have one : ∀ x, x ≤ 1 → 1 ||| x = 1 ∧ x ||| 1 = 1 ∧ 0 ||| x = x ∧ x ||| 0 = x := by
    intro x hx
    have : x = 0 ∨ x = 1 := by omega
    rcases this with rfl | rfl <;> decide
  unfold orB at h
  split at h
  · cases h
    exact ((one _ hb).2.2.1).symm
  · cases h
    exact ((one _ ha).2.2.2).symm
  · cases h
    exact ((one _ hb).1).symm
  · cases h
    exact ((one _ ha).2.1).symm
  · cases h
theorem natOf_or : ∀ {l m r : List Bt}, zipOr l m = some r → natOf r = natOf l ||| natOf m
  | [], m, r, h => by
    simp only [zipOr, Option.some.injEq] at h
    subst h
    show natOf m = 0 ||| natOf m
    rw [Nat.zero_or]
  | a :: l, [], r, h => by
    simp only [zipOr, Option.some.injEq] at h
    subst h
    show natOf (a :: l) = natOf (a :: l) ||| 0
    rw [Nat.or_zero]
  | a :: l, b :: m, r, h => by
    simp only [zipOr] at h
    split at h
    · rename_i c q hc hq
      cases h
      show bval c + 2 * natOf q = (bval a + 2 * natOf l) ||| (bval b + 2 * natOf m)
      rw [or_step _ _ _ _ (bval_le a) (bval_le b), bval_or hc, natOf_or hq]
    · cases h
omit [Rho] in
theorem btEq_val {a b : Bt} (h : btEq a b = true) : a = b := by
  unfold btEq at h
  split at h <;> (try simp only [beq_eq, decide_eq_true_eq, Bool.false_eq_true] at h) <;> (try rfl)
  · rw [h]
  · rw [h]
theorem noBits_val : ∀ {l : List Bt}, noBits l = true → natOf l = 0
  | [], _ => rfl
  | b :: l, h => by
    cases b <;> simp only [noBits, Bool.false_eq_true] at h
    show 0 + 2 * natOf l = 0
    rw [noBits_val h]
theorem eqBits_val : ∀ {l m : List Bt}, eqBits l m = true → natOf l = natOf m
  | [], m, h => by
    simp only [eqBits] at h
    show 0 = natOf m
    rw [noBits_val h]
  | a :: l, [], h => by
    simp only [eqBits] at h
    exact noBits_val h
  | a :: l, b :: m, h => by
    simp only [eqBits, Bool.and_eq_true] at h
    rw [btEq_val h.1]
    show bval b + 2 * natOf l = bval b + 2 * natOf m
    rw [eqBits_val h.2]
omit [Rho] in
theorem btsEq_val : ∀ {l m : List Bt}, btsEq l m = true → l = m
  | [], [], _ => rfl
  | [], _ :: _, h => by simp [btsEq, isNilB] at h
  | _ :: _, [], h => by simp [btsEq] at h
  | a :: l, b :: m, h => by
    simp only [btsEq, Bool.and_eq_true] at h
    rw [btEq_val h.1, btsEq_val h.2]
theorem natOf_to : ∀ (n b : Nat), natOf (toBits n b) = b % 2 ^ n
  | 0, b => by simp [toBits, natOf, Nat.mod_one]
  | n + 1, b => by
    have h := natOf_to n (b / 2)
    show bval (bif Nat.beq (b % 2) 1 then .one else .zero) + 2 * natOf (toBits n (b / 2)) = b % 2 ^ (n + 1)
    rw [h, Nat.pow_succ, Nat.mul_comm (2 ^ n) 2, Nat.mod_mul, beq_eq]
    have e : b % 2 = 0 ∨ b % 2 = 1 := by omega
    rcases e with e | e <;> simp [e, bval]
theorem mkBits_rel (μ : Mp) (k : IntKind) (l : List Bt) : VRel μ (mkBits k l) (.int k (Int.ofNat (natOf l))) := by
  unfold mkBits
  cases h : allConst l with
  | true => rw [natOf_const l h]; exact .int _ _
  | false => exact .bits _ _
end Go.AE
namespace Go.AE
variable [Rho]
section
variable {E : Env} {base : Nat} {μ : Mp} {A : AW} {w : World}
def Ans (E : Env) (base : Nat) (μ : Mp) (A : AW) (w : World) (s : Sem Value) (v : AV) (A' : AW) : Prop :=
  ∃ cv w' μ', s.run E.P w = .ok cv w' ∧ VRel μ' v cv ∧ Step base μ A w μ' A' w'
theorem Ans.same (h : Rel base μ A w) {s : Sem Value} {v : AV} {cv : Value} (hr : s.run E.P w = .ok cv w) (hv : VRel μ v cv) : Ans E base μ A w s v A := ⟨cv, w, μ, hr, hv, Step.refl h⟩
theorem Ans.quiet (h : Rel base μ A w) {s : Sem Value} {v : AV} {A' : AW} (hq : quiet E s A = .val v A') : Ans E base μ A w s v A' := by
  obtain ⟨rfl, x, hx, hv⟩ := quiet_val hq
  exact Ans.same h (hx w) (hv μ)
theorem intOp_sound (h : Rel base μ A w) {op : BinOp} {t : TypeId} {k k' : IntKind} {a b : Int} {v : AV} {A' : AW} (hl : intOp E op k a k' b A = .val v A') :
    Ans E base μ A w (binOp op t (.int k a) (.int k' b)) v A' := by
  have hq : ∀ op', quiet E (binOp op' 0 (.int k a) (.int k' b)) A = .val v A' → Ans E base μ A w (binOp op' t (.int k a) (.int k' b)) v A' := fun op' hq => by
    have e : binOp op' t (.int k a) (.int k' b) = binOp op' 0 (.int k a) (.int k' b) := by cases op' <;> rfl
    rw [e]
    exact Ans.quiet h hq
  unfold intOp at hl
  rw [kindEq_eq] at hl
  by_cases hk : k = k'
  · subst hk
    simp only [decide_true, cond_true] at hl
    cases op
    case add =>
      obtain ⟨rfl, rfl⟩ := retI_val hl
      rw [wrapI_eq, iadd_eq]
      exact Ans.same h (by simp [binOp, Op.intArith]) (.int _ _)
    case sub =>
      obtain ⟨rfl, rfl⟩ := retI_val hl
      rw [wrapI_eq, isub_eq]
      exact Ans.same h (by simp [binOp, Op.intArith]) (.int _ _)
    case mul =>
      obtain ⟨rfl, rfl⟩ := retI_val hl
      rw [wrapI_eq]
      exact Ans.same h (by simp [binOp, Op.intArith]) (.int _ _)
    case eql =>
      obtain ⟨rfl, rfl⟩ := retB_val hl
      rw [ieq_eq]
      exact Ans.same h (by simp [binOp, Op.intCmp]; rfl) (.bool _)
    case neq =>
      obtain ⟨rfl, rfl⟩ := retB_val hl
      rw [ieq_eq]
      exact Ans.same h (by simp [binOp, Op.intCmp]; rfl) (.bool _)
    case lss =>
      obtain ⟨rfl, rfl⟩ := retB_val hl
      rw [ilt_eq]
      exact Ans.same h (by simp [binOp, Op.intCmp]) (.bool _)
    case leq =>
      obtain ⟨rfl, rfl⟩ := retB_val hl
      rw [ilt_eq]
      exact Ans.same h (by simp [binOp, Op.intCmp]; by_cases h : a ≤ b <;> simp [h] <;> omega) (.bool _)
    case gtr =>
      obtain ⟨rfl, rfl⟩ := retB_val hl
      rw [ilt_eq]
      exact Ans.same h (by simp [binOp, Op.intCmp]) (.bool _)
    case geq =>
      obtain ⟨rfl, rfl⟩ := retB_val hl
      rw [ilt_eq]
      exact Ans.same h (by simp [binOp, Op.intCmp]; by_cases h : b ≤ a <;> simp [h] <;> omega) (.bool _)
    all_goals exact hq _ hl
  · simp only [hk, decide_false, cond_false] at hl
    exact hq _ hl
theorem strOp_sound (h : Rel base μ A w) {op : BinOp} {t : TypeId} {a b : ByteArray} {v : AV} {A' : AW}
    (hl : strOp op (a.data.toList.map UInt8.toNat) (b.data.toList.map UInt8.toNat) A = .val v A') : Ans E base μ A w (binOp op t (.string a) (.string b)) v A' := by
  have hs : ∀ s : ByteArray, s.data.toList.length = s.size := fun s => by rw [Array.length_toList]; rfl
  unfold strOp at hl
  cases op <;> simp only [] at hl <;> try (cases hl; done)
  case add =>
    simp only [len_eq, List.length_map, hs] at hl
    cases hb : Nat.ble (Nat.add a.size b.size) 4611686018427387904
    · rw [hb] at hl; cases hl
    · rw [hb] at hl
      cases hl
      have hle : a.size + b.size ≤ 4611686018427387904 := Nat.le_of_ble_eq_true hb
      refine Ans.same h (cv := .string (a ++ b)) ?_ ?_
      · have hm : IntKind.i64.max = 9223372036854775807 := by decide
        simp only [binOp, Op.stringOp, hm]
        rw [Sem.run_ite, if_neg (by omega)]
        rfl
      · have e : a.data.toList.map UInt8.toNat ++ b.data.toList.map UInt8.toNat = (a ++ b).data.toList.map UInt8.toNat := by
          rw [ByteArray.data_append]; simp
        rw [e]
        exact .str _
  all_goals
    obtain ⟨rfl, rfl⟩ := retB_val hl
    refine Ans.same h (cv := .bool _) ?_ (.bool _)
    simp only [binOp, Op.stringOp, ByteArray.toList_eq, strEq_eq, strLt_eq]
    rfl
omit [Rho] in
theorem kindD_cases (d : TypeDesc) : (kindD d = 0 → ∃ e, d = .pointer e) ∧ (kindD d = 1 → ∃ e, d = .slice e) ∧ (kindD d = 2 → ∃ a b, d = .map a b) ∧ (kindD d = 3 → ∃ a b c, d = .func a b c) := by
  cases d <;> simp [kindD]
theorem nilEq_sound (hE : TysOk E) {t : TypeId} {d : ATy} {x y : AV} {k : Nat} {b : Bool} {cx cy : Value} (hn : nilEq x y = some (k, b)) (hd : E.tys.get t = some d) (hk : kindD d.desc = k)
    (hx : VRel μ x cx) (hy : VRel μ y cy) : (Op.equal t cx cy).run E.P w = .ok b w ∧ binOp .eql t cx cy = (do pure (.bool (← Op.equal t cx cy))) ∧ binOp .neq t cx cy = (do pure (.bool (!(← Op.equal t cx cy)))) ∧
      ∀ op p q, (eqGuard op t p q cx cy).run E.P w = .ok () w := by
  have ht := hE t d hd
  have hu := ht.run_und w
  have step : ∀ r : Bool, (∀ s, d.desc = s → kindD s = k → ((Op.equalIn 10000 t cx cy).run E.P w = .ok r w)) → (Op.equal t cx cy).run E.P w = .ok r w := fun r hr => hr _ rfl hk
  obtain ⟨k0, k1, k2, k3⟩ := kindD_cases d.desc
  cases x <;> cases y <;> simp only [nilEq, Option.some.injEq, Prod.mk.injEq, reduceCtorEq] at hn <;> obtain ⟨rfl, rfl⟩ := hn <;> cases hx <;> cases hy <;>
    (refine ⟨step _ fun s hs hks => ?_, rfl, rfl, fun op p q => by cases op <;> rfl⟩
     unfold Op.equalIn
     rw [Sem.run_bind, hu]
     first
       | (obtain ⟨e, he⟩ := k0 hk; rw [he]; rfl)
       | (obtain ⟨e, he⟩ := k1 hk; rw [he]; rfl)
       | (obtain ⟨e, f, he⟩ := k2 hk; rw [he]; rfl)
       | (obtain ⟨e, f, g, he⟩ := k3 hk; rw [he]; rfl))
end
end Go.AE
