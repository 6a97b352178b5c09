/-
  MEMORY THAT IS MADE LATER THAN THE EVALUATOR MAKES IT.
-/
import Derived.Test.YtokieeiohfcgdaaAiGo
namespace Go.AE
set_option linter.unusedVariables false
set_option linter.unusedSimpArgs false
variable [Rho]

/-- A new block, as the model makes it; F: what it holds, 'mk g': the value, for a family of number g. -/
def NewAns (E : Env) (μ : Mp) (w : World) (s : Sem Value) (mk : Nat → AV) (F : AFam) : Prop :=
  ∃ cv w1 p, s.run E.P w = .ok cv w1 ∧ (∀ g, VRel (μ.put g 0 p) (mk g) cv) ∧ Side w w1 ∧ p.c = w.heap.size ∧ w1.heap.size = w.heap.size + 1 ∧
    (∀ b, b < w.heap.size → w1.heap[b]? = w.heap[b]?) ∧ F.cur = 0 ∧ F.ro = false ∧ CR μ F p w1

section
variable {E : Env} {base : Nat} {μ : Mp} {A : AW} {w w1 : World}

/-- A family that the evaluator has had for some time gets its block. -/
theorem Step.late (h : Rel base μ A w) {g : Nat} {F : AFam} {p : Pl} (hg : A.heap.get g = some F) (hn : ∀ t, μ g t = none) (hs : Side w w1) (hc : p.c = w.heap.size) (hz : w1.heap.size = w.heap.size + 1)
    (hold : ∀ b, b < w.heap.size → w1.heap[b]? = w.heap[b]?) (hcur : F.cur = 0) (hCR : CR μ F p w1) :
    Rel base (μ.put g 0 p) A w1 ∧ (∀ f t q, μ f t = some q → (μ.put g 0 p) f t = some q) := by
  have hkeep : ∀ f t q, μ f t = some q → (μ.put g 0 p) f t = some q := fun f t q hq => by
    rw [Mp.put_ne]
    · exact hq
    · by_cases e : f = g
      · subst e; rw [hn t] at hq; cases hq
      · exact .inl e
  have hinv : ∀ f t q, (μ.put g 0 p) f t = some q → (f = g ∧ t = 0 ∧ q = p) ∨ (f ≠ g ∧ μ f t = some q) := fun f t q hq => by
    unfold Mp.put at hq
    split at hq
    · rename_i e; cases hq; exact .inl ⟨e.1, e.2, rfl⟩
    · rename_i e
      refine .inr ⟨fun e' => ?_, hq⟩
      subst e'
      rw [hn t] at hq
      cases hq
  refine ⟨⟨by have := h.base_le; omega, h.lt, ?_, ?_, ?_, ?_⟩, hkeep⟩
  · intro f t q hq
    rcases hinv f t q hq with ⟨rfl, rfl, rfl⟩ | ⟨e, hq⟩
    · exact ⟨by omega, F, hg, by omega⟩
    · obtain ⟨a, F', b, c⟩ := h.dom _ _ _ hq
      exact ⟨by omega, F', b, c⟩
  · intro f f' F' t t' q q' hF' hro hq hq' hcc
    rcases hinv f t q hq with ⟨rfl, rfl, rfl⟩ | ⟨e, hq1⟩ <;> rcases hinv f' t' q' hq' with ⟨rfl, rfl, rfl⟩ | ⟨e', hq1'⟩
    · rfl
    · have := (h.dom _ _ _ hq1').1; omega
    · have := (h.dom _ _ _ hq1).1; omega
    · exact h.inj f f' F' t t' q q' hF' hro hq1 hq1' hcc
  · intro f F' t q hF' hq hro
    rcases hinv f t q hq with ⟨rfl, rfl, rfl⟩ | ⟨e, hq1⟩
    · have := h.base_le; omega
    · exact h.own f F' t q hF' hq1 hro
  · intro f F' q hF' hq
    rcases hinv f F'.cur q hq with ⟨rfl, e0, rfl⟩ | ⟨e, hq1⟩
    · rw [hg] at hF'
      cases hF'
      exact hCR.mono hkeep rfl
    · exact (h.con f F' q hF' hq1).mono hkeep (hold _ (h.dom _ _ _ hq1).1)

theorem newRow_parts {cs : List AV} {vs : List Value} (elem : TypeId) (es : Nat) (hr : LRel μ cs vs) (h1 : ∀ x ∈ cs, x.one = true) :
    Side w (w.alloc (.cells vs.toArray elem)) ∧ (w.alloc (.cells vs.toArray elem)).heap.size = w.heap.size + 1 ∧ (∀ b, b < w.heap.size → (w.alloc (.cells vs.toArray elem)).heap[b]? = w.heap[b]?) ∧
      (AFam.cells 0 false es cs).cur = 0 ∧ (AFam.cells 0 false es cs).ro = false ∧ CR μ (.cells 0 false es cs) ⟨w.heap.size, 0, 0, vs.length, es⟩ (w.alloc (.cells vs.toArray elem)) := by
  refine ⟨⟨rfl, rfl, rfl⟩, alloc_size w _, fun b hb => alloc_old w _ b hb, rfl, rfl, vs.toArray, elem, (0, 0), alloc_new w _, by simp, rfl, fun _ => rfl, fun i v hv _ => ?_⟩
  have := lrel_hrel hr h1 [] i v hv
  simpa using this

theorem alloc_late (hE : TysOk E) {t : TypeId} {d : ATy} {z : List AV} (hd : E.tys.get t = some d) (hz : d.zero = some z) (μ : Mp) (w : World) :
    NewAns E μ w (Instr.alloc t true (.tuple #[])) (fun g => .ptr g 0 0) (.cells 0 false (esOf E d) z) := by
  have ht := hE t d hd
  obtain ⟨zv, h1, h2, h3, _⟩ := ht.run_zero w hz μ
  refine ⟨.pointer (some ⟨w.heap.size, 0, none⟩), w.alloc (.cells zv.cells.toList.toArray t), ⟨w.heap.size, 0, 0, zv.cells.toList.length, esOf E d⟩, ?_, fun g => .ptr (Mp.put_same _ _ _ _) rfl, ?_⟩
  · simp only [Instr.alloc, Sem.run_bind, h1, Result.andThen_ok, newVar, newRow, run_new, Sem.run_pure]
  · obtain ⟨a, b, c, d', e, f⟩ := newRow_parts (w := w) t (esOf E d) h2 h3
    exact ⟨a, rfl, b, c, d', e, f⟩

theorem box_late (hE : TysOk E) {t : TypeId} {d : ATy} {x : AV} {cs : List AV} {cx : Value} (hx : VRel μ x cx) (hc : cellsOf x = some cs) (w : World) :
    NewAns E μ w (Instr.box t cx) (fun g => .ptr g 0 0) (.cells 0 false (esOf E d) cs) := by
  obtain ⟨h2, h3⟩ := cellsOf_rel hx hc
  refine ⟨.pointer (some ⟨w.heap.size, 0, none⟩), w.alloc (.cells cx.cells.toList.toArray t), ⟨w.heap.size, 0, 0, cx.cells.toList.length, esOf E d⟩, ?_, fun g => .ptr (Mp.put_same _ _ _ _) rfl, ?_⟩
  · simp only [Instr.box, Sem.run_bind, newVar, newRow, run_new, Result.andThen_ok, Sem.run_pure]
  · obtain ⟨a, b, c, d', e, f⟩ := newRow_parts (w := w) t (esOf E d) h2 h3
    exact ⟨a, rfl, b, c, d', e, f⟩

theorem new_slice' {μ : Mp} {f c n m es sz : Nat} {ex : Bool} (hn : n ≤ m) (hm : m * es ≤ sz) : VRel (μ.put f 0 ⟨c, 0, 0, sz, es⟩) (.slice f 0 0 n m ex) (.slice (some ⟨c, 0, none⟩) n m) := new_slice hn hm

theorem buildSlice_late (hE : TysOk E) {t : TypeId} {n : Nat} {ps : List (Nat × AV)} {v : AV} {A' : AW} (hl : buildSliceA E t n ps A = .val v A') :
    ∃ F, A' = ⟨A.heap.set A.nxt F, Nat.succ A.nxt⟩ ∧
      ∀ μ w (qs : Array (Nat × Value)), PRel μ ps qs.toList → ∃ mk, v = mk A.nxt ∧ NewAns E μ w (Instr.buildSlice t n qs) mk F := by
  unfold buildSliceA at hl
  split at hl
  · rename_i d hd
    split at hl
    · rename_i e hdd
      split at hl
      · rename_i de hde
        split at hl
        · rename_i z hz
          cases hb : Nat.ble (Nat.mul n de.size) 4096
          · rw [hb] at hl; cases hl
          · cases hb1 : Nat.ble 1 de.size
            · rw [hb, hb1] at hl; cases hl
            · rw [hb, hb1] at hl
              simp only [cond_true] at hl
              have hle : n * de.size ≤ 4096 := Nat.le_of_ble_eq_true hb
              have hpos : 1 ≤ de.size := Nat.le_of_ble_eq_true hb1
              split at hl
              · rename_i cs hcs
                cases hl
                refine ⟨.cells 0 false de.size cs, rfl, fun μ w qs hp => ⟨fun g => .slice g 0 0 n n true, rfl, ?_⟩⟩
                have ht := hE t d hd
                have hte := hE e de hde
                obtain ⟨zv, h1, h2, h3, hsz, _⟩ := hte.run_zero w hz μ
                have hr := repeat_rel (n := n) h2 (by omega)
                rw [hsz] at hr
                obtain ⟨cells', a, b, c⟩ := fill_sound (pl' := fun i => some (i * de.size, de.size)) (fun i q hq => hq) hcs hp hr (repeat_one h3 n)
                have hlen : cells'.toList.length = n * de.size := by rw [← b.1, fillA_len hcs, repeatL_len, hsz]
                obtain ⟨p1, p2, p3, p4, p5, p6⟩ := newRow_parts (w := w) e de.size b c
                refine ⟨.slice (some ⟨w.heap.size, 0, none⟩) n n, w.alloc (.cells cells'.toList.toArray e), ⟨w.heap.size, 0, 0, cells'.toList.length, de.size⟩, ?_, fun g => new_slice (Nat.le_refl _) (by rw [hlen]; exact Nat.le_refl _), p1, rfl, p2, p3, p4, p5, p6⟩
                simp only [Instr.buildSlice, Sem.run_bind, ht.run_und, hdd, Result.andThen_ok, hte.run_size]
                rw [Sem.run_ite, if_neg (by omega)]
                by_cases h0 : n * de.size = 0
                · have e0 : ((Array.range (n * de.size)).map fun x => (#[] : Array Value)[x % (#[] : Array Value).size]!) = ((Array.range (n * de.size)).map fun i => zv.cells[i % zv.cells.size]!) := by rw [h0]; simp
                  rw [Sem.run_ite, if_pos h0]
                  simp only [Sem.run_bind, Sem.run_pure, Result.andThen_ok]
                  rw [e0, a]
                  simp only [Sem.run_bind, newRow, run_new, Result.andThen_ok, Sem.run_pure]
                · rw [Sem.run_ite, if_neg h0]
                  simp only [Sem.run_bind, h1, Result.andThen_ok, Sem.run_pure]
                  rw [a]
                  simp only [Sem.run_bind, newRow, run_new, Result.andThen_ok, Sem.run_pure]
              · cases hl
        · cases hl
      · cases hl
    · cases hl
  · cases hl

theorem makeSlice_late (hE : TysOk E) {t : TypeId} {l c v : AV} {A' : AW} (hl : makeSliceA E t l c A = .val v A') :
    ∃ F, A' = ⟨A.heap.set A.nxt F, Nat.succ A.nxt⟩ ∧
      ∀ μ w cl cc, VRel μ l cl → VRel μ c cc → ∃ mk, v = mk A.nxt ∧ NewAns E μ w (Instr.makeSlice t cl cc) mk F := by
  unfold makeSliceA at hl
  split at hl
  · rename_i k l k' c
    split at hl
    · rename_i d hd
      split at hl
      · rename_i e hdd
        split at hl
        · rename_i de hde
          split at hl
          · rename_i z hz
            cases hb1 : Nat.ble l c <;> rw [hb1] at hl <;> try (cases hl; done)
            cases hb2 : Nat.ble c 1048576 <;> rw [hb2] at hl <;> try (cases hl; done)
            cases hb3 : Nat.ble de.bytes 1048576 <;> rw [hb3] at hl <;> try (cases hl; done)
            cases hb4 : Nat.ble 1 de.size <;> rw [hb4] at hl <;> try (cases hl; done)
            simp only [cond_true] at hl
            cases hl
            refine ⟨.cells 0 false de.size (repeatL z c), rfl, fun μ w cl cc q1 q2 => ⟨fun g => .slice g 0 0 l c true, rfl, ?_⟩⟩
            cases q1; cases q2
            have i1 : l ≤ c := Nat.le_of_ble_eq_true hb1
            have i2 : c ≤ 1048576 := Nat.le_of_ble_eq_true hb2
            have i3 : de.bytes ≤ 1048576 := Nat.le_of_ble_eq_true hb3
            have i4 : 1 ≤ de.size := Nat.le_of_ble_eq_true hb4
            have ht := hE t d hd
            have hte := hE e de hde
            obtain ⟨zv, z1, z2, z3, hsz, _⟩ := hte.run_zero w hz μ
            obtain ⟨i, j1, j2, j3⟩ := hte.run_info w
            have hr := repeat_rel (n := c) z2 (by omega)
            rw [hsz] at hr
            obtain ⟨p1, p2, p3, p4, p5, p6⟩ := newRow_parts (w := w) e de.size hr (repeat_one z3 c)
            have hmul : de.bytes * c ≤ 1099511627776 := by
              have := Nat.mul_le_mul i3 i2
              omega
            have hmul' : (i.bytes : Int) * (c : Int) ≤ 281474976710656 := by
              rw [j3]; omega
            have hmul2 : (i.bytes : Int) * (l : Int) ≤ 281474976710656 := by
              have := Nat.mul_le_mul_left de.bytes i1
              rw [j3]; omega
            have wl : IntKind.i64.wrap (Int.ofNat l) = (l : Int) := IntWalk.i64_in _ (by simp only [Int.ofNat_eq_natCast]; omega)
            have wc : IntKind.i64.wrap (Int.ofNat c) = (c : Int) := IntWalk.i64_in _ (by simp only [Int.ofNat_eq_natCast]; omega)
            refine ⟨.slice (some ⟨w.heap.size, 0, none⟩) l c, _, _, ?_, fun g => new_slice i1 (by simp), p1, rfl, p2, p3, p4, p5, p6⟩
            simp only [Instr.makeSlice, Sem.run_bind, ht.run_und, hdd, Result.andThen_ok, asInt, asIntOf, Sem.run_pure, j1, wl, wc]
            rw [Sem.run_ite, if_neg (by simp; omega)]
            simp only [Sem.run_bind, run_askRoom, Result.andThen_ok, hte.run_size, Int.toNat_natCast]
            by_cases h0 : c * de.size = 0
            · have e0 : ((Array.range (c * de.size)).map fun x => (#[] : Array Value)[x % (#[] : Array Value).size]!) = ((Array.range (c * de.size)).map fun i => zv.cells[i % zv.cells.size]!) := by rw [h0]; simp
              rw [Sem.run_ite, if_pos h0]
              simp only [Sem.run_bind, Sem.run_pure, Result.andThen_ok, newRow, run_new]
              rw [e0]
            · rw [Sem.run_ite, if_neg h0]
              simp only [Sem.run_bind, Sem.run_pure, Result.andThen_ok, newRow, run_new, z1]
          · cases hl
        · cases hl
      · cases hl
    · cases hl
  · cases hl

theorem makeMap_late (t : TypeId) (μ : Mp) (w : World) : NewAns E μ w (Instr.makeMap t none) (fun g => .map g) (.map []) :=
  ⟨.map (some w.heap.size), w.alloc (.map #[] 0), ⟨w.heap.size, 0, 0, 0, 0⟩, rfl, fun g => VRel.map (Mp.put_same _ _ _ _), ⟨rfl, rfl, rfl⟩, rfl, alloc_size w _, fun b hb => alloc_old w _ b hb, rfl, rfl, #[], 0, alloc_new w _, rfl, by simp⟩

/-- **AN OPERATION THAT MAKES MEMORY**: what the evaluator does with it, and that the model may do it later. -/
theorem makes_late (hE : EnvOk E) {o : Oper} {F : Fr} {v : AV} {A' : AW} (hm : makes o.op = true) (hl : execA E F o A = .val v A') :
    ∃ Fm, A' = ⟨A.heap.set A.nxt Fm, Nat.succ A.nxt⟩ ∧ ∀ (F2 : Fr), (∀ x ∈ o.op.operands, ev F2 x = ev F x) →
      ∀ (μ : Mp) (w : World) (a : Act), (∀ x, VRel μ (ev F2 x) (a.eval x)) → ∃ mk s, v = mk A.nxt ∧ NewAns E μ w s mk Fm ∧ execOp a.eval o = (do pure (.value (← s))) := by
  unfold execA at hl
  split at hl
  · rename_i c ho; simp [ho, makes] at hm
  rename_i hnc
  clear hnc
  replace hl := liftR_val hl
  obtain ⟨dst, op, type, pos, after, guard⟩ := o
  cases op <;> simp only [makes, reduceCtorEq, Bool.false_eq_true] at hm
  case alloc t =>
    simp only [execV] at hl
    split at hl
    · rename_i d hd
      split at hl
      · rename_i z hz
        cases hl
        exact ⟨_, rfl, fun F2 _ μ w a _ => ⟨fun g => .ptr g 0 0, _, rfl, alloc_late hE.ty hd hz μ w, by simp only [execOp]⟩⟩
      · cases hl
    · cases hl
  case box t x =>
    simp only [execV] at hl
    split at hl
    · rename_i d cs hd hc
      cases hl
      refine ⟨_, rfl, fun F2 hF2 μ w a ha => ⟨fun g => .ptr g 0 0, _, rfl, box_late (t := t) hE.ty (ha x) ?_ w, by simp only [execOp]⟩⟩
      rw [hF2 x (by simp [Op.operands])]
      exact hc
    · cases hl
  case buildSlice t n ps =>
    simp only [execV] at hl
    obtain ⟨Fm, h1, h2⟩ := buildSlice_late hE.ty hl
    refine ⟨Fm, h1, fun F2 hF2 μ w a ha => ?_⟩
    have e : partsA F ps.toList = partsA F2 ps.toList := by
      have : ∀ l : List (Nat × Operand), (∀ p ∈ l, p ∈ ps.toList) → partsA F l = partsA F2 l := fun l => by
        induction l with
        | nil => intro _; rfl
        | cons p l ih =>
          intro hp
          obtain ⟨i, x⟩ := p
          simp only [partsA]
          rw [ih (fun q hq => hp q (List.mem_cons_of_mem _ hq)), hF2 x (by
            have h0 : (i, x) ∈ ps := by simpa using hp (i, x) (List.mem_cons_self ..)
            simp [Op.operands]
            exact ⟨i, h0⟩)]
      exact this _ fun p hp => hp
    obtain ⟨mk, h3, h4⟩ := h2 μ w (ps.map fun (i, x) => (i, a.eval x)) (by rw [Array.toList_map, e]; exact partsA_rel ha ps.toList)
    exact ⟨mk, _, h3, h4, by simp only [execOp]⟩
  case makeMap t r =>
    cases r with
    | none =>
      simp only [execV] at hl
      cases hl
      exact ⟨_, rfl, fun F2 _ μ w a _ => ⟨fun g => .map g, _, rfl, makeMap_late t μ w, by simp only [execOp, Option.map_none]⟩⟩
    | some _ => simp [execV] at hl
  case makeSlice t l c =>
    simp only [execV] at hl
    obtain ⟨Fm, h1, h2⟩ := makeSlice_late hE.ty hl
    refine ⟨Fm, h1, fun F2 hF2 μ w a ha => ?_⟩
    obtain ⟨mk, h3, h4⟩ := h2 μ w _ _ (by rw [← hF2 l (by simp [Op.operands])]; exact ha l) (by rw [← hF2 c (by simp [Op.operands])]; exact ha c)
    exact ⟨mk, _, h3, h4, by simp only [execOp]⟩

end
end Go.AE
