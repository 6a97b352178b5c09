/-
  MEMORY THAT IS MADE LATER THAN THE EVALUATOR MAKES IT.
  WHAT AN OPERATION THAT DOES NOT ACT HANGS ON.
-/
import Derived.Test.YtiecclkgjcnaoaaGreatAiGo
namespace Go.AE
set_option linter.unusedVariables false
set_option linter.unusedSimpArgs false
variable [Rho]
def NewAns (E : Env) (μ : Mp) (w : World) (s : Sem Value) (mk : Nat → AV) (F : AFam) : Prop :=
  ∃ cv w1 p, s.run E.P w = .ok cv w1 ∧ (∀ g, VRel (μ.put g 0 p) (mk g) cv) ∧ Side w w1 ∧ p.c = w.heap.size ∧ w1.heap.size = w.heap.size + 1 ∧
    (∀ b, b < w.heap.size → w1.heap[b]? = w.heap[b]?) ∧ F.cur = 0 ∧ F.ro = false ∧ CR μ F p w1
section
variable {E : Env} {base : Nat} {μ : Mp} {A : AW} {w w1 : World}
theorem Step.late (h : Rel base μ A w) {g : Nat} {F : AFam} {p : Pl} (hg : A.heap.get g = some F) (hn : ∀ t, μ g t = none) (hs : Side w w1) (hc : p.c = w.heap.size) (hz : w1.heap.size = w.heap.size + 1)
    (hold : ∀ b, b < w.heap.size → w1.heap[b]? = w.heap[b]?) (hcur : F.cur = 0) (hCR : CR μ F p w1) :
    Rel base (μ.put g 0 p) A w1 ∧ (∀ f t q, μ f t = some q → (μ.put g 0 p) f t = some q) := by
  have hkeep : ∀ f t q, μ f t = some q → (μ.put g 0 p) f t = some q := fun f t q hq => by
    rw [Mp.put_ne]
    · exact hq
    · by_cases e : f = g
      · subst e; rw [hn t] at hq; cases hq
      · exact .inl e
  have hinv : ∀ f t q, (μ.put g 0 p) f t = some q → (f = g ∧ t = 0 ∧ q = p) ∨ (f ≠ g ∧ μ f t = some q) := fun f t q hq => by
    unfold Mp.put at hq
    split at hq
    · rename_i e; cases hq; exact .inl ⟨e.1, e.2, rfl⟩
    · rename_i e
      refine .inr ⟨fun e' => ?_, hq⟩
      subst e'
      rw [hn t] at hq
      cases hq
  refine ⟨⟨by have := h.base_le; omega, h.lt, ?_, ?_, ?_, ?_⟩, hkeep⟩
  · intro f t q hq
    rcases hinv f t q hq with ⟨rfl, rfl, rfl⟩ | ⟨e, hq⟩
    · exact ⟨by omega, F, hg, by omega⟩
    · obtain ⟨a, F', b, c⟩ := h.dom _ _ _ hq
      exact ⟨by omega, F', b, c⟩
  · intro f f' F' t t' q q' hF' hro hq hq' hcc
    rcases hinv f t q hq with ⟨rfl, rfl, rfl⟩ | ⟨e, hq1⟩ <;> rcases hinv f' t' q' hq' with ⟨rfl, rfl, rfl⟩ | ⟨e', hq1'⟩
    · rfl
    · have := (h.dom _ _ _ hq1').1; omega
    · have := (h.dom _ _ _ hq1).1; omega
    · exact h.inj f f' F' t t' q q' hF' hro hq1 hq1' hcc
  · intro f F' t q hF' hq hro
    rcases hinv f t q hq with ⟨rfl, rfl, rfl⟩ | ⟨e, hq1⟩
    · have := h.base_le; omega
    · exact h.own f F' t q hF' hq1 hro
  · intro f F' q hF' hq
    rcases hinv f F'.cur q hq with ⟨rfl, e0, rfl⟩ | ⟨e, hq1⟩
    · rw [hg] at hF'
      cases hF'
      exact hCR.mono hkeep rfl
    · exact (h.con f F' q hF' hq1).mono hkeep (hold _ (h.dom _ _ _ hq1).1)
theorem newRow_parts {cs : List AV} {vs : List Value} (elem : TypeId) (es : Nat) (hr : LRel μ cs vs) (h1 : ∀ x ∈ cs, x.one = true) :
    Side w (w.alloc (.cells vs.toArray elem)) ∧ (w.alloc (.cells vs.toArray elem)).heap.size = w.heap.size + 1 ∧ (∀ b, b < w.heap.size → (w.alloc (.cells vs.toArray elem)).heap[b]? = w.heap[b]?) ∧
      (AFam.cells 0 false es cs).cur = 0 ∧ (AFam.cells 0 false es cs).ro = false ∧ CR μ (.cells 0 false es cs) ⟨w.heap.size, 0, 0, vs.length, es⟩ (w.alloc (.cells vs.toArray elem)) := by
  refine ⟨⟨rfl, rfl, rfl⟩, alloc_size w _, fun b hb => alloc_old w _ b hb, rfl, rfl, vs.toArray, elem, (0, 0), alloc_new w _, by simp, rfl, fun _ => rfl, fun i v hv _ => ?_⟩
  have := lrel_hrel hr h1 [] i v hv
  simpa using this
theorem alloc_late (hE : TysOk E) {t : TypeId} {d : ATy} {z : List AV} (hd : E.tys.get t = some d) (hz : d.zero = some z) (μ : Mp) (w : World) :
    NewAns E μ w (Instr.alloc t true (.tuple #[])) (fun g => .ptr g 0 0) (.cells 0 false (esOf E d) z) := by
  have ht := hE t d hd
  obtain ⟨zv, h1, h2, h3, _⟩ := ht.run_zero w hz μ
  refine ⟨.pointer (some ⟨w.heap.size, 0, none⟩), w.alloc (.cells zv.cells.toList.toArray t), ⟨w.heap.size, 0, 0, zv.cells.toList.length, esOf E d⟩, ?_, fun g => .ptr (Mp.put_same _ _ _ _) rfl, ?_⟩
  · simp only [Instr.alloc, Sem.run_bind, h1, Result.andThen_ok, newVar, newRow, run_new, Sem.run_pure]
  · obtain ⟨a, b, c, d', e, f⟩ := newRow_parts (w := w) t (esOf E d) h2 h3
    exact ⟨a, rfl, b, c, d', e, f⟩
theorem box_late (hE : TysOk E) {t : TypeId} {d : ATy} {x : AV} {cs : List AV} {cx : Value} (hx : VRel μ x cx) (hc : cellsOf x = some cs) (w : World) :
    NewAns E μ w (Instr.box t cx) (fun g => .ptr g 0 0) (.cells 0 false (esOf E d) cs) := by
  obtain ⟨h2, h3⟩ := cellsOf_rel hx hc
  refine ⟨.pointer (some ⟨w.heap.size, 0, none⟩), w.alloc (.cells cx.cells.toList.toArray t), ⟨w.heap.size, 0, 0, cx.cells.toList.length, esOf E d⟩, ?_, fun g => .ptr (Mp.put_same _ _ _ _) rfl, ?_⟩
  · simp only [Instr.box, Sem.run_bind, newVar, newRow, run_new, Result.andThen_ok, Sem.run_pure]
  · obtain ⟨a, b, c, d', e, f⟩ := newRow_parts (w := w) t (esOf E d) h2 h3
    exact ⟨a, rfl, b, c, d', e, f⟩
theorem buildSlice_late (hE : TysOk E) {t : TypeId} {n : Nat} {ps : List (Nat × AV)} {v : AV} {A' : AW} (hl : buildSliceA E t n ps A = .val v A') :
    ∃ F, A' = ⟨A.heap.set A.nxt F, Nat.succ A.nxt⟩ ∧
      ∀ μ w (qs : Array (Nat × Value)), PRel μ ps qs.toList → ∃ mk, v = mk A.nxt ∧ NewAns E μ w (Instr.buildSlice t n qs) mk F := by
  unfold buildSliceA at hl
  split at hl
  · rename_i d hd
    split at hl
    · rename_i e hdd
      split at hl
      · rename_i de hde
        split at hl
        · rename_i z hz
          cases hb : Nat.ble (Nat.mul n de.size) 4096
          · rw [hb] at hl; cases hl
          · cases hb1 : Nat.ble 1 de.size
            · rw [hb, hb1] at hl; cases hl
            · rw [hb, hb1] at hl
              simp only [cond_true] at hl
              have hle : n * de.size ≤ 4096 := Nat.le_of_ble_eq_true hb
              have hpos : 1 ≤ de.size := Nat.le_of_ble_eq_true hb1
              split at hl
              · rename_i cs hcs
                cases hl
                refine ⟨.cells 0 false de.size cs, rfl, fun μ w qs hp => ⟨fun g => .slice g 0 0 n n true, rfl, ?_⟩⟩
                have ht := hE t d hd
                have hte := hE e de hde
                obtain ⟨zv, h1, h2, h3, hsz, _⟩ := hte.run_zero w hz μ
                have hr := repeat_rel (n := n) h2 (by omega)
                rw [hsz] at hr
                obtain ⟨cells', a, b, c⟩ := fill_sound (pl' := fun i => some (i * de.size, de.size)) (fun i q hq => hq) hcs hp hr (repeat_one h3 n)
                have hlen : cells'.toList.length = n * de.size := by rw [← b.1, fillA_len hcs, repeatL_len, hsz]
                obtain ⟨p1, p2, p3, p4, p5, p6⟩ := newRow_parts (w := w) e de.size b c
                refine ⟨.slice (some ⟨w.heap.size, 0, none⟩) n n, w.alloc (.cells cells'.toList.toArray e), ⟨w.heap.size, 0, 0, cells'.toList.length, de.size⟩, ?_, fun g => new_slice (Nat.le_refl _) (by rw [hlen]; exact Nat.le_refl _), p1, rfl, p2, p3, p4, p5, p6⟩
                simp only [Instr.buildSlice, Sem.run_bind, ht.run_und, hdd, Result.andThen_ok, hte.run_size]
                rw [Sem.run_ite, if_neg (by omega)]
                by_cases h0 : n * de.size = 0
                · have e0 : ((Array.range (n * de.size)).map fun x => (#[] : Array Value)[x % (#[] : Array Value).size]!) = ((Array.range (n * de.size)).map fun i => zv.cells[i % zv.cells.size]!) := by rw [h0]; simp
                  rw [Sem.run_ite, if_pos h0]
                  simp only [Sem.run_bind, Sem.run_pure, Result.andThen_ok]
                  rw [e0, a]
                  simp only [Sem.run_bind, newRow, run_new, Result.andThen_ok, Sem.run_pure]
                · rw [Sem.run_ite, if_neg h0]
                  simp only [Sem.run_bind, h1, Result.andThen_ok, Sem.run_pure]
                  rw [a]
                  simp only [Sem.run_bind, newRow, run_new, Result.andThen_ok, Sem.run_pure]
              · cases hl
        · cases hl
      · cases hl
    · cases hl
  · cases hl
theorem makeSlice_late (hE : TysOk E) {t : TypeId} {l c v : AV} {A' : AW} (hl : makeSliceA E t l c A = .val v A') :
    ∃ F, A' = ⟨A.heap.set A.nxt F, Nat.succ A.nxt⟩ ∧
      ∀ μ w cl cc, VRel μ l cl → VRel μ c cc → ∃ mk, v = mk A.nxt ∧ NewAns E μ w (Instr.makeSlice t cl cc) mk F := by
  unfold makeSliceA at hl
  split at hl
  · rename_i k l k' c
    split at hl
    · rename_i d hd
      split at hl
      · rename_i e hdd
        split at hl
        · rename_i de hde
          split at hl
          · rename_i z hz
            cases hb1 : Nat.ble l c <;> rw [hb1] at hl <;> try (cases hl; done)
            cases hb2 : Nat.ble c 1048576 <;> rw [hb2] at hl <;> try (cases hl; done)
            cases hb3 : Nat.ble de.bytes 1048576 <;> rw [hb3] at hl <;> try (cases hl; done)
            cases hb4 : Nat.ble 1 de.size <;> rw [hb4] at hl <;> try (cases hl; done)
            simp only [cond_true] at hl
            cases hl
            refine ⟨.cells 0 false de.size (repeatL z c), rfl, fun μ w cl cc q1 q2 => ⟨fun g => .slice g 0 0 l c true, rfl, ?_⟩⟩
            cases q1; cases q2
            have i1 : l ≤ c := Nat.le_of_ble_eq_true hb1
            have i2 : c ≤ 1048576 := Nat.le_of_ble_eq_true hb2
            have i3 : de.bytes ≤ 1048576 := Nat.le_of_ble_eq_true hb3
            have i4 : 1 ≤ de.size := Nat.le_of_ble_eq_true hb4
            have ht := hE t d hd
            have hte := hE e de hde
            obtain ⟨zv, z1, z2, z3, hsz, _⟩ := hte.run_zero w hz μ
            obtain ⟨i, j1, j2, j3⟩ := hte.run_info w
            have hr := repeat_rel (n := c) z2 (by omega)
            rw [hsz] at hr
            obtain ⟨p1, p2, p3, p4, p5, p6⟩ := newRow_parts (w := w) e de.size hr (repeat_one z3 c)
            have hmul : de.bytes * c ≤ 1099511627776 := by
              have := Nat.mul_le_mul i3 i2
              omega
            have hmul' : (i.bytes : Int) * (c : Int) ≤ 281474976710656 := by
              rw [j3]; omega
            have hmul2 : (i.bytes : Int) * (l : Int) ≤ 281474976710656 := by
              have := Nat.mul_le_mul_left de.bytes i1
              rw [j3]; omega
            have wl : IntKind.i64.wrap (Int.ofNat l) = (l : Int) := IntWalk.i64_in _ (by simp only [Int.ofNat_eq_natCast]; omega)
            have wc : IntKind.i64.wrap (Int.ofNat c) = (c : Int) := IntWalk.i64_in _ (by simp only [Int.ofNat_eq_natCast]; omega)
            refine ⟨.slice (some ⟨w.heap.size, 0, none⟩) l c, _, _, ?_, fun g => new_slice i1 (by simp), p1, rfl, p2, p3, p4, p5, p6⟩
            simp only [Instr.makeSlice, Sem.run_bind, ht.run_und, hdd, Result.andThen_ok, asInt, asIntOf, Sem.run_pure, j1, wl, wc]
            rw [Sem.run_ite, if_neg (by simp; omega)]
            simp only [Sem.run_bind, run_askRoom, Result.andThen_ok, hte.run_size, Int.toNat_natCast]
            by_cases h0 : c * de.size = 0
            · have e0 : ((Array.range (c * de.size)).map fun x => (#[] : Array Value)[x % (#[] : Array Value).size]!) = ((Array.range (c * de.size)).map fun i => zv.cells[i % zv.cells.size]!) := by rw [h0]; simp
              rw [Sem.run_ite, if_pos h0]
              simp only [Sem.run_bind, Sem.run_pure, Result.andThen_ok, newRow, run_new]
              rw [e0]
            · rw [Sem.run_ite, if_neg h0]
              simp only [Sem.run_bind, Sem.run_pure, Result.andThen_ok, newRow, run_new, z1]
          · cases hl
        · cases hl
      · cases hl
    · cases hl
  · cases hl
theorem makeMap_late (t : TypeId) (μ : Mp) (w : World) : NewAns E μ w (Instr.makeMap t none) (fun g => .map g) (.map []) :=
  ⟨.map (some w.heap.size), w.alloc (.map #[] 0), ⟨w.heap.size, 0, 0, 0, 0⟩, rfl, fun g => VRel.map (Mp.put_same _ _ _ _), ⟨rfl, rfl, rfl⟩, rfl, alloc_size w _, fun b hb => alloc_old w _ b hb, rfl, rfl, #[], 0, alloc_new w _, rfl, by simp⟩
theorem makes_late (hE : EnvOk E) {o : Oper} {F : Fr} {v : AV} {A' : AW} (hm : makes o.op = true) (hl : execA E F o A = .val v A') :
    ∃ Fm, A' = ⟨A.heap.set A.nxt Fm, Nat.succ A.nxt⟩ ∧ ∀ (F2 : Fr), (∀ x ∈ o.op.operands, ev F2 x = ev F x) →
      ∀ (μ : Mp) (w : World) (a : Act), (∀ x, VRel μ (ev F2 x) (a.eval x)) → ∃ mk s, v = mk A.nxt ∧ NewAns E μ w s mk Fm ∧ execOp a.eval o = (do pure (.value (← s))) := by
  unfold execA at hl
  split at hl
  · rename_i c ho; simp [ho, makes] at hm
  rename_i hnc
  clear hnc
  replace hl := liftR_val hl
  obtain ⟨dst, op, type, pos, after, guard⟩ := o
  cases op <;> simp only [makes, reduceCtorEq, Bool.false_eq_true] at hm
  case alloc t =>
    simp only [execV] at hl
    split at hl
    · rename_i d hd
      split at hl
      · rename_i z hz
        cases hl
        exact ⟨_, rfl, fun F2 _ μ w a _ => ⟨fun g => .ptr g 0 0, _, rfl, alloc_late hE.ty hd hz μ w, by simp only [execOp]⟩⟩
      · cases hl
    · cases hl
  case box t x =>
    simp only [execV] at hl
    split at hl
    · rename_i d cs hd hc
      cases hl
      refine ⟨_, rfl, fun F2 hF2 μ w a ha => ⟨fun g => .ptr g 0 0, _, rfl, box_late (t := t) hE.ty (ha x) ?_ w, by simp only [execOp]⟩⟩
      rw [hF2 x (by simp [Op.operands])]
      exact hc
    · cases hl
  case buildSlice t n ps =>
    simp only [execV] at hl
    obtain ⟨Fm, h1, h2⟩ := buildSlice_late hE.ty hl
    refine ⟨Fm, h1, fun F2 hF2 μ w a ha => ?_⟩
    have e : partsA F ps.toList = partsA F2 ps.toList := by
      have : ∀ l : List (Nat × Operand), (∀ p ∈ l, p ∈ ps.toList) → partsA F l = partsA F2 l := fun l => by
        induction l with
        | nil => intro _; rfl
        | cons p l ih =>
          intro hp
          obtain ⟨i, x⟩ := p
          simp only [partsA]
          rw [ih (fun q hq => hp q (List.mem_cons_of_mem _ hq)), hF2 x (by
            have h0 : (i, x) ∈ ps := by simpa using hp (i, x) (List.mem_cons_self ..)
            simp [Op.operands]
            exact ⟨i, h0⟩)]
      exact this _ fun p hp => hp
    obtain ⟨mk, h3, h4⟩ := h2 μ w (ps.map fun (i, x) => (i, a.eval x)) (by rw [Array.toList_map, e]; exact partsA_rel ha ps.toList)
    exact ⟨mk, _, h3, h4, by simp only [execOp]⟩
  case makeMap t r =>
    cases r with
    | none =>
      simp only [execV] at hl
      cases hl
      exact ⟨_, rfl, fun F2 _ μ w a _ => ⟨fun g => .map g, _, rfl, makeMap_late t μ w, by simp only [execOp, Option.map_none]⟩⟩
    | some _ => simp [execV] at hl
  case makeSlice t l c =>
    simp only [execV] at hl
    obtain ⟨Fm, h1, h2⟩ := makeSlice_late hE.ty hl
    refine ⟨Fm, h1, fun F2 hF2 μ w a ha => ?_⟩
    obtain ⟨mk, h3, h4⟩ := h2 μ w _ _ (by rw [← hF2 l (by simp [Op.operands])]; exact ha l) (by rw [← hF2 c (by simp [Op.operands])]; exact ha c)
    exact ⟨mk, _, h3, h4, by simp only [execOp]⟩
end
end Go.AE
namespace Go.AE
set_option linter.unusedVariables false
set_option linter.unusedSimpArgs false
variable [Rho]
def OpR.setW : OpR → AW → OpR
  | .fail n, _ => .fail n
  | .val v _, B => .val v B
section
variable {E : Env} {A B : AW}
omit [Rho] in
theorem retI_setW (k : IntKind) (n : Int) : retI k n B = (retI k n A).setW B := by
  unfold retI
  cases n <;> simp only [] <;> (rename_i m; cases Nat.ble 0 m <;> rfl)
omit [Rho] in
theorem retB_setW (b : Bool) : retB b B = (retB b A).setW B := by cases b <;> rfl
omit [Rho] in
theorem quiet_setW (s : Sem Value) : quiet E s B = (quiet E s A).setW B := by
  unfold quiet
  cases runQ E.P s with
  | none => rfl
  | some v => simp only []; cases back v <;> rfl
omit [Rho] in
theorem intOp_setW (op : BinOp) (k : IntKind) (a : Int) (k' : IntKind) (b : Int) : intOp E op k a k' b B = (intOp E op k a k' b A).setW B := by
  unfold intOp
  cases kindEq k k'
  · exact quiet_setW _
  · cases op <;> first | exact retI_setW _ _ | exact retB_setW _ | exact quiet_setW _
omit [Rho] in
theorem strOp_setW (op : BinOp) (a b : List Nat) : strOp op a b B = (strOp op a b A).setW B := by
  unfold strOp
  cases op <;> first | exact retB_setW _ | rfl | (cases Nat.ble (Nat.add (len a) (len b)) 4611686018427387904 <;> rfl)
omit [Rho] in
theorem rngA_setW (op : BinOp) (k : IntKind) (lo hi : Nat) (k' : IntKind) (b : Nat) : rngA op k lo hi k' b B = (rngA op k lo hi k' b A).setW B := by
  unfold rngA
  cases op <;> simp only [Bool.cond_eq_ite] <;> (repeat' split) <;> rfl
omit [Rho] in
theorem bitsA_setW (op : BinOp) (k : IntKind) (l : List Bt) (k' : IntKind) (b : Nat) : bitsA op k l k' b B = (bitsA op k l k' b A).setW B := by
  cases op
  case shr => simp only [bitsA, Bool.cond_eq_ite] <;> (repeat' split) <;> rfl
  case shl => simp only [bitsA, Bool.cond_eq_ite] <;> (repeat' split) <;> rfl
  case and => simp only [bitsA, Bool.cond_eq_ite] <;> (repeat' split) <;> rfl
  case or => simp only [bitsA, Bool.cond_eq_ite] <;> (repeat' split) <;> rfl
  case xor => simp only [bitsA, Bool.cond_eq_ite] <;> (repeat' split) <;> rfl
  all_goals (simp only [bitsA]; exact rngA_setW ..)
omit [Rho] in
theorem restA_setW (op : BinOp) (x y : AV) : restA op x y B = (restA op x y A).setW B := by
  unfold restA
  split
  · rename_i k m r k' b
    split
    · cases (kindEq k k' && (Nat.blt 0 b && Nat.beq (Nat.mod m b) 0))
      · rfl
      · simp only [cond_true]
        exact retI_setW _ _
    · rfl
  all_goals first
    | exact rngA_setW ..
    | exact bitsA_setW ..
    | rfl
    | (cases op <;> simp only [Bool.cond_eq_ite] <;> (repeat' split) <;> first | rfl | exact retI_setW _ _)
    | (cases op <;> simp only [Bool.cond_eq_ite] <;> (repeat' split) <;> rfl)
omit [Rho] in
theorem restC_setW (d : TypeDesc) (x : AV) : restC d x B = (restC d x A).setW B := by
  unfold restC restK
  simp only [Bool.cond_eq_ite]
  repeat' split
  all_goals rfl
omit [Rho] in
theorem binA_setW (op : BinOp) (t : TypeId) (x y : AV) : binA E op t x y B = (binA E op t x y A).setW B := by
  unfold binA
  split
  · exact intOp_setW _ _ _ _ _
  · exact strOp_setW _ _ _
  · repeat' split
    all_goals first | exact retB_setW _ | rfl
  · split
    · split
      · rename_i k b hn _ d hd
        cases Nat.beq (kindD d.desc) k
        · rfl
        · simp only [cond_true]
          split <;> first | exact retB_setW _ | rfl
      · rfl
    · split
      · exact quiet_setW _
      · exact restA_setW ..
omit [Rho] in
theorem unA_setW (op : UnOp) (x : AV) : unA E op x B = (unA E op x A).setW B := by
  unfold unA
  split
  · exact retB_setW _
  · exact retI_setW _ _
  · split
    · exact quiet_setW _
    · rfl
omit [Rho] in
theorem buildA_setW (t : TypeId) (ps : List (Nat × AV)) : buildA E t ps B = (buildA E t ps A).setW B := by
  unfold buildA
  repeat' split
  all_goals rfl
omit [Rho] in
theorem fieldAddrA_setW (s : TypeId) (x : AV) (i : Nat) : fieldAddrA E s x i B = (fieldAddrA E s x i A).setW B := by
  unfold fieldAddrA
  repeat' split
  all_goals first | rfl | (rename_i df _; cases Nat.ble 1 df.size <;> rfl)
omit [Rho] in
theorem partA_setW (t : TypeId) (cs : List AV) (off : Nat) : partA E t cs off B = (partA E t cs off A).setW B := by
  unfold partA
  split
  · rename_i d _
    cases d.agg <;> simp only [cond_true, cond_false] <;> split <;> rfl
  · rfl
omit [Rho] in
theorem fieldA_setW (t : TypeId) (x : AV) (i : Nat) : fieldA E t x i B = (fieldA E t x i A).setW B := by
  unfold fieldA
  repeat' split
  all_goals first | rfl | exact partA_setW _ _ _
omit [Rho] in
theorem indexAddrA_setW (t : TypeId) (x i : AV) : indexAddrA E t x i B = (indexAddrA E t x i A).setW B := by
  unfold indexAddrA
  split
  · rename_i i d hi
    split
    · split
      · rename_i n _ _ _ _ _
        cases Nat.blt i _ <;> rfl
      · rfl
    · split
      · cases Nat.blt i _ <;> rfl
      · rfl
    · rfl
  · rfl
omit [Rho] in
theorem indexA_setW (t : TypeId) (x i : AV) : indexA E t x i B = (indexA E t x i A).setW B := by
  unfold indexA
  split
  · rename_i i d hi
    split
    · split
      · split <;> rfl
      · rfl
    · split
      · cases Nat.blt i _
        · rfl
        · exact partA_setW _ _ _
      · rfl
    · rfl
  · rfl
omit [Rho] in
theorem setW_val {r s : OpR} {v : AV} {A' : AW} (h : s = r.setW B) (hr : r = .val v A') : s = .val v B := by
  subst hr; exact h
def Ext (A B : AW) : Prop := ∀ f x, A.heap.get f = some x → B.heap.get f = some x
omit [Rho] in
theorem readCells_ext (hx : Ext A B) {f s o n : Nat} {l : List AV} (h : readCells A f s o n = some l) : readCells B f s o n = some l := by
  unfold readCells at h ⊢
  split at h
  · rename_i hf
    rw [hx _ _ hf]
    exact h
  · cases h
omit [Rho] in
theorem loadA_ext (hx : Ext A B) {t : TypeId} {a v : AV} {A' : AW} (h : loadA E t a A = .val v A') : loadA E t a B = .val v B ∧ A' = A := by
  unfold loadA at h ⊢
  split at h
  · split at h
    · rename_i d hd
      cases hb : d.agg <;> rw [hb] at h <;> simp only [cond_true, cond_false, hb] at h ⊢
      · split at h
        · rename_i cur ro es cs hf
          simp only [hx _ _ hf]
          cases hc : Nat.beq cur _ <;> rw [hc] at h <;> simp only [cond_true, cond_false, reduceCtorEq] at h ⊢
          split at h
          · cases h; exact ⟨rfl, rfl⟩
          · cases h
        · cases h
      · split at h
        · rename_i cs hr
          cases h
          rw [readCells_ext hx hr]
          exact ⟨rfl, rfl⟩
        · cases h
    · cases h
  · cases h
omit [Rho] in
theorem lookup_src (hx : Ext A B) {m : AV} {es : List (AV × AV)} : (match m with
          | .nilm => some []
          | .map f => (match A.heap.get f with
            | some (.map es) => some es
            | _ => none)
          | _ => none) = some es → (match m with
          | .nilm => some []
          | .map f => (match B.heap.get f with
            | some (.map es) => some es
            | _ => none)
          | _ => none) = some es := by
  intro h
  cases m <;> simp only [reduceCtorEq] at h
  · exact h
  rename_i f
  simp only
  cases hf : A.heap.get f with
  | none => rw [hf] at h; cases h
  | some x =>
    rw [hf] at h
    rw [hx _ _ hf]
    exact h
omit [Rho] in
theorem lookupA_ext (hx : Ext A B) {t : TypeId} {m k v : AV} {ok : Bool} {A' : AW} (h : lookupA E t m k ok A = .val v A') : lookupA E t m k ok B = .val v B ∧ A' = A := by
  unfold lookupA at h ⊢
  split at h
  · split at h
    · rename_i kt vt hdd
      cases hb : keyOk E kt k <;> rw [hb] at h <;> simp only [cond_true, cond_false, reduceCtorEq] at h ⊢
      split at h
      · rename_i es hes
        split
        · rename_i es2 h2
          have e2 : some es = some es2 := Eq.trans (lookup_src hx hes).symm h2
          cases e2
          split at h
          · cases h; exact ⟨by simp only [*], rfl⟩
          · split at h
            · split at h
              · cases h; exact ⟨by simp only [*], rfl⟩
              · cases h
            · cases h
          · cases h
        · rename_i h2
          exact absurd (Eq.trans (lookup_src hx hes).symm h2) (by simp)
      · cases h
    · cases h
  · cases h
omit [Rho] in
theorem lenA_ext (hx : Ext A B) {t : TypeId} {x v : AV} {A' : AW} (h : lenA E t x A = .val v A') : lenA E t x B = .val v B ∧ A' = A := by
  unfold lenA at h ⊢
  split at h
  · split at h <;> try (cases h; exact ⟨rfl, rfl⟩)
    · rename_i lo hi _
      cases hb : Nat.beq lo hi <;> rw [hb] at h <;> simp only [cond_true, cond_false] at h ⊢ <;> cases h <;> exact ⟨rfl, rfl⟩
    · split at h
      · rename_i hf
        rw [hx _ _ hf]
        cases h
        exact ⟨rfl, rfl⟩
      · cases h
    · cases h
  · cases h
omit [Rho] in
theorem sliceStr_setW (s : List Nat) (lo hi : Option AV) : sliceStr s lo hi B = (sliceStr s lo hi A).setW B := by
  unfold sliceStr
  repeat' split
  all_goals rfl
omit [Rho] in
theorem sliceNone_setW (x y : AV) (lo hi mx : Option AV) : sliceNone x y lo hi mx B = (sliceNone x y lo hi mx A).setW B := by
  unfold sliceNone
  repeat' split
  all_goals rfl
omit [Rho] in
theorem sliceArr_ext (hx : Ext A B) {f s o n es : Nat} {lo hi : Option AV} {v : AV} {A' : AW} (h : sliceArr f s o n es lo hi A = .val v A') : sliceArr f s o n es lo hi B = .val v B ∧ A' = A := by
  unfold sliceArr at h ⊢
  split at h
  · rename_i cur ro es' cs hf
    rw [hx _ _ hf]
    cases hb : (Nat.beq es' es && (Nat.beq cur s && (Nat.ble 1 es && Nat.ble (Nat.add o (Nat.mul n es)) (len cs)))) <;> rw [hb] at h <;> simp only [cond_true, cond_false, reduceCtorEq, hb] at h ⊢
    split at h
    · split at h
      · rename_i l hl
        cases hb2 : Nat.beq l n <;> rw [hb2] at h <;> simp only [cond_true, cond_false] at h ⊢ <;> cases h <;> exact ⟨rfl, rfl⟩
      · cases h
    · cases h
  · cases h
omit [Rho] in
theorem sliceRow_ext (hx : Ext A B) {f s o n c es : Nat} {ex : Bool} {lo hi mx : Option AV} {v : AV} {A' : AW} (h : sliceRow f s o n c es ex lo hi mx A = .val v A') : sliceRow f s o n c es ex lo hi mx B = .val v B ∧ A' = A := by
  unfold sliceRow at h ⊢
  split at h
  · rename_i cur ro es' cs hf
    rw [hx _ _ hf]
    cases hb : (Nat.beq es' es && Nat.beq cur s) <;> rw [hb] at h <;> simp only [cond_true, cond_false, reduceCtorEq, hb] at h ⊢
    split at h
    · split at h
      · split at h
        · rename_i l hl
          cases hb2 : Nat.beq l c <;> rw [hb2] at h <;> simp only [cond_true, cond_false] at h ⊢ <;> cases h <;> exact ⟨rfl, rfl⟩
        · cases h
      · cases h
    · split at h
      · split at h
        · split at h
          · rename_i m hi' heq1 _ _ _ _ l hl
            cases hb2 : Nat.beq l m <;> rw [hb2] at h <;> simp only [cond_true, cond_false] at h ⊢ <;> cases h <;> exact ⟨rfl, rfl⟩
          · cases h
        · cases h
      · cases h
  · cases h
omit [Rho] in
theorem setW_self {r : OpR} {v : AV} {A' : AW} (h : r = r.setW A) (hr : r = .val v A') : A' = A := by
  subst hr
  simp only [OpR.setW, OpR.val.injEq, true_and] at h
  exact h
omit [Rho] in
theorem sliceA_ext (hx : Ext A B) {t : TypeId} {x v : AV} {lo hi mx : Option AV} {A' : AW} (h : sliceA E t x lo hi mx A = .val v A') : sliceA E t x lo hi mx B = .val v B ∧ A' = A := by
  unfold sliceA at h ⊢
  split at h
  · cases h
  · split at h
    · split at h
      · exact ⟨setW_val (sliceStr_setW ..) h, setW_self (sliceStr_setW ..) h⟩
      · cases h
    · split at h
      · exact sliceArr_ext hx h
      · cases h
    · split at h
      · split at h
        · exact sliceRow_ext hx h
        · cases h
      · split at h
        · exact ⟨setW_val (sliceNone_setW ..) h, setW_self (sliceNone_setW ..) h⟩
        · cases h
      · split at h
        · exact ⟨setW_val (sliceNone_setW ..) h, setW_self (sliceNone_setW ..) h⟩
        · cases h
      · cases h
    · cases h
omit [Rho] in
theorem convertA_ext (hx : Ext A B) {src dst : TypeId} {x v : AV} {A' : AW} (h : convertA E src dst x A = .val v A') (hn : A'.nxt = A.nxt) : convertA E src dst x B = .val v B ∧ A' = A := by
  unfold convertA at h ⊢
  split at h
  · split at h
    · exact ⟨setW_val (retI_setW ..) h, setW_self (retI_setW ..) h⟩
    · cases h; exact ⟨rfl, rfl⟩
    · rename_i e s hd
      cases hb : isU8 E e <;> rw [hb] at h <;> simp only [cond_true, cond_false, reduceCtorEq] at h
      cases h
      exact absurd hn (by simp)
    · split at h
      · rename_i e he
        cases hb : isU8 E e <;> rw [hb] at h <;> simp only [cond_true, cond_false, reduceCtorEq] at h ⊢
        cases h; exact ⟨rfl, rfl⟩
      · cases h
    · split at h
      · rename_i e he
        cases hb : isU8 E e <;> rw [hb] at h <;> simp only [cond_true, cond_false, reduceCtorEq] at h ⊢
        cases h; exact ⟨rfl, rfl⟩
      · cases h
    · split at h
      · rename_i e he
        cases hb : isU8 E e <;> rw [hb] at h <;> simp only [cond_true, cond_false, reduceCtorEq] at h ⊢
        split at h
        · rename_i cs hr
          rw [readCells_ext hx hr]
          simp only
          split at h
          · cases h; exact ⟨rfl, rfl⟩
          · cases ha : allByte cs <;> rw [ha] at h <;> simp only [cond_true, cond_false, reduceCtorEq] at h ⊢
            cases h; exact ⟨rfl, rfl⟩
        · cases h
      · cases h
    · cases h; exact ⟨rfl, rfl⟩
    · exact ⟨setW_val (restC_setW ..) h, setW_self (restC_setW ..) h⟩
  · cases h
end
section
variable {E : Env} {A B : AW}
omit [Rho] in
theorem float_ext {F : Fr} {o : Oper} {v : AV} {A' : AW} (ha : acts o.op = false) (hm : makes o.op = false) (h : execA E F o A = .val v A') (hn : A'.nxt = A.nxt) (hx : reads o.op = true → Ext A B) : execA E F o B = .val v B ∧ A' = A := by
  obtain ⟨dst, op, type, pos, after, guard⟩ := o
  have lift : ∀ {r : OpR}, (r = .val v B ∧ A' = A) → (liftR r = .val v B ∧ A' = A) := fun h => ⟨by rw [h.1]; rfl, h.2⟩
  have two : ∀ {r s : OpR}, s = r.setW B → r = r.setW A → r = .val v A' → (s = .val v B ∧ A' = A) := fun h1 h2 h3 => ⟨setW_val h1 h3, setW_self h2 h3⟩
  cases op <;> simp only [acts, makes, reads, reduceCtorEq, Bool.true_eq_false] at ha hm hx <;> simp only [execA] at h ⊢
  case call c =>
    obtain ⟨callee, args, argTypes⟩ := c
    simp only [callA] at h ⊢
    cases callee with
    | value x => simp at ha
    | invoke r m => simp at ha
    | builtin b =>
      simp only at h ⊢ ha hx
      refine lift ?_
      replace h := liftR_val h
      unfold builtinA at h ⊢
      cases b <;> simp only [reduceCtorEq, Bool.true_eq_false] at h ⊢ ha hx
      case len =>
        split at h
        · exact lenA_ext (hx trivial) h
        · cases h
      case complex =>
        split at h
        · rename_i k a k' b hargs
          cases hb : decide (k = k') <;> rw [hb] at h <;> simp only [cond_true, cond_false, reduceCtorEq] at h ⊢
          cases h
          exact ⟨rfl, rfl⟩
        · cases h
      case real =>
        split at h
        · cases h; exact ⟨rfl, rfl⟩
        · cases h
      case imag =>
        split at h
        · cases h; exact ⟨rfl, rfl⟩
        · cases h
      case min =>
        split at h
        · split at h
          · cases h; exact ⟨rfl, rfl⟩
          · cases h
        · cases h
      case max =>
        split at h
        · split at h
          · cases h; exact ⟨rfl, rfl⟩
          · cases h
        · cases h
  all_goals (refine lift ?_; replace h := liftR_val h; simp only [execV, reduceCtorEq] at h ⊢)
  case move x => cases h; exact ⟨rfl, rfl⟩
  case pick c a b =>
    split at h
    · cases h; exact ⟨rfl, rfl⟩
    · cases h; exact ⟨rfl, rfl⟩
    · cases h
  case build t ps => exact two (buildA_setW ..) (buildA_setW ..) h
  case load t x => exact loadA_ext (hx trivial) h
  case nilCheck x =>
    split at h
    · cases h; exact ⟨rfl, rfl⟩
    · cases h; exact ⟨rfl, rfl⟩
    · cases h
  case binOp op t x y z => exact two (binA_setW ..) (binA_setW ..) h
  case unOp op t x => exact two (unA_setW ..) (unA_setW ..) h
  case convert s d x => exact convertA_ext (hx trivial) h hn
  case slice t x lo hi mx => exact sliceA_ext (hx trivial) h
  case fieldAddr s x i => exact two (fieldAddrA_setW ..) (fieldAddrA_setW ..) h
  case field t x i => exact two (fieldA_setW ..) (fieldA_setW ..) h
  case indexAddr t x i => exact two (indexAddrA_setW ..) (indexAddrA_setW ..) h
  case index t x i => exact two (indexA_setW ..) (indexA_setW ..) h
  case lookup t x i ok => exact lookupA_ext (hx trivial) h
  case extract x i =>
    split at h
    · split at h
      · cases h; exact ⟨rfl, rfl⟩
      · cases h
    · cases h
  case makeFunc f a b => cases f <;> simp only [reduceCtorEq] at h <;> (cases h; exact ⟨rfl, rfl⟩)
  all_goals first | cases h | skip
omit [Rho] in
theorem evs_congr {F F2 : Fr} : ∀ l : List Operand, (∀ x ∈ l, ev F2 x = ev F x) → evs F2 l = evs F l
  | [], _ => rfl
  | x :: l, h => by simp only [evs]; rw [h x (List.mem_cons_self ..), evs_congr l fun y hy => h y (List.mem_cons_of_mem _ hy)]
omit [Rho] in
theorem partsA_congr {F F2 : Fr} : ∀ l : List (Nat × Operand), (∀ p ∈ l, ev F2 p.2 = ev F p.2) → partsA F2 l = partsA F l
  | [], _ => rfl
  | (i, x) :: l, h => by simp only [partsA]; rw [h (i, x) (List.mem_cons_self ..), partsA_congr l fun y hy => h y (List.mem_cons_of_mem _ hy)]
omit [Rho] in
theorem execA_congr {F F2 : Fr} {o : Oper} (h : ∀ x ∈ o.op.operands, ev F2 x = ev F x) : execA E F2 o A = execA E F o A := by
  obtain ⟨dst, op, type, pos, after, guard⟩ := o
  cases op <;> simp only [Op.operands] at h <;> simp only [execA, execV]
  case call c =>
    obtain ⟨callee, args, argTypes⟩ := c
    have ha : evs F2 args.toList = evs F args.toList := evs_congr _ fun x hx => h x (by simp only [Call.operands]; exact Array.mem_append_right _ (by simpa using hx))
    cases callee with
    | value x => simp only [callA, ha, h x (by simp [Call.operands])]
    | invoke r m => rfl
    | builtin b => simp only [callA, ha]
  case build t ps => rw [partsA_congr ps.toList fun p hp => h p.2 (by simp; exact ⟨p.1, by simpa using hp⟩)]
  case buildSlice t n ps => rw [partsA_congr ps.toList fun p hp => h p.2 (by simp; exact ⟨p.1, by simpa using hp⟩)]
  case makeFunc f a b =>
    have h1 := evs_congr a.toList fun x hx => h x (by simp; exact .inl (by simpa using hx))
    have h2 := evs_congr b.toList fun x hx => h x (by simp; exact .inr (by simpa using hx))
    cases f <;> simp only [h1, h2]
  case slice t x lo hi mx =>
    cases lo <;> cases hi <;> cases mx <;> simp [optA] at h ⊢ <;> simp only [h]
  case makeMap t r => cases r <;> rfl
  all_goals first | rfl | (simp at h; simp only [h])
omit [Rho] in
theorem looks_ev {F F2 : Fr} {ops : Array Oper} {o : Oper} (h : ∀ t ∈ o.looksAt ops, F2.get t = F.get t) : ∀ x ∈ o.op.operands, ev F2 x = ev F x := fun x hx => by
  cases x with
  | tmp t =>
    have := h t (List.mem_append_left _ (List.mem_filterMap.2 ⟨.tmp t, by simpa using hx, rfl⟩))
    simp only [ev, this]
  | _ => rfl
omit [Rho] in
theorem looks_wanted {F F2 : Fr} {ops : Array Oper} {o : Oper} (h : ∀ t ∈ o.looksAt ops, F2.get t = F.get t) : wantedA ops.toList F2 o = wantedA ops.toList F o := by
  unfold wantedA
  cases hg : o.guard with
  | none => rfl
  | some gw =>
    obtain ⟨g, want⟩ := gw
    simp only
    cases ho : nth ops.toList g with
    | none => rfl
    | some oj =>
      simp only
      cases hd : oj.dst with
      | none => rfl
      | some d =>
        simp only
        rw [h d]
        rw [nth_eq] at ho
        have ho' : ops[g]? = some oj := by simpa using ho
        simp [Oper.looksAt, hg, ho', hd]
omit [Rho] in
theorem looks_exec {F F2 : Fr} {ops : Array Oper} {o : Oper} (h : ∀ t ∈ o.looksAt ops, F2.get t = F.get t) (A : AW) : execA E F2 o A = execA E F o A := execA_congr (looks_ev h)
omit [Rho] in
theorem strEq_nat : ∀ {a b : List Nat}, strEq a b = true → a = b
  | [], [], _ => rfl
  | [], _ :: _, h => by simp [strEq, isNil] at h
  | _ :: _, [], h => by simp [strEq] at h
  | x :: xs, y :: ys, h => by
    simp only [strEq, beq_eq] at h
    by_cases e : x = y
    · simp [e] at h; rw [e, strEq_nat h]
    · simp [e] at h
omit [Rho] in
theorem avEq_eq {a b : AV} (h : avEq a b = true) : a = b := by
  unfold avEq at h
  split at h <;> (try simp only [Bool.and_eq_true, beq_eq, decide_eq_true_eq, kindEq_eq, ieq_eq, beq_iff_eq, reduceCtorEq, Bool.false_eq_true] at h) <;> try rfl
  · rw [h]
  · rw [h.1, h.2]
  · rw [h.1, h.2]
  · rw [h.1.1, h.1.2, h.2]
  · rw [strEq_nat h]
  · rw [h.1.1, h.1.2, h.2]
  · rw [h]
  · obtain ⟨⟨⟨⟨⟨rfl, rfl⟩, rfl⟩, rfl⟩, rfl⟩, rfl⟩ := h; rfl
  · rw [h]
  · rw [h]
  · rw [h.1.1, h.1.2, h.2]
  · rw [h.1.1, h.1.2, h.2]
  · rw [h.1.1, h.1.2, h.2]
  · rw [h.1.1.1, h.1.1.2, h.1.2, h.2]
  · rw [strEq_nat h.1, h.2]
  · rw [h]
  · rw [h.1, btsEq_val h.2]
  · rw [h.1, btsEq_val h.2]
  · rw [h.1.1, h.1.2, h.2]
  · rw [h.1, h.2]
  · rw [h.1.1, btsEq_val h.1.2, h.2]
omit [Rho] in
theorem avsEq_eq : ∀ {a b : List AV}, avsEq a b = true → a = b
  | [], [], _ => rfl
  | [], _ :: _, h => by simp [avsEq, isNil] at h
  | _ :: _, [], h => by simp [avsEq] at h
  | x :: xs, y :: ys, h => by
    simp only [avsEq, Bool.and_eq_true] at h
    rw [avEq_eq h.1, avsEq_eq h.2]
omit [Rho] in
theorem valEq_eq {a b : AV} (h : valEq a b = true) : a = b := by
  unfold valEq at h
  split at h
  · rw [avsEq_eq h]
  · rw [avsEq_eq h]
  · exact avEq_eq h
omit [Rho] in
theorem still_spec {F : Fr} {b : Nat} : ∀ {l : List Seen}, still E F A b l = true → ∀ s ∈ l, bit b s.i = false → ∃ B, execA E F s.o A = .val s.v B ∧ B.nxt = A.nxt
  | [], _, s, hs, _ => by cases hs
  | x :: l, h, s, hs, hb => by
    simp only [still] at h
    cases hx : bit b x.i
    · rw [hx] at h
      simp only [cond_false] at h
      split at h
      · rename_i v B he
        cases hn : Nat.beq B.nxt A.nxt <;> rw [hn] at h <;> simp only [cond_true, cond_false, reduceCtorEq, Bool.false_eq_true] at h
        cases hv : valEq v x.v <;> rw [hv] at h <;> simp only [cond_true, cond_false, reduceCtorEq, Bool.false_eq_true] at h
        rcases List.mem_cons.1 hs with rfl | hs
        · refine ⟨B, ?_, by rw [beq_eq] at hn; simpa using hn⟩
          rw [he, valEq_eq hv]
        · exact still_spec h s hs hb
      · cases h
    · rw [hx] at h
      simp only [cond_true] at h
      rcases List.mem_cons.1 hs with rfl | hs
      · rw [hx] at hb; cases hb
      · exact still_spec h s hs hb
end
end Go.AE
