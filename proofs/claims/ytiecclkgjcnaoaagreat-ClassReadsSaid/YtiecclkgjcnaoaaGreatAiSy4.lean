/-
  THE EVALUATOR BY RULES, third part: what a piece of memory is, and what stays.
  THE EVALUATOR BY RULES, fourth part: regions that draw their order; texts.
-/
import Derived.Test.YtiecclkgjcnaoaaGreatAiSy2
namespace Go.AE
set_option linter.unusedVariables false
set_option linter.unusedSimpArgs false
def Wf (A : AW) : Prop := ∀ g F, A.heap.get g = some F → g < A.nxt
structure Only (A A1 : AW) (T : Nat → Prop) : Prop where
  wf : Wf A1
  nxt : A.nxt ≤ A1.nxt
  keep : ∀ g F, A.heap.get g = some F → ¬ T g → A1.heap.get g = some F
def Grow (A : AW) (S S' : Nat → Prop) : Prop := ∀ g, S' g → S g ∨ A.nxt ≤ g
def Disj (S T : Nat → Prop) : Prop := ∀ g, S g → ¬ T g
def Under (A : AW) (S : Nat → Prop) : Prop := ∀ g, S g → g < A.nxt
def none' : Nat → Prop := fun _ => False
def one (f : Nat) : Nat → Prop := fun g => g = f
def both (S T : Nat → Prop) : Nat → Prop := fun g => S g ∨ T g
theorem Only.refl {A : AW} (h : Wf A) (T : Nat → Prop) : Only A A T := ⟨h, Nat.le_refl _, fun _ _ h _ => h⟩
theorem Only.mono {A A1 : AW} {T T' : Nat → Prop} (h : Only A A1 T) (ht : ∀ g, T g → T' g) : Only A A1 T' := ⟨h.wf, h.nxt, fun g F hg hn => h.keep g F hg fun h => hn (ht g h)⟩
theorem Only.trans {A A1 A2 : AW} {T T' : Nat → Prop} (hw : Wf A) (h : Only A A1 T) (h' : Only A1 A2 T') (ht : Grow A T T') : Only A A2 T :=
  ⟨h'.wf, Nat.le_trans h.nxt h'.nxt, fun g F hg hn => h'.keep g F (h.keep g F hg hn) fun h => by
    rcases ht g h with h | h
    · exact hn h
    · have := hw g F hg
      omega⟩
theorem Only.same {A A1 A2 : AW} {T : Nat → Prop} (h : Only A A1 T) (h' : Only A1 A2 T) : Only A A2 T :=
  ⟨h'.wf, Nat.le_trans h.nxt h'.nxt, fun g F hg hn => h'.keep g F (h.keep g F hg hn) hn⟩
theorem Grow.refl (A : AW) (S : Nat → Prop) : Grow A S S := fun g h => .inl h
theorem Grow.trans {A A1 : AW} {S S1 S2 : Nat → Prop} (h : Grow A S S1) (h' : Grow A1 S1 S2) (hn : A.nxt ≤ A1.nxt) : Grow A S S2 := fun g hg => by
  rcases h' g hg with h1 | h1
  · exact h g h1
  · exact .inr (Nat.le_trans hn h1)
theorem Grow.none (A : AW) (S : Nat → Prop) : Grow A S none' := fun g h => h.elim
theorem Grow.disj {A : AW} {S S' T : Nat → Prop} (h : Grow A S S') (hd : Disj T S) (hu : Under A T) : Disj T S' := fun g ht hs => by
  rcases h g hs with h | h
  · exact hd g ht h
  · have := hu g ht
    omega
theorem Disj.symm {S T : Nat → Prop} (h : Disj S T) : Disj T S := fun g a b => h g b a
theorem Under.mono {A A1 : AW} {S : Nat → Prop} (h : Under A S) (hn : A.nxt ≤ A1.nxt) : Under A1 S := fun g hg => Nat.lt_of_lt_of_le (h g hg) hn
theorem Wf.put {A : AW} (h : Wf A) {f : Nat} {x : AFam} (hf : f < A.nxt) : Wf (A.put f x) := fun g F hg => by
  rw [AW.put_get] at hg
  split at hg
  · rename_i e; subst e; exact hf
  · exact h g F hg
theorem Wf.add {A : AW} (h : Wf A) {x : AFam} : Wf (A.add x) := fun g F hg => by
  rw [AW.add_get] at hg
  split at hg
  · rename_i e; subst e; exact Nat.lt_succ_self _
  · exact Nat.lt_succ_of_lt (h g F hg)
theorem Only.put {A : AW} (h : Wf A) {f : Nat} {x : AFam} (hf : f < A.nxt) : Only A (A.put f x) (one f) := ⟨h.put hf, Nat.le_refl _, fun g F hg hn => by
  rw [AW.put_get, if_neg (fun e : g = f => hn e)]; exact hg⟩
theorem Only.add {A : AW} (h : Wf A) {x : AFam} (T : Nat → Prop) : Only A (A.add x) T := ⟨h.add, Nat.le_succ _, fun g F hg hn => by
  have := h g F hg
  rw [AW.add_get, if_neg (by omega)]; exact hg⟩
def AV.isFam : AV → Nat → Prop
  | .slice f _ _ _ _ _, g => g = f
  | _, _ => False
def Buf (A : AW) (es : Nat) (v : AV) (n : Nat) (cs : List AV) : Prop :=
  (v = .nils ∧ n = 0 ∧ cs = []) ∨ ∃ f t, v = .slice f t 0 n n false ∧ A.heap.get f = some (.cells t false es cs) ∧ cs.length = n * es ∧ 0 < n
theorem Buf.length {A : AW} {es : Nat} {v : AV} {n : Nat} {cs : List AV} (h : Buf A es v n cs) : cs.length = n * es := by
  rcases h with ⟨_, rfl, rfl⟩ | ⟨_, _, _, _, h, _⟩
  · simp
  · exact h
theorem Buf.lenV {A : AW} {es : Nat} {v : AV} {n : Nat} {cs : List AV} (h : Buf A es v n cs) : lenV v = some n := by
  rcases h with ⟨rfl, rfl, _⟩ | ⟨_, _, rfl, _⟩ <;> rfl
theorem Buf.cells {A : AW} {es : Nat} {v : AV} {n : Nat} {cs : List AV} (h : Buf A es v n cs) : cellsOf v = some [v] := by
  rcases h with ⟨rfl, rfl, _⟩ | ⟨_, _, rfl, _⟩ <;> rfl
theorem Buf.under {A : AW} {es : Nat} {v : AV} {n : Nat} {cs : List AV} (hw : Wf A) (h : Buf A es v n cs) : Under A v.isFam := fun g hg => by
  rcases h with ⟨rfl, _, _⟩ | ⟨f, t, rfl, h1, _⟩
  · exact hg.elim
  · cases hg; exact hw _ _ h1
theorem Buf.keep {A A1 : AW} {es : Nat} {v : AV} {n : Nat} {cs : List AV} {T : Nat → Prop} (h : Buf A es v n cs) (ho : Only A A1 T) (hd : Disj v.isFam T) : Buf A1 es v n cs := by
  rcases h with ⟨rfl, rfl, rfl⟩ | ⟨f, t, rfl, h1, h2, h3⟩
  · exact .inl ⟨rfl, rfl, rfl⟩
  · exact .inr ⟨f, t, rfl, ho.keep f _ h1 (hd f rfl), h2, h3⟩
theorem Buf.src {A : AW} {es : Nat} {v : AV} {n : Nat} {cs : List AV} (h : Buf A es v n cs) : srcA A es v = some (n, cs) := by
  rcases h with ⟨rfl, rfl, rfl⟩ | ⟨f, t, rfl, h1, h2, h3⟩
  · rfl
  · have : takeN (Nat.mul n es) cs = some cs := by
      rw [takeN_some _ _ (by rw [h2]; exact Nat.le_refl _), show Nat.mul n es = n * es from rfl, ← h2, List.take_length]
    simp only [srcA, readCells, h1, Nat.beq_refl, cond_true, dropN, this]
structure Grew (A A1 : AW) (es : Nat) (v v' : AV) (n : Nat) (cs : List AV) : Prop where
  buf : Buf A1 es v' n cs
  only : Only A A1 v.isFam
  grow : Grow A v.isFam v'.isFam
theorem append_buf {E : Env} {A : AW} {t e : TypeId} {d de : ATy} {z : List AV} {v x : AV} {n m : Nat} {cs xs : List AV} (ht : E.tys.get t = some d) (hs : d.desc = .slice e) (he : E.tys.get e = some de) (hz : de.zero = some z)
    (hw : Wf A) (hb : Buf A de.size v n cs) (hx : srcA A de.size x = some (m, xs)) (hl : xs.length = m * de.size) (h1 : 1 ≤ de.size) (hr : roomA (n + m) de.bytes = true) :
    ∃ v' A1, appendA E t v x A = .val v' A1 ∧ Grew A A1 de.size v v' (n + m) (cs ++ xs) := by
  unfold appendA
  simp only [ht, hs, he, hz, hx]
  by_cases h0 : m = 0
  · subst h0
    have hxs : xs = [] := List.eq_nil_of_length_eq_zero (by simpa using hl)
    subst hxs
    simp only [Nat.beq_refl, cond_true, Nat.add_zero, List.append_nil]
    rcases hb with ⟨rfl, rfl, rfl⟩ | ⟨f, t', rfl, g1, g2, g3⟩
    · exact ⟨_, _, rfl, .inl ⟨rfl, rfl, rfl⟩, Only.refl hw _, Grow.refl _ _⟩
    · exact ⟨_, _, rfl, .inr ⟨f, t', rfl, g1, g2, g3⟩, Only.refl hw _, Grow.refl _ _⟩
  · have e0 : Nat.beq m 0 = false := by rw [beq_eq]; simp [h0]
    have e1 : Nat.ble 1 de.size = true := Nat.ble_eq_true_of_le h1
    simp only [e0, cond_false, e1, cond_true]
    rcases hb with ⟨rfl, rfl, rfl⟩ | ⟨f, t', rfl, g1, g2, g3⟩
    · simp only [appendNew]
      rw [Nat.zero_add] at hr
      rw [hr]
      simp only [cond_true, Nat.zero_add, List.nil_append]
      refine ⟨_, A.add (.cells 0 false de.size xs), rfl, .inr ⟨A.nxt, 0, rfl, by simp, hl, by omega⟩, Only.add hw _, fun g hg => .inr ?_⟩
      cases hg
      exact Nat.le_refl _
    · simp only [appendRow, g1, Nat.beq_refl, Bool.and_self, cond_true]
      have e2 : Nat.ble (Nat.add n m) n = false := by
        rw [ble_dec]
        exact decide_eq_false (by show ¬ n + m ≤ n; omega)
      have e3 : takeN (Nat.add 0 (Nat.mul n de.size)) cs = some cs := by
        have : Nat.add 0 (Nat.mul n de.size) = n * de.size := Nat.zero_add _
        rw [this, takeN_some _ _ (by rw [g2]; exact Nat.le_refl _), ← g2, List.take_length]
      have hr' : roomA (Nat.add n m) de.bytes = true := hr
      rw [e2, hr', e3]
      simp only [cond_false, cond_true]
      refine ⟨_, A.put f (.cells (Nat.succ t') false de.size (cs ++ xs)), rfl, .inr ⟨f, Nat.succ t', rfl, by simp, ?_, by omega⟩, (Only.put hw (hw _ _ g1)).mono fun g hg => ?_, fun g hg => .inl ?_⟩
      · simp [g2, hl, Nat.add_mul]
      · exact hg
      · exact hg
theorem append_one {E : Env} {A : AW} {t e : TypeId} {d de : ATy} {z : List AV} {v : AV} {n : Nat} {cs xs : List AV} (ht : E.tys.get t = some d) (hs : d.desc = .slice e) (he : E.tys.get e = some de) (hz : de.zero = some z)
    (hw : Wf A) (hb : Buf A de.size v n cs) (hl : xs.length = de.size) (h1 : 1 ≤ de.size) (hr : roomA (n + 1) de.bytes = true) :
    ∃ v' A1, appendA E t v (.slice A.nxt 0 0 1 1 true) (A.add (.cells 0 false de.size xs)) = .val v' A1 ∧ Grew A A1 de.size v v' (n + 1) (cs ++ xs) := by
  have o1 : Only A (A.add (.cells 0 false de.size xs)) none' := Only.add hw _
  obtain ⟨v', A1, h, g⟩ := append_buf (m := 1) (xs := xs) (x := .slice A.nxt 0 0 1 1 true) ht hs he hz o1.wf (hb.keep o1 fun _ _ h => h) (by
    have e : takeN (Nat.mul 1 de.size) xs = some xs := by
      have : Nat.mul 1 de.size = de.size := Nat.one_mul _
      rw [this, takeN_some _ _ (by omega), ← hl, List.take_length]
    simp only [srcA, readCells, dropN]
    rw [AW.add_get, if_pos rfl]
    simp only [Nat.beq_refl, cond_true, e]) (by omega) h1 hr
  exact ⟨v', A1, h, g.buf, (o1.mono fun _ h => h.elim).same g.only, fun k hk => by
    rcases g.grow k hk with h | h
    · exact .inl h
    · exact .inr (Nat.le_trans o1.nxt h)⟩
theorem room_of {n b : Nat} (h : n ≤ 1099511627776) (hb : b ≤ 64) : roomA n b = true := by
  have h1 : Nat.ble n maxBytes = true := Nat.ble_eq_true_of_le (Nat.le_trans h (by decide))
  have h2 : Nat.ble (Nat.mul n b) maxBytes = true := Nat.ble_eq_true_of_le (Nat.le_trans (Nat.mul_le_mul h hb) (by decide))
  unfold roomA
  rw [h1, h2]
  rfl
def bys (l : List Nat) : List AV := l.map fun b : Nat => .int .u8 (b : Int)
theorem bys_length (l : List Nat) : (bys l).length = l.length := by simp [bys]
theorem bys_append (l m : List Nat) : bys (l ++ m) = bys l ++ bys m := by simp [bys]
theorem bys_str : ∀ l : List Nat, cellsOfStr l = bys l
  | [] => rfl
  | b :: l => by show _ :: cellsOfStr l = _; rw [bys_str l]; rfl
end Go.AE
namespace Go.AE
set_option linter.unusedVariables false
set_option linter.unusedSimpArgs false
def stillK (E : Env) (C : FnE) (l : Kn) (A : AW) (b : Nat) : List Seen → Prop
  | [] => True
  | s :: seen => (bit b s.i = true ∨ ((∀ F, Kf C l F → execA E F s.o A = .val s.v A) ∧ valEq s.v s.v = true)) ∧ stillK E C l A b seen
theorem still_of {E : Env} {C : FnE} {l : Kn} {A : AW} {b : Nat} {F : Fr} (hF : Kf C l F) : ∀ {seen : List Seen}, stillK E C l A b seen → still E F A b seen = true
  | [], _ => rfl
  | s :: seen, h => by
    have ih := still_of hF h.2
    unfold still
    rcases h.1 with hb | ⟨hx, hv⟩
    · rw [hb]; exact ih
    · cases hb : bit b s.i
      · simp only [cond_false, hx F hF, Nat.beq_refl, cond_true, hv, ih]
      · exact ih
structure WD (E : Env) (C : FnE) (all : List Oper) (bs order : List Nat) (seen : List Seen) (l : Kn) (A : AW) (K : Kn → AW → Prop) : Prop where
  run : ∀ F, Kf C l F → ∃ F1 A1 l1, Kf C l1 F1 ∧ K l1 A1 ∧ ∃ n0, ∀ n, n0 ≤ n → drawA E (fun f args A => bodyOf E f args A (go E n)) C.N all bs order seen F A = .ok F1 A1
section
variable {E : Env} {C : FnE} {all : List Oper} {bs order : List Nat} {seen : List Seen} {l : Kn} {A : AW} {K : Kn → AW → Prop} {i b : Nat} {o : Oper}
theorem wd_nil (h : K l A) : WD E C all bs [] seen l A K := ⟨fun F hF => ⟨F, A, l, hF, h, 0, fun _ _ => rfl⟩⟩
theorem ops_one {N : Nat} {F F1 : Fr} {A1 : AW} (h : OpsV E N all [o] F A F1 A1) : OneV E N all o F A F1 A1 := by
  obtain ⟨n0, h⟩ := h
  refine ⟨n0, fun n hn => ?_⟩
  have := h n hn
  simp only [opsA] at this
  split at this
  · rename_i F2 A2 h2
    cases this
    exact h2
  · cases this
theorem xC (hi : nth all i = some o) (hb : nth bs i = some b) (ha : acts o.op = false) (hm : makes o.op = false) (hr : reads o.op = false)
    (h : WO E C all [o] l A fun l1 A1 => A1 = A ∧ WD E C all bs order seen l1 A K) : WD E C all bs (i :: order) seen l A K := ⟨fun F hF => by
  obtain ⟨F1, A1, l1, hF1, ⟨rfl, hk⟩, ho⟩ := h.run F hF
  obtain ⟨n1, ho⟩ := ops_one ho
  obtain ⟨F2, A2, l2, hF2, hk2, n2, hd⟩ := hk.run F1 hF1
  refine ⟨F2, A2, l2, hF2, hk2, n1 + n2, fun n hn => ?_⟩
  simp only [drawA, hi, hb, ho n (by omega), ha, cond_false, hm, Nat.beq_refl, cond_true, hr]
  split <;> exact hd n (by omega)⟩
def wantO (all : List Oper) (l : Kn) (o : Oper) : Option Bool :=
  match o.guard with
  | none => some true
  | some (j, w) => wantK all l j w
theorem wantO_spec {F : Fr} (hF : Kf C l F) {x : Bool} (h : wantO all l o = some x) : wantedA all F o = some x := by
  obtain ⟨dst, op, ty, pos, after, g⟩ := o
  unfold wantO at h
  split at h
  · rename_i hg
    simp only at hg
    subst hg
    unfold wantedA
    exact h
  · rename_i j w hg
    simp only at hg
    subst hg
    exact want_of hF h
theorem xI {d : Tmp} (hi : nth all i = some o) (hb : nth bs i = some b) (ha : acts o.op = false) (hm : makes o.op = false) (hr : reads o.op = true) (hg : wantO all l o = some true) (hd : o.dst = some d)
    (h : WO E C all [o] l A fun l1 A1 => A1 = A ∧ ∃ v, l1.find d = some v ∧ WD E C all bs order (⟨i, o, v⟩ :: seen) l1 A K) : WD E C all bs (i :: order) seen l A K := ⟨fun F hF => by
  obtain ⟨F1, A1, l1, hF1, ⟨rfl, v, hv, hk⟩, ho⟩ := h.run F hF
  obtain ⟨n1, ho⟩ := ops_one ho
  obtain ⟨F2, A2, l2, hF2, hk2, n2, hk3⟩ := hk.run F1 hF1
  refine ⟨F2, A2, l2, hF2, hk2, n1 + n2, fun n hn => ?_⟩
  have hw := wantO_spec hF hg
  simp only [drawA, hi, hb, ho n (by omega), ha, cond_false, hm, Nat.beq_refl, cond_true, hr, hw, hd, hF1.get d v hv]
  exact hk3 n (by omega)⟩
theorem wd_make (hi : nth all i = some o) (hb : nth bs i = some b) (ha : acts o.op = false) (hm : makes o.op = true)
    (h : WO E C all [o] l A fun l1 A1 => WD E C all bs order seen l1 A1 K) : WD E C all bs (i :: order) seen l A K := ⟨fun F hF => by
  obtain ⟨F1, A1, l1, hF1, hk, ho⟩ := h.run F hF
  obtain ⟨n1, ho⟩ := ops_one ho
  obtain ⟨F2, A2, l2, hF2, hk2, n2, hd⟩ := hk.run F1 hF1
  refine ⟨F2, A2, l2, hF2, hk2, n1 + n2, fun n hn => ?_⟩
  simp only [drawA, hi, hb, ho n (by omega), ha, cond_false, hm, cond_true]
  exact hd n (by omega)⟩
theorem wd_act (hi : nth all i = some o) (hb : nth bs i = some b) (ha : acts o.op = true)
    (h : WO E C all [o] l A fun l1 A1 => stillK E C l1 A1 b seen ∧ WD E C all bs order seen l1 A1 K) : WD E C all bs (i :: order) seen l A K := ⟨fun F hF => by
  obtain ⟨F1, A1, l1, hF1, ⟨hs, hk⟩, ho⟩ := h.run F hF
  obtain ⟨n1, ho⟩ := ops_one ho
  obtain ⟨F2, A2, l2, hF2, hk2, n2, hd⟩ := hk.run F1 hF1
  refine ⟨F2, A2, l2, hF2, hk2, n1 + n2, fun n hn => ?_⟩
  simp only [drawA, hi, hb, ho n (by omega), ha, cond_true, still_of hF1 hs]
  exact hd n (by omega)⟩
theorem wd_is (t : Tmp) {x : Bool} (x' : Bool) (ht : l.find t = some (.bool x)) (hb : x = x') (h : WD E C all bs order seen (.put t (.bool x') l) A K) : WD E C all bs order seen l A K := ⟨fun F hF => h.run F ⟨hF.mask, fun j w hj => by
    subst hb
    simp only [Kn.find] at hj
    cases hb : Nat.beq t j <;> rw [hb] at hj
    · exact hF.get j w hj
    · cases hj
      rw [← Nat.eq_of_beq_eq_true hb]
      exact hF.get t _ ht⟩⟩
theorem lenA_eq {t : TypeId} {v : AV} {n : Nat} (ht : R.lenKind E t = 2) (hn : lenV v = some n) : lenA E t v A = .val (.int .i64 (n : Int)) A := by
  obtain ⟨dt, e, h1, h2⟩ := lenKind2 ht
  unfold lenA
  rw [h1]
  simp only [h2]
  cases v <;> simp only [lenV, Option.some.injEq, reduceCtorEq] at hn <;> subst hn <;> rfl
theorem loadA_eq {t : TypeId} {f s o : Nat} {dt : ATy} {ro : Bool} {es : Nat} {cs : List AV} {v : AV} (ht : E.tys.get t = some dt) (hg : dt.agg = false) (hf : A.heap.get f = some (.cells s ro es cs)) (hn : nth cs o = some v) : loadA E t (.ptr f s o) A = .val v A := by
  simp only [loadA, ht, hg, cond_false, hf, Nat.beq_refl, cond_true, hn]
theorem stillInt {k : IntKind} {n : Int} : valEq (.int k n) (.int k n) = true := by
  show (kindEq k k && ieq n n) = true
  rw [kindEq_refl, ieq_eq]
  simp
theorem wg_draw {id : Nat} {ops : Array Oper} {k : List Item} {R : AV → AW → Prop} (hd : drawOf C.draws id = some (order, bs)) (h : WD E C ops.toList bs order [] l A fun l1 A1 => WG E C k (.clr C.mask l1) A1 R) :
    WG E C (.code (.region id ops true) :: k) l A R := ⟨fun F hF => by
  obtain ⟨F1, A1, l1, hF1, hk, n1, hr⟩ := h.run F hF
  obtain ⟨F', A', v, ho, r, n0, h⟩ := hk.run _ hF1.clear
  refine ⟨F', A', v, ho, r, n0 + n1 + 1, fun n hn => ?_⟩
  obtain ⟨m, rfl⟩ : ∃ m, n = m + 1 := ⟨n - 1, by omega⟩
  show (match regA E C (fun f args A => bodyOf E f args A (go E m)) id ops.toList true F A with
    | .ok F A => go E m C k F.clear A
    | .fail m => .fail m) = _
  have := hr m (by omega)
  simp only [regA, cond_true, hd, this]
  exact h m (by omega)⟩
end
theorem strEq_self : ∀ l : List Nat, strEq l l = true
  | [] => rfl
  | x :: l => by simp only [strEq, Nat.beq_refl, cond_true, strEq_self l]
theorem strEq_iff : ∀ a b : List Nat, strEq a b = decide (a = b)
  | [], [] => by simp [strEq, isNil]
  | [], _ :: _ => by simp [strEq, isNil]
  | _ :: _, [] => by simp [strEq]
  | x :: xs, y :: ys => by
    simp only [strEq, strEq_iff xs ys, beq_eq]
    by_cases h : x = y
    · subst h; simp
    · simp [h]
def mods (l : List Nat) : List Nat := l.map (· % 256)
theorem bys_mods : ∀ l : List Nat, bytesOf (bys l) = some (mods l)
  | [] => rfl
  | b :: l => by
    have h1 := bys_mods l
    show (match bytesOf (bys l) with
      | some r => some (Nat.mod b 256 :: r)
      | none => none) = _
    rw [h1]
    rfl
theorem mods_id {l : List Nat} (h : ∀ b ∈ l, b < 256) : mods l = l := by
  unfold mods
  conv => rhs; rw [← List.map_id l]
  exact List.map_congr_left fun b hb => Nat.mod_eq_of_lt (h b hb)
section
variable {E : Env} {C : FnE} {all rest : List Oper} {l : Kn} {A A1 : AW} {K : Kn → AW → Prop} {d : Tmp} {ty : TypeId} {pos : String} {after : Array Edge}
theorem wo_convert {s t : TypeId} {x : Operand} {w v : AV} (hd : Nat.blt d C.N = true) (hx : evO l x = some w) (hv : convertA E s t w A = .val v A1) (h : WO E C all rest (.put d v l) A1 K) :
    WO E C all (⟨some d, .convert s t x, ty, pos, after, none⟩ :: rest) l A K :=
  wo_val hd (fun F hF => by
    show liftR (convertA E s t (ev F x) A) = _
    rw [hF.ev hx, hv]
    rfl) h
theorem wo_strEq {t t' : TypeId} {a b : Operand} {x y : List Nat} (hd : Nat.blt d C.N = true) (ha : evO l a = some (.str x)) (hb : evO l b = some (.str y)) (h : WO E C all rest (.put d (.bool (decide (x = y))) l) A K) :
    WO E C all (⟨some d, .binOp .eql t a b t', ty, pos, after, none⟩ :: rest) l A K :=
  wo_val hd (fun F hF => by
    show liftR (binA E .eql t (ev F a) (ev F b) A) = _
    rw [hF.ev ha, hF.ev hb]
    show liftR (retB (strEq x y) A) = _
    rw [retB_eq, strEq_iff]
    rfl) h
theorem wo_strNe {t t' : TypeId} {a b : Operand} {x y : List Nat} (hd : Nat.blt d C.N = true) (ha : evO l a = some (.str x)) (hb : evO l b = some (.str y)) (h : WO E C all rest (.put d (.bool (decide (x ≠ y))) l) A K) :
    WO E C all (⟨some d, .binOp .neq t a b t', ty, pos, after, none⟩ :: rest) l A K :=
  wo_val hd (fun F hF => by
    show liftR (binA E .neq t (ev F a) (ev F b) A) = _
    rw [hF.ev ha, hF.ev hb]
    show liftR (retB (!strEq x y) A) = _
    rw [retB_eq, strEq_iff, ← decide_not]
    rfl) h
end
end Go.AE
