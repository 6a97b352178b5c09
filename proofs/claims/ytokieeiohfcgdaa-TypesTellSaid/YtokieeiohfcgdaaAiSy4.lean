/-
  THE EVALUATOR BY RULES, fourth part: regions that draw their order; texts.
-/
import Derived.Test.YtokieeiohfcgdaaAiSy3
namespace Go.AE
set_option linter.unusedVariables false
set_option linter.unusedSimpArgs false

/-- What was read gives the same. -/
def stillK (E : Env) (C : FnE) (l : Kn) (A : AW) (b : Nat) : List Seen → Prop
  | [] => True
  | s :: seen => (bit b s.i = true ∨ ((∀ F, Kf C l F → execA E F s.o A = .val s.v A) ∧ valEq s.v s.v = true)) ∧ stillK E C l A b seen
theorem still_of {E : Env} {C : FnE} {l : Kn} {A : AW} {b : Nat} {F : Fr} (hF : Kf C l F) : ∀ {seen : List Seen}, stillK E C l A b seen → still E F A b seen = true
  | [], _ => rfl
  | s :: seen, h => by
    have ih := still_of hF h.2
    unfold still
    rcases h.1 with hb | ⟨hx, hv⟩
    · rw [hb]; exact ih
    · cases hb : bit b s.i
      · simp only [cond_false, hx F hF, Nat.beq_refl, cond_true, hv, ih]
      · exact ih
structure WD (E : Env) (C : FnE) (all : List Oper) (bs order : List Nat) (seen : List Seen) (l : Kn) (A : AW) (K : Kn → AW → Prop) : Prop where
  run : ∀ F, Kf C l F → ∃ F1 A1 l1, Kf C l1 F1 ∧ K l1 A1 ∧ ∃ n0, ∀ n, n0 ≤ n → drawA E (fun f args A => bodyOf E f args A (go E n)) C.N all bs order seen F A = .ok F1 A1
section
variable {E : Env} {C : FnE} {all : List Oper} {bs order : List Nat} {seen : List Seen} {l : Kn} {A : AW} {K : Kn → AW → Prop} {i b : Nat} {o : Oper}
theorem wd_nil (h : K l A) : WD E C all bs [] seen l A K := ⟨fun F hF => ⟨F, A, l, hF, h, 0, fun _ _ => rfl⟩⟩
theorem ops_one {N : Nat} {F F1 : Fr} {A1 : AW} (h : OpsV E N all [o] F A F1 A1) : OneV E N all o F A F1 A1 := by
  obtain ⟨n0, h⟩ := h
  refine ⟨n0, fun n hn => ?_⟩
  have := h n hn
  simp only [opsA] at this
  split at this
  · rename_i F2 A2 h2
    cases this
    exact h2
  · cases this
theorem wd_pure (hi : nth all i = some o) (hb : nth bs i = some b) (ha : acts o.op = false) (hm : makes o.op = false) (hr : reads o.op = false)
    (h : WO E C all [o] l A fun l1 A1 => A1 = A ∧ WD E C all bs order seen l1 A K) : WD E C all bs (i :: order) seen l A K := ⟨fun F hF => by
  obtain ⟨F1, A1, l1, hF1, ⟨rfl, hk⟩, ho⟩ := h.run F hF
  obtain ⟨n1, ho⟩ := ops_one ho
  obtain ⟨F2, A2, l2, hF2, hk2, n2, hd⟩ := hk.run F1 hF1
  refine ⟨F2, A2, l2, hF2, hk2, n1 + n2, fun n hn => ?_⟩
  simp only [drawA, hi, hb, ho n (by omega), ha, cond_false, hm, Nat.beq_refl, cond_true, hr]
  split <;> exact hd n (by omega)⟩
/-- Is it wanted? -/
def wantO (all : List Oper) (l : Kn) (o : Oper) : Option Bool :=
  match o.guard with
  | none => some true
  | some (j, w) => wantK all l j w
theorem wantO_spec {F : Fr} (hF : Kf C l F) {x : Bool} (h : wantO all l o = some x) : wantedA all F o = some x := by
  obtain ⟨dst, op, ty, pos, after, g⟩ := o
  unfold wantO at h
  split at h
  · rename_i hg
    simp only at hg
    subst hg
    unfold wantedA
    exact h
  · rename_i j w hg
    simp only at hg
    subst hg
    exact want_of hF h
theorem wd_read {d : Tmp} (hi : nth all i = some o) (hb : nth bs i = some b) (ha : acts o.op = false) (hm : makes o.op = false) (hr : reads o.op = true) (hg : wantO all l o = some true) (hd : o.dst = some d)
    (h : WO E C all [o] l A fun l1 A1 => A1 = A ∧ ∃ v, l1.find d = some v ∧ WD E C all bs order (⟨i, o, v⟩ :: seen) l1 A K) : WD E C all bs (i :: order) seen l A K := ⟨fun F hF => by
  obtain ⟨F1, A1, l1, hF1, ⟨rfl, v, hv, hk⟩, ho⟩ := h.run F hF
  obtain ⟨n1, ho⟩ := ops_one ho
  obtain ⟨F2, A2, l2, hF2, hk2, n2, hk3⟩ := hk.run F1 hF1
  refine ⟨F2, A2, l2, hF2, hk2, n1 + n2, fun n hn => ?_⟩
  have hw := wantO_spec hF hg
  simp only [drawA, hi, hb, ho n (by omega), ha, cond_false, hm, Nat.beq_refl, cond_true, hr, hw, hd, hF1.get d v hv]
  exact hk3 n (by omega)⟩
theorem wd_make (hi : nth all i = some o) (hb : nth bs i = some b) (ha : acts o.op = false) (hm : makes o.op = true)
    (h : WO E C all [o] l A fun l1 A1 => WD E C all bs order seen l1 A1 K) : WD E C all bs (i :: order) seen l A K := ⟨fun F hF => by
  obtain ⟨F1, A1, l1, hF1, hk, ho⟩ := h.run F hF
  obtain ⟨n1, ho⟩ := ops_one ho
  obtain ⟨F2, A2, l2, hF2, hk2, n2, hd⟩ := hk.run F1 hF1
  refine ⟨F2, A2, l2, hF2, hk2, n1 + n2, fun n hn => ?_⟩
  simp only [drawA, hi, hb, ho n (by omega), ha, cond_false, hm, cond_true]
  exact hd n (by omega)⟩
theorem wd_act (hi : nth all i = some o) (hb : nth bs i = some b) (ha : acts o.op = true)
    (h : WO E C all [o] l A fun l1 A1 => stillK E C l1 A1 b seen ∧ WD E C all bs order seen l1 A1 K) : WD E C all bs (i :: order) seen l A K := ⟨fun F hF => by
  obtain ⟨F1, A1, l1, hF1, ⟨hs, hk⟩, ho⟩ := h.run F hF
  obtain ⟨n1, ho⟩ := ops_one ho
  obtain ⟨F2, A2, l2, hF2, hk2, n2, hd⟩ := hk.run F1 hF1
  refine ⟨F2, A2, l2, hF2, hk2, n1 + n2, fun n hn => ?_⟩
  simp only [drawA, hi, hb, ho n (by omega), ha, cond_true, still_of hF1 hs]
  exact hd n (by omega)⟩
theorem wd_is (t : Tmp) {x : Bool} (x' : Bool) (ht : l.find t = some (.bool x)) (hb : x = x') (h : WD E C all bs order seen (.put t (.bool x') l) A K) : WD E C all bs order seen l A K := ⟨fun F hF => h.run F ⟨hF.mask, fun j w hj => by
    subst hb
    simp only [Kn.find] at hj
    cases hb : Nat.beq t j <;> rw [hb] at hj
    · exact hF.get j w hj
    · cases hj
      rw [← Nat.eq_of_beq_eq_true hb]
      exact hF.get t _ ht⟩⟩
theorem wd_le (l' : Kn) (h : WD E C all bs order seen l' A K) (hl : l'.le l) : WD E C all bs order seen l A K := ⟨fun F hF => h.run F (hF.le hl)⟩
theorem lenA_eq {t : TypeId} {v : AV} {n : Nat} (ht : R.lenKind E t = 2) (hn : lenV v = some n) : lenA E t v A = .val (.int .i64 (n : Int)) A := by
  obtain ⟨dt, e, h1, h2⟩ := lenKind2 ht
  unfold lenA
  rw [h1]
  simp only [h2]
  cases v <;> simp only [lenV, Option.some.injEq, reduceCtorEq] at hn <;> subst hn <;> rfl
theorem loadA_eq {t : TypeId} {f s o : Nat} {dt : ATy} {ro : Bool} {es : Nat} {cs : List AV} {v : AV} (ht : E.tys.get t = some dt) (hg : dt.agg = false) (hf : A.heap.get f = some (.cells s ro es cs)) (hn : nth cs o = some v) : loadA E t (.ptr f s o) A = .val v A := by
  simp only [loadA, ht, hg, cond_false, hf, Nat.beq_refl, cond_true, hn]
theorem stillInt {k : IntKind} {n : Int} : valEq (.int k n) (.int k n) = true := by
  show (kindEq k k && ieq n n) = true
  rw [kindEq_refl, ieq_eq]
  simp
theorem wg_draw {id : Nat} {ops : Array Oper} {k : List Item} {R : AV → AW → Prop} (hd : drawOf C.draws id = some (order, bs)) (h : WD E C ops.toList bs order [] l A fun l1 A1 => WG E C k (.clr C.mask l1) A1 R) :
    WG E C (.code (.region id ops true) :: k) l A R := ⟨fun F hF => by
  obtain ⟨F1, A1, l1, hF1, hk, n1, hr⟩ := h.run F hF
  obtain ⟨F', A', v, ho, r, n0, h⟩ := hk.run _ hF1.clear
  refine ⟨F', A', v, ho, r, n0 + n1 + 1, fun n hn => ?_⟩
  obtain ⟨m, rfl⟩ : ∃ m, n = m + 1 := ⟨n - 1, by omega⟩
  show (match regA E C (fun f args A => bodyOf E f args A (go E m)) id ops.toList true F A with
    | .ok F A => go E m C k F.clear A
    | .fail m => .fail m) = _
  have := hr m (by omega)
  simp only [regA, cond_true, hd, this]
  exact h m (by omega)⟩
end

/-! ### Texts and bytes -/
theorem strEq_self : ∀ l : List Nat, strEq l l = true
  | [] => rfl
  | x :: l => by simp only [strEq, Nat.beq_refl, cond_true, strEq_self l]
theorem strEq_iff : ∀ a b : List Nat, strEq a b = decide (a = b)
  | [], [] => by simp [strEq, isNil]
  | [], _ :: _ => by simp [strEq, isNil]
  | _ :: _, [] => by simp [strEq]
  | x :: xs, y :: ys => by
    simp only [strEq, strEq_iff xs ys, beq_eq]
    by_cases h : x = y
    · subst h; simp
    · simp [h]
def mods (l : List Nat) : List Nat := l.map (· % 256)
theorem bys_mods : ∀ l : List Nat, bytesOf (bys l) = some (mods l)
  | [] => rfl
  | b :: l => by
    have h1 := bys_mods l
    show (match bytesOf (bys l) with
      | some r => some (Nat.mod b 256 :: r)
      | none => none) = _
    rw [h1]
    rfl
theorem mods_id {l : List Nat} (h : ∀ b ∈ l, b < 256) : mods l = l := by
  unfold mods
  conv => rhs; rw [← List.map_id l]
  exact List.map_congr_left fun b hb => Nat.mod_eq_of_lt (h b hb)

section
variable {E : Env} {C : FnE} {all rest : List Oper} {l : Kn} {A A1 : AW} {K : Kn → AW → Prop} {d : Tmp} {ty : TypeId} {pos : String} {after : Array Edge}
theorem toStr_buf {s t e : TypeId} {ds dt : ATy} {v : AV} {n : Nat} {bs : List Nat} (hs : E.tys.get s = some ds) (he : ds.desc = .slice e) (hu : isU8 E e = true) (ht : E.tys.get t = some dt) (hd : dt.desc = .string) (hb : Buf A 1 v n (bys bs)) :
    convertA E s t v A = .val (.str (mods bs)) A := by
  unfold convertA
  rcases hb with ⟨rfl, rfl, h⟩ | ⟨f, u, rfl, h1, h2, h3⟩
  · have : bs = [] := by cases bs with
      | nil => rfl
      | cons b l => cases h
    subst this
    rw [hs, ht]
    simp only [hd, he, hu, cond_true]
    rfl
  · rw [hs, ht]
    have e : takeN n (bys bs) = some (bys bs) := by
      rw [Nat.mul_one] at h2
      rw [takeN_some _ _ (by omega), ← h2, List.take_length]
    simp only [hd, he, hu, cond_true, readCells, h1, Nat.beq_refl, dropN, e, bys_mods]
theorem wo_convert {s t : TypeId} {x : Operand} {w v : AV} (hd : Nat.blt d C.N = true) (hx : evO l x = some w) (hv : convertA E s t w A = .val v A1) (h : WO E C all rest (.put d v l) A1 K) :
    WO E C all (⟨some d, .convert s t x, ty, pos, after, none⟩ :: rest) l A K :=
  wo_val hd (fun F hF => by
    show liftR (convertA E s t (ev F x) A) = _
    rw [hF.ev hx, hv]
    rfl) h
theorem wo_strEq {t t' : TypeId} {a b : Operand} {x y : List Nat} (hd : Nat.blt d C.N = true) (ha : evO l a = some (.str x)) (hb : evO l b = some (.str y)) (h : WO E C all rest (.put d (.bool (decide (x = y))) l) A K) :
    WO E C all (⟨some d, .binOp .eql t a b t', ty, pos, after, none⟩ :: rest) l A K :=
  wo_val hd (fun F hF => by
    show liftR (binA E .eql t (ev F a) (ev F b) A) = _
    rw [hF.ev ha, hF.ev hb]
    show liftR (retB (strEq x y) A) = _
    rw [retB_eq, strEq_iff]
    rfl) h
/-- Is it the type of truth values? -/
def isBool (E : Env) (t : TypeId) : Bool :=
  match E.tys.get t with
  | some d => (match d.desc with
    | .bool => true
    | _ => false)
  | none => false
theorem isBool_spec {t : TypeId} (h : isBool E t = true) : ∃ d, E.tys.get t = some d ∧ d.desc = .bool := by
  unfold isBool at h
  split at h
  · rename_i d hd
    split at h
    · rename_i e
      exact ⟨d, hd, e⟩
    · cases h
  · cases h
theorem wo_boolEq {t t' : TypeId} {a b : Operand} {x y : Bool} (hd : Nat.blt d C.N = true) (ha : evO l a = some (.bool x)) (hb : evO l b = some (.bool y)) (ht : isBool E t = true) (h : WO E C all rest (.put d (.bool (x == y)) l) A K) :
    WO E C all (⟨some d, .binOp .eql t a b t', ty, pos, after, none⟩ :: rest) l A K :=
  wo_val hd (fun F hF => by
    obtain ⟨dt, h1, h2⟩ := isBool_spec ht
    show liftR (binA E .eql t (ev F a) (ev F b) A) = _
    rw [hF.ev ha, hF.ev hb]
    simp only [binA, h1, h2, retB_eq, liftR]) h
theorem wo_boolNe {t t' : TypeId} {a b : Operand} {x y : Bool} (hd : Nat.blt d C.N = true) (ha : evO l a = some (.bool x)) (hb : evO l b = some (.bool y)) (ht : isBool E t = true) (h : WO E C all rest (.put d (.bool (!(x == y))) l) A K) :
    WO E C all (⟨some d, .binOp .neq t a b t', ty, pos, after, none⟩ :: rest) l A K :=
  wo_val hd (fun F hF => by
    obtain ⟨dt, h1, h2⟩ := isBool_spec ht
    show liftR (binA E .neq t (ev F a) (ev F b) A) = _
    rw [hF.ev ha, hF.ev hb]
    simp only [binA, h1, h2, retB_eq, liftR]) h
theorem wo_strNe {t t' : TypeId} {a b : Operand} {x y : List Nat} (hd : Nat.blt d C.N = true) (ha : evO l a = some (.str x)) (hb : evO l b = some (.str y)) (h : WO E C all rest (.put d (.bool (decide (x ≠ y))) l) A K) :
    WO E C all (⟨some d, .binOp .neq t a b t', ty, pos, after, none⟩ :: rest) l A K :=
  wo_val hd (fun F hF => by
    show liftR (binA E .neq t (ev F a) (ev F b) A) = _
    rw [hF.ev ha, hF.ev hb]
    show liftR (retB (!strEq x y) A) = _
    rw [retB_eq, strEq_iff, ← decide_not]
    rfl) h
end
end Go.AE
