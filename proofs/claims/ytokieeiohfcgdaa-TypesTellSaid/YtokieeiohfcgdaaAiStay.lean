/-
  WHAT AN OPERATION THAT DOES NOT ACT HANGS ON.
-/
import Derived.Test.YtokieeiohfcgdaaAiNew
namespace Go.AE
set_option linter.unusedVariables false
set_option linter.unusedSimpArgs false
variable [Rho]

/-- The same answer, in another world. -/
def OpR.setW : OpR → AW → OpR
  | .fail n, _ => .fail n
  | .val v _, B => .val v B

section
variable {E : Env} {A B : AW}

omit [Rho] in
theorem retI_setW (k : IntKind) (n : Int) : retI k n B = (retI k n A).setW B := by
  unfold retI
  cases n <;> simp only [] <;> (rename_i m; cases Nat.ble 0 m <;> rfl)
omit [Rho] in
theorem retB_setW (b : Bool) : retB b B = (retB b A).setW B := by cases b <;> rfl
omit [Rho] in
theorem quiet_setW (s : Sem Value) : quiet E s B = (quiet E s A).setW B := by
  unfold quiet
  cases runQ E.P s with
  | none => rfl
  | some v => simp only []; cases back v <;> rfl
omit [Rho] in
theorem intOp_setW (op : BinOp) (k : IntKind) (a : Int) (k' : IntKind) (b : Int) : intOp E op k a k' b B = (intOp E op k a k' b A).setW B := by
  unfold intOp
  cases kindEq k k'
  · exact quiet_setW _
  · cases op <;> first | exact retI_setW _ _ | exact retB_setW _ | exact quiet_setW _
omit [Rho] in
theorem strOp_setW (op : BinOp) (a b : List Nat) : strOp op a b B = (strOp op a b A).setW B := by
  unfold strOp
  cases op <;> first | exact retB_setW _ | rfl | (cases Nat.ble (Nat.add (len a) (len b)) 4611686018427387904 <;> rfl)
omit [Rho] in
theorem rngA_setW (op : BinOp) (k : IntKind) (lo hi : Nat) (k' : IntKind) (b : Nat) : rngA op k lo hi k' b B = (rngA op k lo hi k' b A).setW B := by
  unfold rngA
  cases op <;> simp only [Bool.cond_eq_ite] <;> (repeat' split) <;> rfl
omit [Rho] in
theorem bitsA_setW (op : BinOp) (k : IntKind) (l : List Bt) (k' : IntKind) (b : Nat) : bitsA op k l k' b B = (bitsA op k l k' b A).setW B := by
  cases op
  case shr => simp only [bitsA, Bool.cond_eq_ite] <;> (repeat' split) <;> rfl
  case shl => simp only [bitsA, Bool.cond_eq_ite] <;> (repeat' split) <;> rfl
  case and => simp only [bitsA, Bool.cond_eq_ite] <;> (repeat' split) <;> rfl
  case or => simp only [bitsA, Bool.cond_eq_ite] <;> (repeat' split) <;> rfl
  case xor => simp only [bitsA, Bool.cond_eq_ite] <;> (repeat' split) <;> rfl
  all_goals (simp only [bitsA]; exact rngA_setW ..)
omit [Rho] in
theorem restA_setW (op : BinOp) (x y : AV) : restA op x y B = (restA op x y A).setW B := by
  unfold restA
  split
  · rename_i k m r k' b
    split
    · cases (kindEq k k' && (Nat.blt 0 b && Nat.beq (Nat.mod m b) 0))
      · rfl
      · simp only [cond_true]
        exact retI_setW _ _
    · rfl
  all_goals first
    | exact rngA_setW ..
    | exact bitsA_setW ..
    | rfl
    | (cases op <;> simp only [Bool.cond_eq_ite] <;> (repeat' split) <;> first | rfl | exact retI_setW _ _)
    | (cases op <;> simp only [Bool.cond_eq_ite] <;> (repeat' split) <;> rfl)
omit [Rho] in
theorem restC_setW (d : TypeDesc) (x : AV) : restC d x B = (restC d x A).setW B := by
  unfold restC restK
  simp only [Bool.cond_eq_ite]
  repeat' split
  all_goals rfl
omit [Rho] in
theorem binA_setW (op : BinOp) (t : TypeId) (x y : AV) : binA E op t x y B = (binA E op t x y A).setW B := by
  unfold binA
  split
  · exact intOp_setW _ _ _ _ _
  · exact strOp_setW _ _ _
  · repeat' split
    all_goals first | exact retB_setW _ | rfl
  · split
    · split
      · rename_i k b hn _ d hd
        cases Nat.beq (kindD d.desc) k
        · rfl
        · simp only [cond_true]
          split <;> first | exact retB_setW _ | rfl
      · rfl
    · split
      · exact quiet_setW _
      · exact restA_setW ..
omit [Rho] in
theorem unA_setW (op : UnOp) (x : AV) : unA E op x B = (unA E op x A).setW B := by
  unfold unA
  split
  · exact retB_setW _
  · exact retI_setW _ _
  · split
    · exact quiet_setW _
    · rfl
omit [Rho] in
theorem buildA_setW (t : TypeId) (ps : List (Nat × AV)) : buildA E t ps B = (buildA E t ps A).setW B := by
  unfold buildA
  repeat' split
  all_goals rfl
omit [Rho] in
theorem fieldAddrA_setW (s : TypeId) (x : AV) (i : Nat) : fieldAddrA E s x i B = (fieldAddrA E s x i A).setW B := by
  unfold fieldAddrA
  repeat' split
  all_goals first | rfl | (rename_i df _; cases Nat.ble 1 df.size <;> rfl)
omit [Rho] in
theorem partA_setW (t : TypeId) (cs : List AV) (off : Nat) : partA E t cs off B = (partA E t cs off A).setW B := by
  unfold partA
  split
  · rename_i d _
    cases d.agg <;> simp only [cond_true, cond_false] <;> split <;> rfl
  · rfl
omit [Rho] in
theorem fieldA_setW (t : TypeId) (x : AV) (i : Nat) : fieldA E t x i B = (fieldA E t x i A).setW B := by
  unfold fieldA
  repeat' split
  all_goals first | rfl | exact partA_setW _ _ _
omit [Rho] in
theorem indexAddrA_setW (t : TypeId) (x i : AV) : indexAddrA E t x i B = (indexAddrA E t x i A).setW B := by
  unfold indexAddrA
  split
  · rename_i i d hi
    split
    · split
      · rename_i n _ _ _ _ _
        cases Nat.blt i _ <;> rfl
      · rfl
    · split
      · cases Nat.blt i _ <;> rfl
      · rfl
    · rfl
  · rfl
omit [Rho] in
theorem indexA_setW (t : TypeId) (x i : AV) : indexA E t x i B = (indexA E t x i A).setW B := by
  unfold indexA
  split
  · rename_i i d hi
    split
    · split
      · split <;> rfl
      · rfl
    · split
      · cases Nat.blt i _
        · rfl
        · exact partA_setW _ _ _
      · rfl
    · rfl
  · rfl

omit [Rho] in
theorem setW_val {r s : OpR} {v : AV} {A' : AW} (h : s = r.setW B) (hr : r = .val v A') : s = .val v B := by
  subst hr; exact h

/-! ### Reading -/
def Ext (A B : AW) : Prop := ∀ f x, A.heap.get f = some x → B.heap.get f = some x

omit [Rho] in
theorem readCells_ext (hx : Ext A B) {f s o n : Nat} {l : List AV} (h : readCells A f s o n = some l) : readCells B f s o n = some l := by
  unfold readCells at h ⊢
  split at h
  · rename_i hf
    rw [hx _ _ hf]
    exact h
  · cases h

omit [Rho] in
theorem loadA_ext (hx : Ext A B) {t : TypeId} {a v : AV} {A' : AW} (h : loadA E t a A = .val v A') : loadA E t a B = .val v B ∧ A' = A := by
  unfold loadA at h ⊢
  split at h
  · split at h
    · rename_i d hd
      cases hb : d.agg <;> rw [hb] at h <;> simp only [cond_true, cond_false, hb] at h ⊢
      · split at h
        · rename_i cur ro es cs hf
          simp only [hx _ _ hf]
          cases hc : Nat.beq cur _ <;> rw [hc] at h <;> simp only [cond_true, cond_false, reduceCtorEq] at h ⊢
          split at h
          · cases h; exact ⟨rfl, rfl⟩
          · cases h
        · cases h
      · split at h
        · rename_i cs hr
          cases h
          rw [readCells_ext hx hr]
          exact ⟨rfl, rfl⟩
        · cases h
    · cases h
  · cases h

omit [Rho] in
theorem lookup_src (hx : Ext A B) {m : AV} {es : List (AV × AV)} : (match m with
          | .nilm => some []
          | .map f => (match A.heap.get f with
            | some (.map es) => some es
            | _ => none)
          | _ => none) = some es → (match m with
          | .nilm => some []
          | .map f => (match B.heap.get f with
            | some (.map es) => some es
            | _ => none)
          | _ => none) = some es := by
  intro h
  cases m <;> simp only [reduceCtorEq] at h
  · exact h
  rename_i f
  simp only
  cases hf : A.heap.get f with
  | none => rw [hf] at h; cases h
  | some x =>
    rw [hf] at h
    rw [hx _ _ hf]
    exact h

omit [Rho] in
theorem lookupA_ext (hx : Ext A B) {t : TypeId} {m k v : AV} {ok : Bool} {A' : AW} (h : lookupA E t m k ok A = .val v A') : lookupA E t m k ok B = .val v B ∧ A' = A := by
  unfold lookupA at h ⊢
  split at h
  · split at h
    · rename_i kt vt hdd
      cases hb : keyOk E kt k <;> rw [hb] at h <;> simp only [cond_true, cond_false, reduceCtorEq] at h ⊢
      split at h
      · rename_i es hes
        split
        · rename_i es2 h2
          have e2 : some es = some es2 := Eq.trans (lookup_src hx hes).symm h2
          cases e2
          split at h
          · cases h; exact ⟨by simp only [*], rfl⟩
          · split at h
            · split at h
              · cases h; exact ⟨by simp only [*], rfl⟩
              · cases h
            · cases h
          · cases h
        · rename_i h2
          exact absurd (Eq.trans (lookup_src hx hes).symm h2) (by simp)
      · cases h
    · cases h
  · cases h

omit [Rho] in
theorem lenA_ext (hx : Ext A B) {t : TypeId} {x v : AV} {A' : AW} (h : lenA E t x A = .val v A') : lenA E t x B = .val v B ∧ A' = A := by
  unfold lenA at h ⊢
  split at h
  · split at h <;> try (cases h; exact ⟨rfl, rfl⟩)
    · rename_i lo hi _
      cases hb : Nat.beq lo hi <;> rw [hb] at h <;> simp only [cond_true, cond_false] at h ⊢ <;> cases h <;> exact ⟨rfl, rfl⟩
    · split at h
      · rename_i hf
        rw [hx _ _ hf]
        cases h
        exact ⟨rfl, rfl⟩
      · cases h
    · cases h
  · cases h

omit [Rho] in
theorem sliceStr_setW (s : List Nat) (lo hi : Option AV) : sliceStr s lo hi B = (sliceStr s lo hi A).setW B := by
  unfold sliceStr
  repeat' split
  all_goals rfl
omit [Rho] in
theorem sliceNone_setW (x y : AV) (lo hi mx : Option AV) : sliceNone x y lo hi mx B = (sliceNone x y lo hi mx A).setW B := by
  unfold sliceNone
  repeat' split
  all_goals rfl

omit [Rho] in
theorem sliceArr_ext (hx : Ext A B) {f s o n es : Nat} {lo hi : Option AV} {v : AV} {A' : AW} (h : sliceArr f s o n es lo hi A = .val v A') : sliceArr f s o n es lo hi B = .val v B ∧ A' = A := by
  unfold sliceArr at h ⊢
  split at h
  · rename_i cur ro es' cs hf
    rw [hx _ _ hf]
    cases hb : (Nat.beq es' es && (Nat.beq cur s && (Nat.ble 1 es && Nat.ble (Nat.add o (Nat.mul n es)) (len cs)))) <;> rw [hb] at h <;> simp only [cond_true, cond_false, reduceCtorEq, hb] at h ⊢
    split at h
    · split at h
      · rename_i l hl
        cases hb2 : Nat.beq l n <;> rw [hb2] at h <;> simp only [cond_true, cond_false] at h ⊢ <;> cases h <;> exact ⟨rfl, rfl⟩
      · cases h
    · cases h
  · cases h

omit [Rho] in
theorem sliceRow_ext (hx : Ext A B) {f s o n c es : Nat} {ex : Bool} {lo hi mx : Option AV} {v : AV} {A' : AW} (h : sliceRow f s o n c es ex lo hi mx A = .val v A') : sliceRow f s o n c es ex lo hi mx B = .val v B ∧ A' = A := by
  unfold sliceRow at h ⊢
  split at h
  · rename_i cur ro es' cs hf
    rw [hx _ _ hf]
    cases hb : (Nat.beq es' es && Nat.beq cur s) <;> rw [hb] at h <;> simp only [cond_true, cond_false, reduceCtorEq, hb] at h ⊢
    split at h
    · split at h
      · split at h
        · rename_i l hl
          cases hb2 : Nat.beq l c <;> rw [hb2] at h <;> simp only [cond_true, cond_false] at h ⊢ <;> cases h <;> exact ⟨rfl, rfl⟩
        · cases h
      · cases h
    · split at h
      · split at h
        · split at h
          · rename_i m hi' heq1 _ _ _ _ l hl
            cases hb2 : Nat.beq l m <;> rw [hb2] at h <;> simp only [cond_true, cond_false] at h ⊢ <;> cases h <;> exact ⟨rfl, rfl⟩
          · cases h
        · cases h
      · cases h
  · cases h

omit [Rho] in
theorem setW_self {r : OpR} {v : AV} {A' : AW} (h : r = r.setW A) (hr : r = .val v A') : A' = A := by
  subst hr
  simp only [OpR.setW, OpR.val.injEq, true_and] at h
  exact h

omit [Rho] in
theorem sliceA_ext (hx : Ext A B) {t : TypeId} {x v : AV} {lo hi mx : Option AV} {A' : AW} (h : sliceA E t x lo hi mx A = .val v A') : sliceA E t x lo hi mx B = .val v B ∧ A' = A := by
  unfold sliceA at h ⊢
  split at h
  · cases h
  · split at h
    · split at h
      · exact ⟨setW_val (sliceStr_setW ..) h, setW_self (sliceStr_setW ..) h⟩
      · cases h
    · split at h
      · exact sliceArr_ext hx h
      · cases h
    · split at h
      · split at h
        · exact sliceRow_ext hx h
        · cases h
      · split at h
        · exact ⟨setW_val (sliceNone_setW ..) h, setW_self (sliceNone_setW ..) h⟩
        · cases h
      · split at h
        · exact ⟨setW_val (sliceNone_setW ..) h, setW_self (sliceNone_setW ..) h⟩
        · cases h
      · cases h
    · cases h

omit [Rho] in
theorem convertA_ext (hx : Ext A B) {src dst : TypeId} {x v : AV} {A' : AW} (h : convertA E src dst x A = .val v A') (hn : A'.nxt = A.nxt) : convertA E src dst x B = .val v B ∧ A' = A := by
  unfold convertA at h ⊢
  split at h
  · split at h
    · exact ⟨setW_val (retI_setW ..) h, setW_self (retI_setW ..) h⟩
    · cases h; exact ⟨rfl, rfl⟩
    · rename_i e s hd
      cases hb : isU8 E e <;> rw [hb] at h <;> simp only [cond_true, cond_false, reduceCtorEq] at h
      cases h
      exact absurd hn (by simp)
    · split at h
      · rename_i e he
        cases hb : isU8 E e <;> rw [hb] at h <;> simp only [cond_true, cond_false, reduceCtorEq] at h ⊢
        cases h; exact ⟨rfl, rfl⟩
      · cases h
    · split at h
      · rename_i e he
        cases hb : isU8 E e <;> rw [hb] at h <;> simp only [cond_true, cond_false, reduceCtorEq] at h ⊢
        cases h; exact ⟨rfl, rfl⟩
      · cases h
    · split at h
      · rename_i e he
        cases hb : isU8 E e <;> rw [hb] at h <;> simp only [cond_true, cond_false, reduceCtorEq] at h ⊢
        split at h
        · rename_i cs hr
          rw [readCells_ext hx hr]
          simp only
          split at h
          · cases h; exact ⟨rfl, rfl⟩
          · cases ha : allByte cs <;> rw [ha] at h <;> simp only [cond_true, cond_false, reduceCtorEq] at h ⊢
            cases h; exact ⟨rfl, rfl⟩
        · cases h
      · cases h
    · cases h; exact ⟨rfl, rfl⟩
    · exact ⟨setW_val (restC_setW ..) h, setW_self (restC_setW ..) h⟩
  · cases h
end

section
variable {E : Env} {A B : AW}

omit [Rho] in
/-- **WHAT NEITHER ACTS NOR MAKES MEMORY** answers the same where what it reads is the same. -/
theorem float_ext {F : Fr} {o : Oper} {v : AV} {A' : AW} (ha : acts o.op = false) (hm : makes o.op = false) (h : execA E F o A = .val v A') (hn : A'.nxt = A.nxt) (hx : reads o.op = true → Ext A B) : execA E F o B = .val v B ∧ A' = A := by
  obtain ⟨dst, op, type, pos, after, guard⟩ := o
  have lift : ∀ {r : OpR}, (r = .val v B ∧ A' = A) → (liftR r = .val v B ∧ A' = A) := fun h => ⟨by rw [h.1]; rfl, h.2⟩
  have two : ∀ {r s : OpR}, s = r.setW B → r = r.setW A → r = .val v A' → (s = .val v B ∧ A' = A) := fun h1 h2 h3 => ⟨setW_val h1 h3, setW_self h2 h3⟩
  cases op <;> simp only [acts, makes, reads, reduceCtorEq, Bool.true_eq_false] at ha hm hx <;> simp only [execA] at h ⊢
  case call c =>
    obtain ⟨callee, args, argTypes⟩ := c
    simp only [callA] at h ⊢
    cases callee with
    | value x => simp at ha
    | invoke r m => simp at ha
    | builtin b =>
      simp only at h ⊢ ha hx
      refine lift ?_
      replace h := liftR_val h
      unfold builtinA at h ⊢
      cases b <;> simp only [reduceCtorEq, Bool.true_eq_false] at h ⊢ ha hx
      case len =>
        split at h
        · exact lenA_ext (hx trivial) h
        · cases h
      case complex =>
        split at h
        · rename_i k a k' b hargs
          cases hb : decide (k = k') <;> rw [hb] at h <;> simp only [cond_true, cond_false, reduceCtorEq] at h ⊢
          cases h
          exact ⟨rfl, rfl⟩
        · cases h
      case real =>
        split at h
        · cases h; exact ⟨rfl, rfl⟩
        · cases h
      case imag =>
        split at h
        · cases h; exact ⟨rfl, rfl⟩
        · cases h
      case min =>
        split at h
        · split at h
          · cases h; exact ⟨rfl, rfl⟩
          · cases h
        · cases h
      case max =>
        split at h
        · split at h
          · cases h; exact ⟨rfl, rfl⟩
          · cases h
        · cases h
  all_goals (refine lift ?_; replace h := liftR_val h; simp only [execV, reduceCtorEq] at h ⊢)
  case move x => cases h; exact ⟨rfl, rfl⟩
  case pick c a b =>
    split at h
    · cases h; exact ⟨rfl, rfl⟩
    · cases h; exact ⟨rfl, rfl⟩
    · cases h
  case build t ps => exact two (buildA_setW ..) (buildA_setW ..) h
  case load t x => exact loadA_ext (hx trivial) h
  case nilCheck x =>
    split at h
    · cases h; exact ⟨rfl, rfl⟩
    · cases h; exact ⟨rfl, rfl⟩
    · cases h
  case binOp op t x y z => exact two (binA_setW ..) (binA_setW ..) h
  case unOp op t x => exact two (unA_setW ..) (unA_setW ..) h
  case convert s d x => exact convertA_ext (hx trivial) h hn
  case slice t x lo hi mx => exact sliceA_ext (hx trivial) h
  case fieldAddr s x i => exact two (fieldAddrA_setW ..) (fieldAddrA_setW ..) h
  case field t x i => exact two (fieldA_setW ..) (fieldA_setW ..) h
  case indexAddr t x i => exact two (indexAddrA_setW ..) (indexAddrA_setW ..) h
  case index t x i => exact two (indexA_setW ..) (indexA_setW ..) h
  case lookup t x i ok => exact lookupA_ext (hx trivial) h
  case extract x i =>
    split at h
    · split at h
      · cases h; exact ⟨rfl, rfl⟩
      · cases h
    · cases h
  case makeFunc f a b => cases f <;> simp only [reduceCtorEq] at h <;> (cases h; exact ⟨rfl, rfl⟩)
  all_goals first | cases h | skip

/-! ### What an operation looks at -/
omit [Rho] in
theorem evs_congr {F F2 : Fr} : ∀ l : List Operand, (∀ x ∈ l, ev F2 x = ev F x) → evs F2 l = evs F l
  | [], _ => rfl
  | x :: l, h => by simp only [evs]; rw [h x (List.mem_cons_self ..), evs_congr l fun y hy => h y (List.mem_cons_of_mem _ hy)]

omit [Rho] in
theorem partsA_congr {F F2 : Fr} : ∀ l : List (Nat × Operand), (∀ p ∈ l, ev F2 p.2 = ev F p.2) → partsA F2 l = partsA F l
  | [], _ => rfl
  | (i, x) :: l, h => by simp only [partsA]; rw [h (i, x) (List.mem_cons_self ..), partsA_congr l fun y hy => h y (List.mem_cons_of_mem _ hy)]

omit [Rho] in
theorem execA_congr {F F2 : Fr} {o : Oper} (h : ∀ x ∈ o.op.operands, ev F2 x = ev F x) : execA E F2 o A = execA E F o A := by
  obtain ⟨dst, op, type, pos, after, guard⟩ := o
  cases op <;> simp only [Op.operands] at h <;> simp only [execA, execV]
  case call c =>
    obtain ⟨callee, args, argTypes⟩ := c
    have ha : evs F2 args.toList = evs F args.toList := evs_congr _ fun x hx => h x (by simp only [Call.operands]; exact Array.mem_append_right _ (by simpa using hx))
    cases callee with
    | value x => simp only [callA, ha, h x (by simp [Call.operands])]
    | invoke r m => rfl
    | builtin b => simp only [callA, ha]
  case build t ps => rw [partsA_congr ps.toList fun p hp => h p.2 (by simp; exact ⟨p.1, by simpa using hp⟩)]
  case buildSlice t n ps => rw [partsA_congr ps.toList fun p hp => h p.2 (by simp; exact ⟨p.1, by simpa using hp⟩)]
  case makeFunc f a b =>
    have h1 := evs_congr a.toList fun x hx => h x (by simp; exact .inl (by simpa using hx))
    have h2 := evs_congr b.toList fun x hx => h x (by simp; exact .inr (by simpa using hx))
    cases f <;> simp only [h1, h2]
  case slice t x lo hi mx =>
    cases lo <;> cases hi <;> cases mx <;> simp [optA] at h ⊢ <;> simp only [h]
  case makeMap t r => cases r <;> rfl
  all_goals first | rfl | (simp at h; simp only [h])

omit [Rho] in
theorem looks_ev {F F2 : Fr} {ops : Array Oper} {o : Oper} (h : ∀ t ∈ o.looksAt ops, F2.get t = F.get t) : ∀ x ∈ o.op.operands, ev F2 x = ev F x := fun x hx => by
  cases x with
  | tmp t =>
    have := h t (List.mem_append_left _ (List.mem_filterMap.2 ⟨.tmp t, by simpa using hx, rfl⟩))
    simp only [ev, this]
  | _ => rfl

omit [Rho] in
theorem looks_wanted {F F2 : Fr} {ops : Array Oper} {o : Oper} (h : ∀ t ∈ o.looksAt ops, F2.get t = F.get t) : wantedA ops.toList F2 o = wantedA ops.toList F o := by
  unfold wantedA
  cases hg : o.guard with
  | none => rfl
  | some gw =>
    obtain ⟨g, want⟩ := gw
    simp only
    cases ho : nth ops.toList g with
    | none => rfl
    | some oj =>
      simp only
      cases hd : oj.dst with
      | none => rfl
      | some d =>
        simp only
        rw [h d]
        rw [nth_eq] at ho
        have ho' : ops[g]? = some oj := by simpa using ho
        simp [Oper.looksAt, hg, ho', hd]

omit [Rho] in
theorem looks_exec {F F2 : Fr} {ops : Array Oper} {o : Oper} (h : ∀ t ∈ o.looksAt ops, F2.get t = F.get t) (A : AW) : execA E F2 o A = execA E F o A := execA_congr (looks_ev h)

/-! ### The same value -/
omit [Rho] in
theorem strEq_nat : ∀ {a b : List Nat}, strEq a b = true → a = b
  | [], [], _ => rfl
  | [], _ :: _, h => by simp [strEq, isNil] at h
  | _ :: _, [], h => by simp [strEq] at h
  | x :: xs, y :: ys, h => by
    simp only [strEq, beq_eq] at h
    by_cases e : x = y
    · simp [e] at h; rw [e, strEq_nat h]
    · simp [e] at h

omit [Rho] in
theorem avEq_eq {a b : AV} (h : avEq a b = true) : a = b := by
  unfold avEq at h
  split at h <;> (try simp only [Bool.and_eq_true, beq_eq, decide_eq_true_eq, kindEq_eq, ieq_eq, beq_iff_eq, reduceCtorEq, Bool.false_eq_true] at h) <;> try rfl
  · rw [h]
  · rw [h.1, h.2]
  · rw [h.1, h.2]
  · rw [h.1.1, h.1.2, h.2]
  · rw [strEq_nat h]
  · rw [h.1.1, h.1.2, h.2]
  · rw [h]
  · obtain ⟨⟨⟨⟨⟨rfl, rfl⟩, rfl⟩, rfl⟩, rfl⟩, rfl⟩ := h; rfl
  · rw [h]
  · rw [h]
  · rw [h.1.1, h.1.2, h.2]
  · rw [h.1.1, h.1.2, h.2]
  · rw [h.1.1, h.1.2, h.2]
  · rw [h.1.1.1, h.1.1.2, h.1.2, h.2]
  · rw [strEq_nat h.1, h.2]
  · rw [h]
  · rw [h.1, btsEq_val h.2]
  · rw [h.1, btsEq_val h.2]
  · rw [h.1.1, h.1.2, h.2]
  · rw [h.1, h.2]
  · rw [h.1.1, btsEq_val h.1.2, h.2]

omit [Rho] in
theorem avsEq_eq : ∀ {a b : List AV}, avsEq a b = true → a = b
  | [], [], _ => rfl
  | [], _ :: _, h => by simp [avsEq, isNil] at h
  | _ :: _, [], h => by simp [avsEq] at h
  | x :: xs, y :: ys, h => by
    simp only [avsEq, Bool.and_eq_true] at h
    rw [avEq_eq h.1, avsEq_eq h.2]

omit [Rho] in
theorem valEq_eq {a b : AV} (h : valEq a b = true) : a = b := by
  unfold valEq at h
  split at h
  · rw [avsEq_eq h]
  · rw [avsEq_eq h]
  · exact avEq_eq h

omit [Rho] in
theorem still_spec {F : Fr} {b : Nat} : ∀ {l : List Seen}, still E F A b l = true → ∀ s ∈ l, bit b s.i = false → ∃ B, execA E F s.o A = .val s.v B ∧ B.nxt = A.nxt
  | [], _, s, hs, _ => by cases hs
  | x :: l, h, s, hs, hb => by
    simp only [still] at h
    cases hx : bit b x.i
    · rw [hx] at h
      simp only [cond_false] at h
      split at h
      · rename_i v B he
        cases hn : Nat.beq B.nxt A.nxt <;> rw [hn] at h <;> simp only [cond_true, cond_false, reduceCtorEq, Bool.false_eq_true] at h
        cases hv : valEq v x.v <;> rw [hv] at h <;> simp only [cond_true, cond_false, reduceCtorEq, Bool.false_eq_true] at h
        rcases List.mem_cons.1 hs with rfl | hs
        · refine ⟨B, ?_, by rw [beq_eq] at hn; simpa using hn⟩
          rw [he, valEq_eq hv]
        · exact still_spec h s hs hb
      · cases h
    · rw [hx] at h
      simp only [cond_true] at h
      rcases List.mem_cons.1 hs with rfl | hs
      · rw [hx] at hb; cases hb
      · exact still_spec h s hs hb
end
end Go.AE
