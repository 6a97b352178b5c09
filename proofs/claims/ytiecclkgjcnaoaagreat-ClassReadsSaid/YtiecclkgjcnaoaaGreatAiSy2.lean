/-
  THE EVALUATOR BY RULES, second part: operation by operation.
-/
import Derived.Test.YtiecclkgjcnaoaaGreatAiSy
import Derived.Test.YtiecclkgjcnaoaaGreatAiOps
namespace Go.AE
set_option linter.unusedVariables false
set_option linter.unusedSimpArgs false
def AW.put (A : AW) (f : Nat) (x : AFam) : AW := ⟨A.heap.set f x, A.nxt⟩
def AW.add (A : AW) (x : AFam) : AW := ⟨A.heap.set A.nxt x, Nat.succ A.nxt⟩
@[simp] theorem AW.put_get (A : AW) (f : Nat) (x : AFam) (g : Nat) : (A.put f x).heap.get g = if g = f then some x else A.heap.get g := Tr.get_set _ _ _ _
@[simp] theorem AW.add_get (A : AW) (x : AFam) (g : Nat) : (A.add x).heap.get g = if g = A.nxt then some x else A.heap.get g := Tr.get_set _ _ _ _
@[simp] theorem AW.put_nxt (A : AW) (f : Nat) (x : AFam) : (A.put f x).nxt = A.nxt := rfl
@[simp] theorem AW.add_nxt (A : AW) (x : AFam) : (A.add x).nxt = A.nxt + 1 := rfl
theorem retI_eq (k : IntKind) (n : Int) (A : AW) : retI k n A = .val (.int k n) A := by
  have h0 : ∀ m, Nat.ble 0 m = true := fun m => Nat.ble_eq_true_of_le (Nat.zero_le m)
  cases n with
  | ofNat m => simp only [retI, h0, cond_true]
  | negSucc m => simp only [retI, h0, cond_true]
theorem retB_eq (b : Bool) (A : AW) : retB b A = .val (.bool b) A := by cases b <;> rfl
theorem kindEq_refl (k : IntKind) : kindEq k k = true := by rw [kindEq_eq]; simp
section
variable {E : Env} {A : AW} {k : IntKind} {a b : Int}
theorem int_add : intOp E .add k a k b A = .val (.int k (k.wrap (a + b))) A := by simp only [intOp, kindEq_refl, cond_true, retI_eq, wrapI_eq, iadd_eq]
theorem int_sub : intOp E .sub k a k b A = .val (.int k (k.wrap (a - b))) A := by simp only [intOp, kindEq_refl, cond_true, retI_eq, wrapI_eq, isub_eq]
theorem int_mul : intOp E .mul k a k b A = .val (.int k (k.wrap (a * b))) A := by simp only [intOp, kindEq_refl, cond_true, retI_eq, wrapI_eq]
theorem int_eql : intOp E .eql k a k b A = .val (.bool (decide (a = b))) A := by simp only [intOp, kindEq_refl, cond_true, retB_eq, ieq_eq]
theorem int_neq : intOp E .neq k a k b A = .val (.bool (decide (a ≠ b))) A := by simp only [intOp, kindEq_refl, cond_true, retB_eq, ieq_eq, ne_eq, decide_not]
theorem int_lss : intOp E .lss k a k b A = .val (.bool (decide (a < b))) A := by simp only [intOp, kindEq_refl, cond_true, retB_eq, ilt_eq]
theorem int_gtr : intOp E .gtr k a k b A = .val (.bool (decide (b < a))) A := by simp only [intOp, kindEq_refl, cond_true, retB_eq, ilt_eq]
theorem int_leq : intOp E .leq k a k b A = .val (.bool (decide (a ≤ b))) A := by
  simp only [intOp, kindEq_refl, cond_true, retB_eq, ilt_eq, ← decide_not, Int.not_lt]
theorem int_geq : intOp E .geq k a k b A = .val (.bool (decide (b ≤ a))) A := by
  simp only [intOp, kindEq_refl, cond_true, retB_eq, ilt_eq, ← decide_not, Int.not_lt]
theorem int_rem (h : b ≠ 0) : intOp E .rem k a k b A = .val (.int k (a.tmod b)) A := by
  simp only [intOp, kindEq_refl, cond_true]
  show quiet E (if k ≠ k then _ else Op.intDiv .rem k a b) A = _
  rw [if_neg (by simp)]
  unfold Op.intDiv
  rw [if_neg h]
  rfl
theorem int_quo (h : b ≠ 0) : intOp E .quo k a k b A = .val (.int k (k.wrap (a.tdiv b))) A := by
  simp only [intOp, kindEq_refl, cond_true]
  show quiet E (if k ≠ k then _ else Op.intDiv .quo k a b) A = _
  rw [if_neg (by simp)]
  unfold Op.intDiv
  rw [if_neg h]
  rfl
theorem int_or : intOp E .or k a k b A = .val (.int k (k.wrap ((BitVec.ofInt k.bits a ||| BitVec.ofInt k.bits b).toNat : Int))) A := by
  simp only [intOp, kindEq_refl, cond_true]
  show quiet E (if k ≠ k then _ else Op.intBits .or k a b) A = _
  rw [if_neg (by simp)]
  rfl
theorem int_and : intOp E .and k a k b A = .val (.int k (k.wrap ((BitVec.ofInt k.bits a &&& BitVec.ofInt k.bits b).toNat : Int))) A := by
  simp only [intOp, kindEq_refl, cond_true]
  show quiet E (if k ≠ k then _ else Op.intBits .and k a b) A = _
  rw [if_neg (by simp)]
  rfl
theorem int_xor : intOp E .xor k a k b A = .val (.int k (k.wrap ((BitVec.ofInt k.bits a ^^^ BitVec.ofInt k.bits b).toNat : Int))) A := by
  simp only [intOp, kindEq_refl, cond_true]
  show quiet E (if k ≠ k then _ else Op.intBits .xor k a b) A = _
  rw [if_neg (by simp)]
  rfl
theorem shift_quiet {op : BinOp} {k k' : IntKind} (h : op = .shl ∨ op = .shr) : intOp E op k a k' b A = quiet E (Op.shift op k a k' b) A := by
  unfold intOp
  rcases h with rfl | rfl <;> (cases kindEq k k' <;> rfl)
theorem int_shl {k k' : IntKind} (h : 0 ≤ b) : intOp E .shl k a k' b A = .val (.int k (k.wrap (a * 2 ^ (min b.toNat k.bits)))) A := by
  rw [shift_quiet (.inl rfl)]
  unfold Op.shift
  rw [if_neg (by omega)]
  rfl
theorem int_shr {k k' : IntKind} (h : 0 ≤ b) : intOp E .shr k a k' b A = .val (.int k (a.fdiv (2 ^ (min b.toNat k.bits)))) A := by
  rw [shift_quiet (.inr rfl)]
  unfold Op.shift
  rw [if_neg (by omega)]
  rfl
end
theorem wrap_i64 {z : Int} (h1 : -9223372036854775808 ≤ z) (h2 : z < 9223372036854775808) : IntKind.i64.wrap z = z := by
  have : IntKind.i64.wrap z = (if (z % 18446744073709551616 : Int) ≥ 9223372036854775808 then z % 18446744073709551616 - 18446744073709551616 else z % 18446744073709551616) := by
    unfold IntKind.wrap; simp [IntKind.bits, IntKind.signed]
  rw [this]
  split <;> omega
theorem wrap_u64 (z : Int) : IntKind.u64.wrap z = z % 18446744073709551616 := by
  unfold IntKind.wrap; simp [IntKind.bits, IntKind.signed]
theorem wrap_u8 (z : Int) : IntKind.u8.wrap z = z % 256 := by
  unfold IntKind.wrap; simp [IntKind.bits, IntKind.signed]
section
variable {E : Env} {C : FnE} {all rest : List Oper} {l : Kn} {A A1 : AW} {K : Kn → AW → Prop} {d : Tmp} {ty : TypeId} {pos : String} {after : Array Edge}
theorem qJ {x : Operand} {v : AV} (hd : Nat.blt d C.N = true) (hx : evO l x = some v) (h : WO E C all rest (.put d v l) A K) : WO E C all (⟨some d, .move x, ty, pos, after, none⟩ :: rest) l A K :=
  wo_val hd (fun F hF => by show OpE.val (ev F x) A = _; rw [hF.ev hx]) h
theorem qE {x : Operand} {v : AV} (hd : Nat.blt d C.N = true) (hx : evO l x = some v) (h : WO E C all rest (.put d v l) A K) : WO E C all (⟨some d, .assign x, ty, pos, after, none⟩ :: rest) l A K :=
  wo_val hd (fun F hF => by show OpE.val (ev F x) A = _; rw [hF.ev hx]) h
theorem qR {c a b : Operand} {x : Bool} {v : AV} (hd : Nat.blt d C.N = true) (hc : evO l c = some (.bool x)) (hx : evO l (bif x then a else b) = some v) (h : WO E C all rest (.put d v l) A K) : WO E C all (⟨some d, .pick c a b, ty, pos, after, none⟩ :: rest) l A K :=
  wo_val hd (fun F hF => by
    show liftR (match ev F c with
      | .bool true => .val (ev F a) A
      | .bool false => .val (ev F b) A
      | _ => .fail 140) = _
    rw [hF.ev hc]
    cases x
    · simp only [liftR]; rw [hF.ev (x := b) hx]
    · simp only [liftR]; rw [hF.ev (x := a) hx]) h
theorem wo_alloc {t : TypeId} {dt : ATy} {z : List AV} (hd : Nat.blt d C.N = true) (ht : E.tys.get t = some dt) (hz : dt.zero = some z) (h : WO E C all rest (.put d (.ptr A.nxt 0 0) l) (A.add (.cells 0 false (esOf E dt) z)) K) :
    WO E C all (⟨some d, .alloc t, ty, pos, after, none⟩ :: rest) l A K :=
  wo_val hd (fun F hF => by
    show liftR (match E.tys.get t with
      | some d => (match d.zero with
        | some z => .val (.ptr A.nxt 0 0) (newFam A (esOf E d) z)
        | none => .fail 141)
      | none => .fail 141) = _
    rw [ht]
    simp only [hz, liftR]
    rfl) h
theorem wo_box {t : TypeId} {x : Operand} {v : AV} {dt : ATy} {cs : List AV} (hd : Nat.blt d C.N = true) (hx : evO l x = some v) (ht : E.tys.get t = some dt) (hc : cellsOf v = some cs) (h : WO E C all rest (.put d (.ptr A.nxt 0 0) l) (A.add (.cells 0 false (esOf E dt) cs)) K) :
    WO E C all (⟨some d, .box t x, ty, pos, after, none⟩ :: rest) l A K :=
  wo_val hd (fun F hF => by
    show liftR (match E.tys.get t, cellsOf (ev F x) with
      | some d, some cs => .val (.ptr A.nxt 0 0) (newFam A (esOf E d) cs)
      | _, _ => .fail 142) = _
    rw [ht, hF.ev hx, hc]
    simp only [liftR]
    rfl) h
theorem wo_build {t : TypeId} {ps : Array (Nat × Operand)} {vs : List (Nat × AV)} {v : AV} (hd : Nat.blt d C.N = true) (hx : partsO l ps.toList = some vs) (hb : buildA E t vs A = .val v A) (h : WO E C all rest (.put d v l) A K) :
    WO E C all (⟨some d, .build t ps, ty, pos, after, none⟩ :: rest) l A K :=
  wo_val hd (fun F hF => by
    show liftR (buildA E t (partsA F ps.toList) A) = _
    rw [hF.parts hx, hb]
    rfl) h
theorem wo_buildSlice {t : TypeId} {n : Nat} {ps : Array (Nat × Operand)} {vs : List (Nat × AV)} {v : AV} {es : Nat} {cs : List AV} (hd : Nat.blt d C.N = true) (hx : partsO l ps.toList = some vs) (hb : buildSliceA E t n vs A = .val v (newFam A es cs)) (h : WO E C all rest (.put d v l) (A.add (.cells 0 false es cs)) K) :
    WO E C all (⟨some d, .buildSlice t n ps, ty, pos, after, none⟩ :: rest) l A K :=
  wo_val hd (fun F hF => by
    show liftR (buildSliceA E t n (partsA F ps.toList) A) = _
    rw [hF.parts hx, hb]
    rfl) h
theorem qP {t : TypeId} {a : Operand} {f s o : Nat} {dt : ATy} {ro : Bool} {es : Nat} {cs : List AV} {v : AV} (hd : Nat.blt d C.N = true) (ha : evO l a = some (.ptr f s o)) (ht : E.tys.get t = some dt) (hg : dt.agg = false)
    (hf : A.heap.get f = some (.cells s ro es cs)) (hn : nth cs o = some v) (h : WO E C all rest (.put d v l) A K) : WO E C all (⟨some d, .load t a, ty, pos, after, none⟩ :: rest) l A K :=
  wo_val hd (fun F hF => by
    show liftR (loadA E t (ev F a) A) = _
    rw [hF.ev ha]
    simp only [loadA, ht, hg, cond_false, hf, Nat.beq_refl, cond_true, hn, liftR]) h
theorem xG {t : TypeId} {a : Operand} {f s o : Nat} {dt : ATy} {ro : Bool} {es : Nat} {cs vs : List AV} (hd : Nat.blt d C.N = true) (ha : evO l a = some (.ptr f s o)) (ht : E.tys.get t = some dt) (hg : dt.agg = true)
    (hf : A.heap.get f = some (.cells s ro es cs)) (hn : takeN dt.size (dropN o cs) = some vs) (h : WO E C all rest (.put d (.agg vs) l) A K) : WO E C all (⟨some d, .load t a, ty, pos, after, none⟩ :: rest) l A K :=
  wo_val hd (fun F hF => by
    show liftR (loadA E t (ev F a) A) = _
    rw [hF.ev ha]
    simp only [loadA, ht, hg, cond_true, readCells, hf, Nat.beq_refl, cond_true, hn, liftR]) h
theorem qZ {t : TypeId} {a x : Operand} {f s o : Nat} {dt : ATy} {es : Nat} {cs cs' xs : List AV} {v : AV} (ha : evO l a = some (.ptr f s o)) (hx : evO l x = some v) (hc : cellsOf v = some xs) (ht : E.tys.get t = some dt)
    (hl : Nat.beq (len xs) dt.size = true) (h0 : isNil xs = false) (hf : A.heap.get f = some (.cells s false es cs)) (hp : putN o xs cs = some cs') (h : WO E C all rest l (A.put f (.cells s false es cs')) K) :
    WO E C all (⟨none, .store t a x, ty, pos, after, none⟩ :: rest) l A K :=
  wo_non (v := .undef) (fun F hF => by
    show liftR (storeA E t (ev F a) (ev F x) A) = _
    rw [hF.ev ha, hF.ev hx]
    simp only [storeA, ht, hc, hl, cond_true, h0, cond_false, storeCellsA, hf, hp, liftR, Nat.beq_refl]
    rfl) h
theorem qW {x : Operand} {f s o : Nat} (hd : Nat.blt d C.N = true) (hx : evO l x = some (.ptr f s o)) (h : WO E C all rest (.put d (.ptr f s o) l) A K) : WO E C all (⟨some d, .nilCheck x, ty, pos, after, none⟩ :: rest) l A K :=
  wo_val hd (fun F hF => by
    show liftR (match ev F x with
      | .ptr f s o => .val (.ptr f s o) A
      | .func f a b => .val (.func f a b) A
      | _ => .fail 143) = _
    rw [hF.ev hx]
    rfl) h
theorem wo_bin {op : BinOp} {t t' : TypeId} {a b : Operand} {k k' : IntKind} {x y : Int} {v : AV} (hd : Nat.blt d C.N = true) (ha : evO l a = some (.int k x)) (hb : evO l b = some (.int k' y)) (hv : intOp E op k x k' y A = .val v A)
    (h : WO E C all rest (.put d v l) A K) : WO E C all (⟨some d, .binOp op t a b t', ty, pos, after, none⟩ :: rest) l A K :=
  wo_val hd (fun F hF => by
    show liftR (binA E op t (ev F a) (ev F b) A) = _
    rw [hF.ev ha, hF.ev hb]
    show liftR (intOp E op k x k' y A) = _
    rw [hv]
    rfl) h
theorem wo_add {t t' : TypeId} {a b : Operand} {x y : Int} (hd : Nat.blt d C.N = true) (ha : evO l a = some (.int .i64 x)) (hb : evO l b = some (.int .i64 y)) (h1 : -9223372036854775808 ≤ x + y) (h2 : x + y < 9223372036854775808)
    (h : WO E C all rest (.put d (.int .i64 (x + y)) l) A K) : WO E C all (⟨some d, .binOp .add t a b t', ty, pos, after, none⟩ :: rest) l A K :=
  wo_bin hd ha hb (by rw [int_add, wrap_i64 h1 h2]) h
theorem wo_sub {t t' : TypeId} {a b : Operand} {x y : Int} (hd : Nat.blt d C.N = true) (ha : evO l a = some (.int .i64 x)) (hb : evO l b = some (.int .i64 y)) (h1 : -9223372036854775808 ≤ x - y) (h2 : x - y < 9223372036854775808)
    (h : WO E C all rest (.put d (.int .i64 (x - y)) l) A K) : WO E C all (⟨some d, .binOp .sub t a b t', ty, pos, after, none⟩ :: rest) l A K :=
  wo_bin hd ha hb (by rw [int_sub, wrap_i64 h1 h2]) h
theorem xD {t t' : TypeId} {a b : Operand} {k : IntKind} {x y : Int} (hd : Nat.blt d C.N = true) (ha : evO l a = some (.int k x)) (hb : evO l b = some (.int k y)) (h : WO E C all rest (.put d (.bool (decide (x = y))) l) A K) :
    WO E C all (⟨some d, .binOp .eql t a b t', ty, pos, after, none⟩ :: rest) l A K := wo_bin hd ha hb int_eql h
theorem xL {t t' : TypeId} {a b : Operand} {k : IntKind} {x y : Int} (hd : Nat.blt d C.N = true) (ha : evO l a = some (.int k x)) (hb : evO l b = some (.int k y)) (h : WO E C all rest (.put d (.bool (decide (x ≠ y))) l) A K) :
    WO E C all (⟨some d, .binOp .neq t a b t', ty, pos, after, none⟩ :: rest) l A K := wo_bin hd ha hb int_neq h
theorem xM {t t' : TypeId} {a b : Operand} {k : IntKind} {x y : Int} (hd : Nat.blt d C.N = true) (ha : evO l a = some (.int k x)) (hb : evO l b = some (.int k y)) (h : WO E C all rest (.put d (.bool (decide (x < y))) l) A K) :
    WO E C all (⟨some d, .binOp .lss t a b t', ty, pos, after, none⟩ :: rest) l A K := wo_bin hd ha hb int_lss h
theorem wo_gtr {t t' : TypeId} {a b : Operand} {k : IntKind} {x y : Int} (hd : Nat.blt d C.N = true) (ha : evO l a = some (.int k x)) (hb : evO l b = some (.int k y)) (h : WO E C all rest (.put d (.bool (decide (y < x))) l) A K) :
    WO E C all (⟨some d, .binOp .gtr t a b t', ty, pos, after, none⟩ :: rest) l A K := wo_bin hd ha hb int_gtr h
theorem wo_leq {t t' : TypeId} {a b : Operand} {k : IntKind} {x y : Int} (hd : Nat.blt d C.N = true) (ha : evO l a = some (.int k x)) (hb : evO l b = some (.int k y)) (h : WO E C all rest (.put d (.bool (decide (x ≤ y))) l) A K) :
    WO E C all (⟨some d, .binOp .leq t a b t', ty, pos, after, none⟩ :: rest) l A K := wo_bin hd ha hb int_leq h
theorem wo_geq {t t' : TypeId} {a b : Operand} {k : IntKind} {x y : Int} (hd : Nat.blt d C.N = true) (ha : evO l a = some (.int k x)) (hb : evO l b = some (.int k y)) (h : WO E C all rest (.put d (.bool (decide (y ≤ x))) l) A K) :
    WO E C all (⟨some d, .binOp .geq t a b t', ty, pos, after, none⟩ :: rest) l A K := wo_bin hd ha hb int_geq h
theorem wo_not {t : TypeId} {x : Operand} {b : Bool} (hd : Nat.blt d C.N = true) (hx : evO l x = some (.bool b)) (h : WO E C all rest (.put d (.bool (!b)) l) A K) : WO E C all (⟨some d, .unOp .not t x, ty, pos, after, none⟩ :: rest) l A K :=
  wo_val hd (fun F hF => by
    show liftR (unA E .not (ev F x) A) = _
    rw [hF.ev hx]
    show liftR (retB (!b) A) = _
    rw [retB_eq]
    rfl) h
theorem wo_neg {t : TypeId} {x : Operand} {k : IntKind} {z : Int} (hd : Nat.blt d C.N = true) (hx : evO l x = some (.int k z)) (h : WO E C all rest (.put d (.int k (k.wrap (0 - z))) l) A K) : WO E C all (⟨some d, .unOp .neg t x, ty, pos, after, none⟩ :: rest) l A K :=
  wo_val hd (fun F hF => by
    show liftR (unA E .neg (ev F x) A) = _
    rw [hF.ev hx]
    show liftR (retI k (wrapI k (isub 0 z)) A) = _
    rw [retI_eq, wrapI_eq, isub_eq]
    rfl) h
def intKind (E : Env) (t : TypeId) : Option IntKind :=
  match E.tys.get t with
  | some d => (match d.desc with
    | .int k => some k
    | _ => none)
  | none => none
theorem intKind_spec {t : TypeId} {k : IntKind} (h : intKind E t = some k) : ∃ d, E.tys.get t = some d ∧ d.desc = .int k := by
  unfold intKind at h
  split at h
  · rename_i d hd
    split at h
    · rename_i k' hk
      cases h
      exact ⟨d, hd, hk⟩
    · cases h
  · cases h
theorem wo_conv {s t : TypeId} {x : Operand} {k k' : IntKind} {z : Int} {ds : ATy} (hd : Nat.blt d C.N = true) (hx : evO l x = some (.int k' z)) (hs : E.tys.get s = some ds) (ht : intKind E t = some k) (m : Int) (hm : k.wrap z = m) (h : WO E C all rest (.put d (.int k m) l) A K) :
    WO E C all (⟨some d, .convert s t x, ty, pos, after, none⟩ :: rest) l A K :=
  wo_val hd (fun F hF => by
    obtain ⟨dt, h1, h2⟩ := intKind_spec ht
    show liftR (convertA E s t (ev F x) A) = _
    rw [hF.ev hx]
    unfold convertA
    rw [hs, h1]
    simp only [h2, retI_eq, wrapI_eq, hm, liftR]) h
theorem qI {t : TypeId} {x : Operand} {i f s o : Nat} {off : Nat} (hd : Nat.blt d C.N = true) (hx : evO l x = some (.ptr f s o)) (ht : R.fieldOff E t i = some off) (h : WO E C all rest (.put d (.ptr f s (Nat.add o off)) l) A K) :
    WO E C all (⟨some d, .fieldAddr t x i, ty, pos, after, none⟩ :: rest) l A K :=
  wo_val hd (fun F hF => by
    show liftR (fieldAddrA E t (ev F x) i A) = _
    rw [← R.fieldAddrF_eq, hF.ev hx]
    show Option.rec (motive := fun _ => OpE) _ _ (R.fieldOff E t i) = _
    rw [ht]) h
theorem xF {t : TypeId} {x i : Operand} {f s o n c sz : Nat} {ex : Bool} {k : IntKind} {z : Int} (m : Nat) (hd : Nat.blt d C.N = true) (hx : evO l x = some (.slice f s o n c ex)) (hi : evO l i = some (.int k z)) (ht : R.elemOf E t = some sz) (hz : z = (m : Int)) (hm : m < n)
    (h : WO E C all rest (.put d (.ptr f s (Nat.add o (Nat.mul m sz))) l) A K) : WO E C all (⟨some d, .indexAddr t x i, ty, pos, after, none⟩ :: rest) l A K :=
  wo_val hd (fun F hF => by
    show liftR (indexAddrA E t (ev F x) (ev F i) A) = _
    rw [← R.idxAddrF_eq, hF.ev hx, hF.ev hi, hz]
    show Option.rec (motive := fun _ => OpE) _ _ (R.elemOf E t) = _
    rw [ht]
    show Bool.rec (motive := fun _ => OpE) (.fail 70) (.val (.ptr f s (Nat.add o (Nat.mul m sz))) A) (Nat.blt m n) = _
    rw [blt_eq, decide_eq_true hm]) h
theorem wo_indexArrAddr {t e : TypeId} {x i : Operand} {f s o n : Nat} {k : IntKind} {z : Int} {dt de : ATy} (m : Nat) (hd : Nat.blt d C.N = true) (hx : evO l x = some (.ptr f s o)) (hi : evO l i = some (.int k z)) (ht : E.tys.get t = some dt) (hs : dt.desc = .array n e) (he : E.tys.get e = some de) (hz : z = (m : Int)) (hm : m < n)
    (h : WO E C all rest (.put d (.ptr f s (Nat.add o (Nat.mul m de.size))) l) A K) : WO E C all (⟨some d, .indexAddr t x i, ty, pos, after, none⟩ :: rest) l A K :=
  wo_val hd (fun F hF => by
    show liftR (indexAddrA E t (ev F x) (ev F i) A) = _
    rw [hF.ev hx, hF.ev hi, hz]
    show liftR (indexAddrA E t (.ptr f s o) (.int k (.ofNat m)) A) = _
    simp only [indexAddrA, ht, hs, he, blt_eq, decide_eq_true hm, cond_true, liftR]) h
theorem wo_indexStr {t : TypeId} {x i : Operand} {s : List Nat} {k : IntKind} {z : Int} {dt : ATy} {b : Nat} (m : Nat) (hd : Nat.blt d C.N = true) (hx : evO l x = some (.str s)) (hi : evO l i = some (.int k z)) (ht : E.tys.get t = some dt) (hs : dt.desc = .string) (hz : z = (m : Int)) (hb : nth s m = some b)
    (h : WO E C all rest (.put d (.int .u8 (b : Int)) l) A K) : WO E C all (⟨some d, .index t x i, ty, pos, after, none⟩ :: rest) l A K :=
  wo_val hd (fun F hF => by
    show liftR (indexA E t (ev F x) (ev F i) A) = _
    rw [hF.ev hx, hF.ev hi, hz]
    show liftR (indexA E t (.str s) (.int k (.ofNat m)) A) = _
    simp only [indexA, ht, hs, hb, liftR]
    rfl) h
theorem xK {x : Operand} {i : Nat} {vs : List AV} {v : AV} (hd : Nat.blt d C.N = true) (hx : evO l x = some (.tuple vs)) (hn : nth vs i = some v) (h : WO E C all rest (.put d v l) A K) : WO E C all (⟨some d, .extract x i, ty, pos, after, none⟩ :: rest) l A K :=
  wo_val hd (fun F hF => by
    show liftR (match ev F x with
      | .tuple vs => (match nth vs i with
        | some v => .val v A
        | none => .fail 144)
      | _ => .fail 145) = _
    rw [hF.ev hx]
    simp only [hn, liftR]) h
def lenV : AV → Option Nat
  | .slice _ _ _ n _ _ => some n
  | .nils => some 0
  | .emp _ => some 0
  | _ => none
theorem lenKind2 {t : TypeId} (h : R.lenKind E t = 2) : ∃ d e, E.tys.get t = some d ∧ d.desc = .slice e := by
  unfold R.lenKind at h
  split at h
  · rename_i d hd
    split at h
    · cases h
    · rename_i e he
      exact ⟨d, e, hd, he⟩
    · cases h
  · cases h
theorem lenKind1 {t : TypeId} (h : R.lenKind E t = 1) : ∃ d, E.tys.get t = some d ∧ d.desc = .string := by
  unfold R.lenKind at h
  split at h
  · rename_i d hd
    split at h
    · rename_i he
      exact ⟨d, hd, he⟩
    · cases h
    · cases h
  · cases h
theorem xJ {t : TypeId} {a : Operand} {v : AV} {n : Nat} (hd : Nat.blt d C.N = true) (ha : evO l a = some v) (ht : R.lenKind E t = 2) (hn : lenV v = some n) (h : WO E C all rest (.put d (.int .i64 (n : Int)) l) A K) :
    WO E C all (⟨some d, .call ⟨.builtin .len, #[a], #[t]⟩, ty, pos, after, none⟩ :: rest) l A K :=
  wo_val hd (fun F hF => by
    obtain ⟨dt, e, h1, h2⟩ := lenKind2 ht
    show liftR (lenA E t (ev F a) A) = _
    rw [hF.ev ha]
    unfold lenA
    rw [h1]
    simp only [h2]
    cases v <;> simp only [lenV, Option.some.injEq, reduceCtorEq] at hn <;> subst hn <;> rfl) h
theorem wo_lenStr {t : TypeId} {a : Operand} {s : List Nat} (hd : Nat.blt d C.N = true) (ha : evO l a = some (.str s)) (ht : R.lenKind E t = 1) (h : WO E C all rest (.put d (.int .i64 (s.length : Int)) l) A K) :
    WO E C all (⟨some d, .call ⟨.builtin .len, #[a], #[t]⟩, ty, pos, after, none⟩ :: rest) l A K :=
  wo_val hd (fun F hF => by
    obtain ⟨dt, h1, h2⟩ := lenKind1 ht
    show liftR (lenA E t (ev F a) A) = _
    rw [hF.ev ha]
    unfold lenA
    rw [h1]
    simp only [h2, len_eq]
    rfl) h
theorem wo_append {t t' : TypeId} {a b : Operand} {s x : AV} {dt : ATy} {Q : AV → AW → Prop} (hd : Nat.blt d C.N = true) (ha : evO l a = some s) (hb : evO l b = some x) (ht : E.tys.get t' = some dt) (hk : (match dt.desc with
        | .slice _ | .string => true
        | _ => false) = true) (hv : ∃ v A1, appendA E t s x A = .val v A1 ∧ Q v A1) (h : ∀ v A1, Q v A1 → WO E C all rest (.put d v l) A1 K) :
    WO E C all (⟨some d, .call ⟨.builtin .append, #[a, b], #[t, t']⟩, ty, pos, after, none⟩ :: rest) l A K := by
  obtain ⟨v, A1, hv, q⟩ := hv
  refine wo_val hd (fun F hF => ?_) (h v A1 q)
  show liftR (match E.tys.get t' with
      | some d => (match d.desc with
        | .slice _ | .string => appendA E t (ev F a) (ev F b) A
        | _ => .fail 121)
      | none => .fail 121) = _
  rw [ht, hF.ev ha, hF.ev hb]
  simp only
  split at hk <;> first | (simp only [hv, liftR]; done) | cases hk
theorem qU {f : FuncId} {args : Array Operand} {tys : Array TypeId} {vs : List AV} {Q : AV → AW → Prop} (hd : Nat.blt d C.N = true) (ha : evsO l args.toList = some vs) (ho : E.orc f vs = none) (hb : R.hasB E f = true) (hc : CallP E f vs A Q)
    (h : ∀ v A1, Q v A1 → WO E C all rest (.put d v l) A1 K) : WO E C all (⟨some d, .call ⟨.value (.func f), args, tys⟩, ty, pos, after, none⟩ :: rest) l A K :=
  wo_enter hd (fun F hF => by
    show enterA E f ([] ++ evs F args.toList ++ []) A = _
    rw [← R.enterF_eq]
    simp only [List.nil_append, List.append_nil, hF.evs ha]
    unfold R.enterF
    rw [ho, hb]) hc h
theorem wo_builtin {b : Builtin} {args : Array Operand} {tys : Array TypeId} {vs : List AV} {v : AV} (hd : Nat.blt d C.N = true) (ha : evsO l args.toList = some vs) (hv : builtinA E b tys.toList vs A = .val v A1)
    (h : WO E C all rest (.put d v l) A1 K) : WO E C all (⟨some d, .call ⟨.builtin b, args, tys⟩, ty, pos, after, none⟩ :: rest) l A K :=
  wo_val hd (fun F hF => by
    show liftR (builtinA E b tys.toList (evs F args.toList) A) = _
    rw [hF.evs ha, hv]
    rfl) h
def extB (E : Env) (f : FuncId) : Bool :=
  match E.fns.get f with
  | some e => e.fn.body.isNone
  | none => false
theorem wo_ext {f : FuncId} {args : Array Operand} {tys : Array TypeId} {vs : List AV} {v : AV} (hd : Nat.blt d C.N = true) (ha : evsO l args.toList = some vs) (ho : E.orc f vs = none) (hb : extB E f = true) (hc : externA E f vs A = .val v A1)
    (h : WO E C all rest (.put d v l) A1 K) : WO E C all (⟨some d, .call ⟨.value (.func f), args, tys⟩, ty, pos, after, none⟩ :: rest) l A K :=
  wo_val hd (fun F hF => by
    show enterA E f ([] ++ evs F args.toList ++ []) A = _
    simp only [List.nil_append, List.append_nil, hF.evs ha]
    unfold enterA
    rw [ho]
    unfold extB at hb
    split at hb
    · rename_i e he
      simp only [he]
      rw [Option.isNone_iff_eq_none.1 hb]
      simp only [hc, liftR]
    · cases hb) h
theorem wo_orc {f : FuncId} {args : Array Operand} {tys : Array TypeId} {vs : List AV} {v : AV} (hd : Nat.blt d C.N = true) (ha : evsO l args.toList = some vs) (ho : E.orc f vs = some (v, [])) (hv : shift2 A.nxt v = v) (h : WO E C all rest (.put d v l) A K) :
    WO E C all (⟨some d, .call ⟨.value (.func f), args, tys⟩, ty, pos, after, none⟩ :: rest) l A K :=
  wo_val hd (fun F hF => by
    show enterA E f ([] ++ evs F args.toList ++ []) A = _
    simp only [List.nil_append, List.append_nil, hF.evs ha]
    unfold enterA
    rw [ho]
    simp only [hv, addFams]) h
end
end Go.AE
