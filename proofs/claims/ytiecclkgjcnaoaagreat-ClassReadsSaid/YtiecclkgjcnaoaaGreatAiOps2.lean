/-
  EACH OPERATION OF THE EVALUATOR IS ONE OF THE MODEL's, second part.
-/
import Derived.Test.YtiecclkgjcnaoaaGreatAiOps
namespace Go.AE
set_option linter.unusedVariables false
variable [Rho]
omit [Rho] in
theorem run_new (P : Program) (w : World) (o : Obj) : (newObj o).run P w = .ok w.heap.size (w.alloc o) := rfl
section
variable {E : Env} {base : Nat} {μ : Mp} {A : AW} {w : World}
theorem Ans.bind {s : Sem Unit} {r : Sem Value} {v : AV} {A' : AW} (hs : s.run E.P w = .ok () w) (h : Ans E base μ A w r v A') : Ans E base μ A w (do s; r) v A' := by
  obtain ⟨cv, w', μ', a, b, c⟩ := h
  exact ⟨cv, w', μ', by rw [Sem.run_bind, hs]; exact a, b, c⟩
omit [Rho] in
theorem eqGuard_swap (op : BinOp) (t : TypeId) (p q : Operand) {a b : Value} (ha : a ≠ .nilIface) : eqGuard op t p q a b = eqGuard op t (.tmp 0) (.tmp 0) a b := by
  unfold eqGuard
  cases a <;> first | rfl | exact absurd rfl ha | (cases b <;> rfl)
omit [Rho] in
theorem ble_dec (a b : Nat) : Nat.ble a b = decide (a ≤ b) := by
  cases h : Nat.ble a b with
  | true => exact (decide_eq_true (Nat.le_of_ble_eq_true h)).symm
  | false => exact (decide_eq_false (fun hle => by rw [Nat.ble_eq_true_of_le hle] at h; cases h)).symm
omit [Rho] in
theorem wrap64u (n : Int) : IntKind.u64.wrap n = n % 18446744073709551616 := by
  simp [IntKind.wrap, IntKind.signed, IntKind.bits]
omit [Rho] in
theorem bits_range (k : IntKind) (h : Nat.blt 0 (topU k) = true) (r : BitVec k.bits) : ∃ m : Nat, k.wrap (r.toNat : Int) = Int.ofNat m ∧ m = r.toNat ∧ m ≤ topU k := by
  have e : k = .u8 ∨ k = .u64 := by cases k <;> first | exact .inl rfl | exact .inr rfl | exact absurd h (by decide)
  have hr := r.isLt
  rcases e with rfl | rfl
  · have h8 : (2:Nat) ^ IntKind.u8.bits = 256 := by decide
    rw [h8] at hr
    refine ⟨r.toNat, IntWalk.u8_in _ (by omega), rfl, ?_⟩
    show r.toNat ≤ 255
    omega
  · have h8 : (2:Nat) ^ IntKind.u64.bits = 18446744073709551616 := by decide
    rw [h8] at hr
    refine ⟨r.toNat, IntWalk.u64_in _ (by omega), rfl, ?_⟩
    show r.toNat ≤ 18446744073709551615
    omega
theorem or_top (h : Rel base μ A w) {k : IntKind} {t : TypeId} (hk : Nat.blt 0 (topU k) = true) (a b : Int) (p q : Operand) :
    Ans E base μ A w (do eqGuard .or t p q (.int k a) (.int k b); binOp .or t (.int k a) (.int k b)) (.rng k 0 (topU k)) A := by
  obtain ⟨m, e1, _, e2⟩ := bits_range k hk (BitVec.ofInt k.bits a ||| BitVec.ofInt k.bits b)
  refine Ans.bind rfl (Ans.same h (cv := .int k (Int.ofNat m)) ?_ (.rng k (Nat.zero_le _) e2))
  simp only [binOp, ne_eq, not_true_eq_false, if_false, Op.intBits]
  rw [e1]
  rfl
omit [Rho] in
theorem strEq_true : ∀ {a b : List Nat}, strEq a b = true → a = b
  | [], [], _ => rfl
  | [], _ :: _, h => by simp [strEq, isNil] at h
  | _ :: _, [], h => by simp [strEq] at h
  | x :: xs, y :: ys, h => by
    simp only [strEq, beq_eq] at h
    by_cases e : x = y
    · simp [e] at h; rw [e, strEq_true h]
    · simp [e] at h
omit [Rho] in
theorem bytes_inj {a b : ByteArray} (h : a.data.toList.map UInt8.toNat = b.data.toList.map UInt8.toNat) : a = b := by
  have h1 : a.data.toList = b.data.toList := by
    have hi : ∀ l l' : List UInt8, l.map UInt8.toNat = l'.map UInt8.toNat → l = l' := by
      intro l
      induction l with
      | nil => intro l' h; cases l' with
        | nil => rfl
        | cons y ys => simp at h
      | cons x xs ih =>
        intro l' h
        cases l' with
        | nil => simp at h
        | cons y ys =>
          simp only [List.map_cons, List.cons.injEq] at h
          rw [ih ys h.2, UInt8.toNat_inj.1 h.1]
    exact hi _ _ h
  cases a; cases b
  simp only [ByteArray.mk.injEq]
  exact Array.ext' h1
theorem rngA_sound (h : Rel base μ A w) {op : BinOp} {t : TypeId} {k k' : IntKind} {lo hi b n : Nat} {v : AV} {A' : AW} (p q : Operand) (hl : rngA op k lo hi k' b A = .val v A') (h1 : lo ≤ n) (h2 : n ≤ hi) :
    Ans E base μ A w (do eqGuard op t p q (.int k (Int.ofNat n)) (.int k' (Int.ofNat b)); binOp op t (.int k (Int.ofNat n)) (.int k' (Int.ofNat b))) v A' := by
  unfold rngA at hl
  simp only [Bool.cond_eq_ite, kindEq_eq, decide_eq_true_eq, blt_eq, ble_dec, Bool.or_eq_true, Bool.and_eq_true] at hl
  cases op
  case lss =>
    simp only [] at hl
    split at hl
    · rename_i hk; subst hk
      split at hl
      · cases hl
        exact Ans.bind rfl (Ans.same h (cv := .bool true) (by simp [binOp, Op.intCmp]; omega) (.bool _))
      · split at hl
        · cases hl
          exact Ans.bind rfl (Ans.same h (cv := .bool false) (by simp [binOp, Op.intCmp]; omega) (.bool _))
        · cases hl
    · cases hl
  case leq =>
    simp only [] at hl
    split at hl
    · rename_i hk; subst hk
      split at hl
      · cases hl
        exact Ans.bind rfl (Ans.same h (cv := .bool true) (by simp [binOp, Op.intCmp]; omega) (.bool _))
      · split at hl
        · cases hl
          exact Ans.bind rfl (Ans.same h (cv := .bool false) (by simp [binOp, Op.intCmp]; omega) (.bool _))
        · cases hl
    · cases hl
  case gtr =>
    simp only [] at hl
    split at hl
    · rename_i hk; subst hk
      split at hl
      · cases hl
        exact Ans.bind rfl (Ans.same h (cv := .bool true) (by simp [binOp, Op.intCmp]; omega) (.bool _))
      · split at hl
        · cases hl
          exact Ans.bind rfl (Ans.same h (cv := .bool false) (by simp [binOp, Op.intCmp]; omega) (.bool _))
        · cases hl
    · cases hl
  case geq =>
    simp only [] at hl
    split at hl
    · rename_i hk; subst hk
      split at hl
      · cases hl
        exact Ans.bind rfl (Ans.same h (cv := .bool true) (by simp [binOp, Op.intCmp]; omega) (.bool _))
      · split at hl
        · cases hl
          exact Ans.bind rfl (Ans.same h (cv := .bool false) (by simp [binOp, Op.intCmp]; omega) (.bool _))
        · cases hl
    · cases hl
  case eql =>
    simp only [] at hl
    split at hl
    · rename_i hk; subst hk
      split at hl
      · cases hl
        exact Ans.bind rfl (Ans.same h (cv := .bool false) (by simp [binOp, Op.intCmp]; omega) (.bool _))
      · cases hl
    · cases hl
  case neq =>
    simp only [] at hl
    split at hl
    · rename_i hk; subst hk
      split at hl
      · cases hl
        exact Ans.bind rfl (Ans.same h (cv := .bool true) (by simp [binOp, Op.intCmp]; omega) (.bool _))
      · cases hl
    · cases hl
  case shr =>
    simp only [] at hl
    split at hl
    · rename_i hb
      cases hl
      have hmin : min (Int.ofNat b).toNat k.bits = b := by
        have : 8 ≤ k.bits := by cases k <;> decide
        simp
        omega
      refine Ans.bind rfl (Ans.same h (cv := .int k (Int.ofNat (n / 2 ^ b))) ?_ (.rng k (Nat.div_le_div_right h1) (Nat.div_le_div_right h2)))
      have e : Int.fdiv (Int.ofNat n) (2 ^ b) = Int.ofNat (n / 2 ^ b) := by
        rw [Int.fdiv_eq_ediv_of_nonneg _ (Int.le_of_lt (Int.pow_pos (by decide)))]
        simp
      simp only [binOp, Op.shift, hmin]
      rw [if_neg (by simp)]
      rw [e]
      rfl
    · cases hl
  case shl =>
    simp only [] at hl
    split at hl
    · rename_i hk; subst hk
      cases hl
      obtain ⟨m, e1, e2⟩ : ∃ m : Nat, IntKind.u64.wrap (Int.ofNat n * 2 ^ (min (Int.ofNat b).toNat IntKind.u64.bits)) = Int.ofNat m ∧ m ≤ 18446744073709551615 := by
        rw [wrap64u]
        refine ⟨((Int.ofNat n * 2 ^ (min (Int.ofNat b).toNat IntKind.u64.bits)) % 18446744073709551616).toNat, ?_, ?_⟩
        · have : 0 ≤ (Int.ofNat n * 2 ^ (min (Int.ofNat b).toNat IntKind.u64.bits)) % 18446744073709551616 := Int.emod_nonneg _ (by decide)
          simp only [Int.ofNat_eq_natCast] at this ⊢
          omega
        · have := Int.emod_lt_of_pos (Int.ofNat n * 2 ^ (min (Int.ofNat b).toNat IntKind.u64.bits)) (b := 18446744073709551616) (by decide)
          omega
      refine Ans.bind rfl (Ans.same h (cv := .int .u64 (Int.ofNat m)) ?_ (.rng .u64 (Nat.zero_le _) e2))
      simp only [binOp, Op.shift]
      rw [if_neg (by simp)]
      rw [e1]
      rfl
    · cases hl
  case and =>
    simp only [] at hl
    split at hl
    · rename_i hk
      obtain ⟨rfl, hk⟩ := hk
      cases hl
      obtain ⟨m, e1, _, e2⟩ := bits_range k (by rw [blt_eq]; exact decide_eq_true hk) (BitVec.ofInt k.bits (Int.ofNat n) &&& BitVec.ofInt k.bits (Int.ofNat b))
      refine Ans.bind rfl (Ans.same h (cv := .int k (Int.ofNat m)) ?_ (.rng k (Nat.zero_le _) e2))
      simp only [binOp, ne_eq, not_true_eq_false, if_false, Op.intBits]
      rw [e1]
      rfl
    · cases hl
  case or =>
    simp only [] at hl
    split at hl
    · rename_i hk
      obtain ⟨rfl, rfl, h3, h4⟩ := hk
      cases hl
      obtain ⟨m, e1, e3, e2⟩ := bits_range .u8 rfl (BitVec.ofInt IntKind.u8.bits (Int.ofNat n) ||| BitVec.ofInt IntKind.u8.bits (Int.ofNat b))
      refine Ans.bind rfl (Ans.same h (cv := .int .u8 (Int.ofNat m)) ?_ (.rng .u8 ?_ e2))
      · simp only [binOp, ne_eq, not_true_eq_false, if_false, Op.intBits]
        rw [e1]
        rfl
      · rw [e3, BitVec.toNat_or]
        have hb : (BitVec.ofInt IntKind.u8.bits (Int.ofNat b)).toNat = b := by
          have : IntKind.u8.bits = 8 := rfl
          simp only [this, Int.ofNat_eq_natCast, BitVec.ofInt_natCast, BitVec.toNat_ofNat]
          omega
        rw [hb]
        exact Nat.right_le_or
    · split at hl
      · rename_i hk
        obtain ⟨rfl, rfl⟩ := hk
        cases hl
        exact or_top h rfl _ _ p q
      · cases hl
  all_goals cases hl
omit [Rho] in
theorem ofInt_nat {w x : Nat} (h : x < 2 ^ w) : (BitVec.ofInt w (Int.ofNat x)).toNat = x := by
  simp only [Int.ofNat_eq_natCast, BitVec.ofInt_natCast, BitVec.toNat_ofNat]
  exact Nat.mod_eq_of_lt h
omit [Rho] in
theorem topU_cases {k : IntKind} (h : 0 < topU k) : k = .u8 ∨ k = .u64 := by
  cases k <;> first | exact .inl rfl | exact .inr rfl | exact absurd h (by decide)
omit [Rho] in
theorem or128 : ∀ x : Fin 256, x.val ||| 128 = x.val % 128 + 128 := by decide +kernel
omit [Rho] in
theorem xor_ones {w : Nat} (x : BitVec w) : x ^^^ BitVec.allOnes w = ~~~x := by
  simp
theorem or_bits (h : Rel base μ A w) {t : TypeId} {x y : Nat} (hx : x < 2 ^ 64) (hy : y < 2 ^ 64) (p q : Operand) {v : AV} (hv : VRel μ v (.int .u64 (Int.ofNat (x ||| y)))) :
    Ans E base μ A w (do eqGuard .or t p q (.int .u64 (Int.ofNat x)) (.int .u64 (Int.ofNat y)); binOp .or t (.int .u64 (Int.ofNat x)) (.int .u64 (Int.ofNat y))) v A := by
  obtain ⟨m, e1, e3, e2⟩ := bits_range .u64 rfl (BitVec.ofInt IntKind.u64.bits (Int.ofNat x) ||| BitVec.ofInt IntKind.u64.bits (Int.ofNat y))
  have hm : m = x ||| y := by
    rw [e3, BitVec.toNat_or, ofInt_nat (show x < 2 ^ IntKind.u64.bits from hx), ofInt_nat (show y < 2 ^ IntKind.u64.bits from hy)]
  refine Ans.bind rfl (Ans.same h (cv := .int .u64 (Int.ofNat m)) ?_ (by rw [hm]; exact hv))
  simp only [binOp, ne_eq, not_true_eq_false, if_false, Op.intBits]
  rw [e1]
  rfl
theorem bitsA_sound (h : Rel base μ A w) {op : BinOp} {t : TypeId} {k k' : IntKind} {l : List Bt} {b : Nat} {v : AV} {A' : AW} (p q : Operand) (hl : bitsA op k l k' b A = .val v A') :
    Ans E base μ A w (do eqGuard op t p q (.int k (Int.ofNat (natOf l))) (.int k' (Int.ofNat b)); binOp op t (.int k (Int.ofNat (natOf l))) (.int k' (Int.ofNat b))) v A' := by
  cases op
  case shr =>
    simp only [bitsA, Bool.cond_eq_ite, ble_dec, decide_eq_true_eq] at hl
    split at hl
    · rename_i hb
      cases hl
      have hmin : min (Int.ofNat b).toNat k.bits = b := by
        simp
        omega
      have e : Int.fdiv (Int.ofNat (natOf l)) (2 ^ b) = Int.ofNat (natOf l / 2 ^ b) := by
        rw [Int.fdiv_eq_ediv_of_nonneg _ (Int.le_of_lt (Int.pow_pos (by decide)))]
        simp
      refine Ans.bind rfl (Ans.same h (cv := .int k (Int.ofNat (natOf l / 2 ^ b))) ?_ (by rw [← natOf_drop]; exact mkBits_rel _ _ _))
      simp only [binOp, Op.shift, hmin]
      rw [if_neg (by simp)]
      rw [e]
      rfl
    · cases hl
  case shl =>
    simp only [bitsA, Bool.cond_eq_ite, Bool.and_eq_true, kindEq_eq, ble_dec, decide_eq_true_eq] at hl
    split at hl
    · rename_i hb
      obtain ⟨rfl, hb⟩ := hb
      cases hl
      have hmin : min (Int.ofNat b).toNat IntKind.u64.bits = b := by
        have : IntKind.u64.bits = 64 := rfl
        simp
        omega
      have e : IntKind.u64.wrap (Int.ofNat (natOf l) * 2 ^ b) = Int.ofNat (natOf (headN 64 (zerosN b l))) := by
        rw [wrap64u, natOf_head, natOf_zeros, Nat.mul_comm]
        simp
      refine Ans.bind rfl (Ans.same h (cv := .int .u64 (Int.ofNat (natOf (headN 64 (zerosN b l))))) ?_ (mkBits_rel _ _ _))
      simp only [binOp, Op.shift, hmin]
      rw [if_neg (by simp)]
      rw [e]
      rfl
    · cases hl
  case and =>
    simp only [bitsA, Bool.cond_eq_ite, Bool.and_eq_true, kindEq_eq, ble_dec, blt_eq, beq_eq, decide_eq_true_eq] at hl
    split at hl
    · rename_i hk
      obtain ⟨rfl, hk, hlen⟩ := hk
      have hx := natOf_lt' hlen
      obtain ⟨m, e1, e3, e2⟩ := bits_range k (by rw [blt_eq]; exact decide_eq_true hk) (BitVec.ofInt k.bits (Int.ofNat (natOf l)) &&& BitVec.ofInt k.bits (Int.ofNat b))
      have h8 : 2 ^ 7 ≤ 2 ^ k.bits := Nat.pow_le_pow_right (by decide) (by rcases topU_cases hk with rfl | rfl <;> decide)
      split at hl
      · rename_i hb
        subst hb
        cases hl
        have hm : m = natOf (headN 7 l) := by
          rw [e3, BitVec.toNat_and, ofInt_nat hx, ofInt_nat (by omega), natOf_head]
          exact Nat.and_two_pow_sub_one_eq_mod _ 7
        refine Ans.bind rfl (Ans.same h (cv := .int k (Int.ofNat m)) ?_ (by rw [hm]; exact mkBits_rel _ _ _))
        simp only [binOp, ne_eq, not_true_eq_false, if_false, Op.intBits]
        rw [e1]
        rfl
      · split at hl
        · rename_i hb
          subst hb
          cases hl
          have hm : m = natOf (headN 1 l) := by
            rw [e3, BitVec.toNat_and, ofInt_nat hx, ofInt_nat (by omega), natOf_head]
            exact Nat.and_two_pow_sub_one_eq_mod _ 1
          refine Ans.bind rfl (Ans.same h (cv := .int k (Int.ofNat m)) ?_ (by rw [hm]; exact mkBits_rel _ _ _))
          simp only [binOp, ne_eq, not_true_eq_false, if_false, Op.intBits]
          rw [e1]
          rfl
        · cases hl
    · cases hl
  case or =>
    simp only [bitsA, Bool.cond_eq_ite, Bool.and_eq_true, kindEq_eq, ble_dec, beq_eq, decide_eq_true_eq] at hl
    split at hl
    · rename_i hk
      obtain ⟨rfl, rfl, rfl, hlen⟩ := hk
      cases hl
      have hx := natOf_lt' hlen
      obtain ⟨m, e1, e3, e2⟩ := bits_range .u8 rfl (BitVec.ofInt IntKind.u8.bits (Int.ofNat (natOf l)) ||| BitVec.ofInt IntKind.u8.bits (Int.ofNat 128))
      have hm : m = natOf (padN 7 (headN 7 l) ++ [.one]) := by
        have hbits : IntKind.u8.bits = 8 := rfl
        rw [e3, BitVec.toNat_or, ofInt_nat (by rw [hbits]; exact hx), ofInt_nat (by rw [hbits]; decide), natOf_snoc, natOf_pad, natOf_head, lenB_pad _ _ (lenB_head _ _)]
        exact or128 ⟨natOf l, hx⟩
      refine Ans.bind rfl (Ans.same h (cv := .int .u8 (Int.ofNat m)) ?_ (by rw [hm]; exact mkBits_rel _ _ _))
      simp only [binOp, ne_eq, not_true_eq_false, if_false, Op.intBits]
      rw [e1]
      rfl
    · split at hl
      · rename_i hk
        obtain ⟨rfl, rfl, hb, hlen⟩ := hk
        split at hl
        · rename_i r hr
          cases hl
          have hb' : b < 2 ^ 64 := Nat.lt_succ_of_le hb
          refine or_bits h (natOf_lt' hlen) hb' p q ?_
          have e := natOf_or hr
          rw [natOf_to, Nat.mod_eq_of_lt hb'] at e
          rw [← e]
          exact mkBits_rel _ _ _
        · cases hl
      · cases hl
  case xor =>
    simp only [bitsA, Bool.cond_eq_ite, Bool.and_eq_true, Bool.or_eq_true, kindEq_eq, ble_dec, beq_eq, decide_eq_true_eq] at hl
    split at hl
    · rename_i hk
      subst hk
      split at hl
      · rename_i hk
        obtain ⟨rfl, hk⟩ := hk
        cases hl
        have hx : natOf l < 2 ^ k.bits := by
          rcases hk with ⟨rfl, hk⟩ | ⟨rfl, hk⟩
          · exact natOf_lt' hk
          · exact natOf_lt' (Nat.le_succ_of_le hk)
        have e : k.wrap ((BitVec.ofInt k.bits (Int.ofNat (natOf l)) ^^^ BitVec.ofInt k.bits (Int.ofNat 0)).toNat : Int) = Int.ofNat (natOf l) := by
          rw [BitVec.toNat_xor, ofInt_nat hx, ofInt_nat (Nat.two_pow_pos _), Nat.xor_zero]
          rcases hk with ⟨rfl, hk⟩ | ⟨rfl, hk⟩
          · have : IntKind.u64.bits = 64 := rfl
            rw [this] at hx
            exact IntWalk.u64_in _ (by omega)
          · have := natOf_lt' hk
            exact IntWalk.i64_in _ (by omega)
        refine Ans.bind rfl (Ans.same h (cv := .int k (Int.ofNat (natOf l))) ?_ (mkBits_rel _ _ _))
        simp only [binOp, ne_eq, not_true_eq_false, if_false, Op.intBits]
        rw [e]
        rfl
      · split at hl
        · rename_i hk
          obtain ⟨rfl, hlen, rfl⟩ := hk
          cases hl
          have hx := natOf_lt' hlen
          have hc := natOf_compl (padN 64 l)
          rw [natOf_pad, lenB_pad _ _ hlen] at hc
          have e : IntKind.u64.wrap ((BitVec.ofInt IntKind.u64.bits (Int.ofNat (natOf l)) ^^^ BitVec.ofInt IntKind.u64.bits (Int.ofNat 18446744073709551615)).toNat : Int) = Int.ofNat (natOf (compl (padN 64 l))) := by
            have ho : BitVec.ofInt 64 (Int.ofNat 18446744073709551615) = BitVec.allOnes 64 := by decide +kernel
            have hb : IntKind.u64.bits = 64 := rfl
            have e0 : (BitVec.ofInt IntKind.u64.bits (Int.ofNat (natOf l)) ^^^ BitVec.ofInt IntKind.u64.bits (Int.ofNat 18446744073709551615)).toNat = 2 ^ 64 - 1 - natOf l := by
              show (BitVec.ofInt 64 (Int.ofNat (natOf l)) ^^^ BitVec.ofInt 64 (Int.ofNat 18446744073709551615)).toNat = _
              rw [ho, xor_ones, BitVec.toNat_not, ofInt_nat hx]
            rw [e0]
            have : (2 ^ 64 - 1 - natOf l : Nat) = natOf (compl (padN 64 l)) := by omega
            rw [this]
            exact IntWalk.u64_in _ (by omega)
          refine Ans.bind rfl (Ans.same h (cv := .int .u64 (Int.ofNat (natOf (compl (padN 64 l))))) ?_ (mkBits_rel _ _ _))
          simp only [binOp, ne_eq, not_true_eq_false, if_false, Op.intBits]
          rw [e]
          rfl
        · cases hl
    · cases hl
  all_goals exact rngA_sound h p q hl (natMin_le l) (natMax_le l)
theorem bitsN_sound (h : Rel base μ A w) {t : TypeId} {l : List Bt} (hlen : lenB l ≤ 63) (p q : Operand) :
    Ans E base μ A w (do eqGuard .xor t p q (.int .i64 (Int.ofNat (natOf l))) (.int .i64 (Int.negSucc 0)); binOp .xor t (.int .i64 (Int.ofNat (natOf l))) (.int .i64 (Int.negSucc 0))) (.nbits .i64 l) A := by
  have hx := natOf_lt' hlen
  have hx' : natOf l < 2 ^ 64 := Nat.lt_trans hx (by decide)
  have e : IntKind.i64.wrap ((BitVec.ofInt IntKind.i64.bits (Int.ofNat (natOf l)) ^^^ BitVec.ofInt IntKind.i64.bits (Int.negSucc 0)).toNat : Int) = Int.negSucc (natOf l) := by
    have ho : BitVec.ofInt 64 (Int.negSucc 0) = BitVec.allOnes 64 := by decide +kernel
    have e0 : (BitVec.ofInt IntKind.i64.bits (Int.ofNat (natOf l)) ^^^ BitVec.ofInt IntKind.i64.bits (Int.negSucc 0)).toNat = 2 ^ 64 - 1 - natOf l := by
      show (BitVec.ofInt 64 (Int.ofNat (natOf l)) ^^^ BitVec.ofInt 64 (Int.negSucc 0)).toNat = _
      rw [ho, xor_ones, BitVec.toNat_not, ofInt_nat hx']
    rw [e0, IntKind.wrap_i64]
    omega
  refine Ans.bind rfl (Ans.same h (cv := .int .i64 (Int.negSucc (natOf l))) ?_ (.nbits _ _))
  simp only [binOp, ne_eq, not_true_eq_false, if_false, Op.intBits]
  rw [e]
  rfl
theorem rest_sound (h : Rel base μ A w) {op : BinOp} {t : TypeId} {x y v : AV} {A' : AW} {cx cy : Value} (p q : Operand) (hl : restA op x y A = .val v A') (hx : VRel μ x cx) (hy : VRel μ y cy) :
    Ans E base μ A w (do eqGuard op t p q cx cy; binOp op t cx cy) v A' := by
  unfold restA at hl
  split at hl
  · rename_i k m r k' b
    split at hl
    · cases hc : (kindEq k k' && (Nat.blt 0 b && Nat.beq (Nat.mod m b) 0)) <;> rw [hc] at hl <;> simp only [cond_true, cond_false, reduceCtorEq] at hl
      simp only [Bool.and_eq_true, kindEq_eq, blt_eq, beq_eq, decide_eq_true_eq] at hc
      obtain ⟨rfl, hb, hm⟩ := hc
      obtain ⟨rfl, rfl⟩ := retI_val hl
      cases hy
      cases hx with
      | rest _ hn he =>
        rename_i n
        refine Ans.bind rfl (Ans.same h (cv := .int k (Int.ofNat (n % b))) ?_ ?_)
        · have hb0 : (Int.ofNat b) ≠ 0 := by simp; omega
          simp only [binOp]
          simp [Op.intDiv]
          rw [if_neg (by omega)]
          rfl
        · have : n % b = Nat.mod r b := by
            have hd : b ∣ m := Nat.dvd_of_mod_eq_zero hm
            rw [← he]
            exact (Nat.mod_mod_of_dvd n hd).symm
          rw [this]
          exact .int _ _
    · cases hl
  · rename_i k m S k' b
    split at hl
    · cases hc : (kindEq k k' && (Nat.blt 0 b && Nat.beq m b)) <;> rw [hc] at hl <;> simp only [cond_true, cond_false, reduceCtorEq] at hl
      simp only [Bool.and_eq_true, kindEq_eq, blt_eq, beq_eq, decide_eq_true_eq] at hc
      obtain ⟨rfl, hb, rfl⟩ := hc
      cases hl
      cases hy
      cases hx with
      | among _ hn he =>
        rename_i n
        have hlt : n % m < 256 := Nat.lt_of_le_of_lt (Nat.mod_le _ _) hn
        refine Ans.bind rfl (Ans.same h (cv := .int k (Int.ofNat (n % m))) ?_ (.among k hlt (by rw [Nat.mod_eq_of_lt hlt]; exact he)))
        have hb0 : (Int.ofNat m) ≠ 0 := by simp; omega
        simp only [binOp]
        simp [Op.intDiv]
        rw [if_neg (by omega)]
        rfl
    · cases hl
  · cases hy
    cases hx with
    | rng _ h1 h2 => exact rngA_sound h p q hl h1 h2
  · rename_i k lo hi k' b
    cases hy
    cases hx with
    | rng _ h1 h2 =>
      simp only [Bool.cond_eq_ite, kindEq_eq, decide_eq_true_eq] at hl
      cases op
      case eql =>
        simp only [] at hl
        split at hl
        · rename_i hk; subst hk
          cases hl
          exact Ans.bind rfl (Ans.same h (cv := .bool false) (by simp [binOp, Op.intCmp] <;> omega) (.bool _))
        · cases hl
      case neq =>
        simp only [] at hl
        split at hl
        · rename_i hk; subst hk
          cases hl
          exact Ans.bind rfl (Ans.same h (cv := .bool true) (by simp [binOp, Op.intCmp] <;> omega) (.bool _))
        · cases hl
      case lss =>
        simp only [] at hl
        split at hl
        · rename_i hk; subst hk
          cases hl
          exact Ans.bind rfl (Ans.same h (cv := .bool false) (by simp [binOp, Op.intCmp] <;> omega) (.bool _))
        · cases hl
      case geq =>
        simp only [] at hl
        split at hl
        · rename_i hk; subst hk
          cases hl
          exact Ans.bind rfl (Ans.same h (cv := .bool true) (by simp [binOp, Op.intCmp] <;> omega) (.bool _))
        · cases hl
      all_goals cases hl
  · cases hy
    cases hx with
    | sym _ h1 h2 => exact rngA_sound h p q hl h1 h2
  · rename_i k k' b
    cases hy
    cases hx with
    | neg _ n =>
      simp only [Bool.cond_eq_ite, kindEq_eq, decide_eq_true_eq] at hl
      cases op
      case eql =>
        simp only [] at hl
        split at hl
        · rename_i hk; subst hk
          cases hl
          exact Ans.bind rfl (Ans.same h (cv := .bool false) (by simp [binOp, Op.intCmp] <;> omega) (.bool _))
        · cases hl
      case neq =>
        simp only [] at hl
        split at hl
        · rename_i hk; subst hk
          cases hl
          exact Ans.bind rfl (Ans.same h (cv := .bool true) (by simp [binOp, Op.intCmp] <;> omega) (.bool _))
        · cases hl
      case lss =>
        simp only [] at hl
        split at hl
        · rename_i hk; subst hk
          cases hl
          exact Ans.bind rfl (Ans.same h (cv := .bool true) (by simp [binOp, Op.intCmp] <;> omega) (.bool _))
        · cases hl
      case leq =>
        simp only [] at hl
        split at hl
        · rename_i hk; subst hk
          cases hl
          exact Ans.bind rfl (Ans.same h (cv := .bool true) (by simp [binOp, Op.intCmp] <;> omega) (.bool _))
        · cases hl
      case gtr =>
        simp only [] at hl
        split at hl
        · rename_i hk; subst hk
          cases hl
          exact Ans.bind rfl (Ans.same h (cv := .bool false) (by simp [binOp, Op.intCmp] <;> omega) (.bool _))
        · cases hl
      case geq =>
        simp only [] at hl
        split at hl
        · rename_i hk; subst hk
          cases hl
          exact Ans.bind rfl (Ans.same h (cv := .bool false) (by simp [binOp, Op.intCmp] <;> omega) (.bool _))
        · cases hl
      all_goals cases hl
  · rename_i k l k' m b
    cases hx
    cases hy with
    | least _ h1 h2 =>
      rename_i y
      split at hl
      · simp only [Bool.cond_eq_ite, Bool.and_eq_true, kindEq_eq, decide_eq_true_eq] at hl
        split at hl
        · rename_i hk
          obtain ⟨rfl, he⟩ := hk
          cases hl
          refine Ans.bind rfl (Ans.same h (cv := .bool b) ?_ (.bool _))
          rw [← h2, ← eqBits_val he]
          simp [binOp, Op.intCmp]
        · cases hl
      · simp only [Bool.cond_eq_ite, Bool.and_eq_true, kindEq_eq, decide_eq_true_eq] at hl
        split at hl
        · rename_i hk
          obtain ⟨rfl, he⟩ := hk
          cases hl
          refine Ans.bind rfl (Ans.same h (cv := .bool (!b)) ?_ (.bool _))
          rw [← h2, ← eqBits_val he]
          by_cases hle : natOf l ≤ y
          · simp [binOp, Op.intCmp, hle]
          · simp [binOp, Op.intCmp, hle]
            omega
        · cases hl
      · cases hl
  · rename_i k l b k' c
    cases hy
    cases hx with
    | least _ h1 h2 =>
      split at hl
      · simp only [Bool.cond_eq_ite, Bool.and_eq_true, kindEq_eq, beq_eq, decide_eq_true_eq] at hl
        split at hl
        · rename_i hk
          obtain ⟨rfl, rfl⟩ := hk
          cases hl
          exact Ans.bind rfl (Ans.same h (cv := .bool false) (by simp [binOp, Op.intCmp]) (.bool _))
        · cases hl
      · cases hl
  · rename_i k m r k' b
    split at hl
    · cases hc : (kindEq k k' && (Nat.beq m b && Nat.blt 0 b)) <;> rw [hc] at hl <;> simp only [cond_true, cond_false, reduceCtorEq] at hl
      simp only [Bool.and_eq_true, kindEq_eq, blt_eq, beq_eq, decide_eq_true_eq] at hc
      obtain ⟨rfl, rfl, hb⟩ := hc
      obtain ⟨rfl, rfl⟩ := retI_val hl
      cases hy
      cases hx with
      | tm _ he =>
        rename_i z
        refine Ans.bind rfl (Ans.same h (cv := .int k r) ?_ (.int _ _))
        simp only [binOp]
        simp [Op.intDiv]
        rw [if_neg (by omega)]
        rw [← he]
        rfl
    · cases hl
  · cases hy
    cases hx
    exact bitsA_sound h p q hl
  · rename_i k l k' b
    cases hy
    cases hx
    split at hl
    · simp only [Bool.cond_eq_ite, Bool.and_eq_true, kindEq_eq, ble_dec, beq_eq, decide_eq_true_eq] at hl
      split at hl
      · rename_i hk
        obtain ⟨rfl, rfl, rfl, hlen⟩ := hk
        cases hl
        exact bitsN_sound h hlen p q
      · cases hl
    · cases hl
  · rename_i k l k' b
    cases hy
    cases hx
    split at hl
    · simp only [Bool.cond_eq_ite, Bool.and_eq_true, kindEq_eq, ble_dec, beq_eq, decide_eq_true_eq] at hl
      split at hl
      · rename_i hk
        obtain ⟨rfl, rfl, hlen⟩ := hk
        cases hl
        have hx := natOf_lt' hlen
        refine Ans.bind rfl (Ans.same h (cv := .int .i64 (Int.negSucc 0)) ?_ (.int _ _))
        have hmin : min (Int.ofNat 63).toNat IntKind.i64.bits = 63 := by decide
        have e : Int.fdiv (Int.negSucc (natOf l)) (2 ^ 63) = Int.negSucc 0 := by
          rw [Int.fdiv_eq_ediv_of_nonneg _ (by decide)]
          omega
        simp only [binOp, Op.shift, hmin]
        rw [if_neg (by simp)]
        rw [e]
        rfl
      · cases hl
    · cases hl
  · rename_i k a k' l
    cases hy
    cases hx
    split at hl
    · simp only [Bool.cond_eq_ite, Bool.and_eq_true, kindEq_eq, ble_dec, decide_eq_true_eq] at hl
      split at hl
      · rename_i hk
        obtain ⟨rfl, rfl, ha, hlen⟩ := hk
        split at hl
        · rename_i r hr
          cases hl
          have ha' : a < 2 ^ 64 := Nat.lt_succ_of_le ha
          refine or_bits h ha' (natOf_lt' hlen) p q ?_
          have e := natOf_or hr
          rw [natOf_to, Nat.mod_eq_of_lt ha'] at e
          rw [← e]
          exact mkBits_rel _ _ _
        · cases hl
      · cases hl
    · cases hl
  · rename_i k l k' m
    cases hy
    cases hx
    split at hl
    · simp only [Bool.cond_eq_ite, Bool.and_eq_true, kindEq_eq, ble_dec, decide_eq_true_eq] at hl
      split at hl
      · rename_i hk
        obtain ⟨rfl, rfl, h1, h2⟩ := hk
        split at hl
        · rename_i r hr
          cases hl
          refine or_bits h (natOf_lt' h1) (natOf_lt' h2) p q ?_
          rw [← natOf_or hr]
          exact mkBits_rel _ _ _
        · cases hl
      · cases hl
    · simp only [Bool.cond_eq_ite, Bool.and_eq_true, kindEq_eq, decide_eq_true_eq] at hl
      split at hl
      · rename_i hk
        obtain ⟨rfl, he⟩ := hk
        cases hl
        exact Ans.bind rfl (Ans.same h (cv := .bool true) (by simp [binOp, Op.intCmp, eqBits_val he]) (.bool _))
      · cases hl
    · simp only [Bool.cond_eq_ite, Bool.and_eq_true, kindEq_eq, decide_eq_true_eq] at hl
      split at hl
      · rename_i hk
        obtain ⟨rfl, he⟩ := hk
        cases hl
        exact Ans.bind rfl (Ans.same h (cv := .bool false) (by simp [binOp, Op.intCmp, eqBits_val he]) (.bool _))
      · cases hl
    · cases hl
  · rename_i k l k' m
    cases hy
    cases hx
    split at hl
    · simp only [Bool.cond_eq_ite, Bool.and_eq_true, kindEq_eq, decide_eq_true_eq] at hl
      split at hl
      · rename_i hk
        obtain ⟨rfl, he⟩ := hk
        cases hl
        exact Ans.bind rfl (Ans.same h (cv := .bool true) (by simp [binOp, Op.intCmp, eqBits_val he]) (.bool _))
      · cases hl
    · simp only [Bool.cond_eq_ite, Bool.and_eq_true, kindEq_eq, decide_eq_true_eq] at hl
      split at hl
      · rename_i hk
        obtain ⟨rfl, he⟩ := hk
        cases hl
        exact Ans.bind rfl (Ans.same h (cv := .bool false) (by simp [binOp, Op.intCmp, eqBits_val he]) (.bool _))
      · cases hl
    · cases hl
  · rename_i a p' j
    split at hl
    · simp only [Bool.cond_eq_ite, ble_dec, decide_eq_true_eq] at hl
      split at hl
      · rename_i hle
        cases hl
        cases hx with
        | str sa =>
          cases hy with
          | sstr hb =>
            rename_i b
            have hs : ∀ s : ByteArray, s.data.toList.length = s.size := fun s => by rw [Array.length_toList]; rfl
            have l1 : b.size = p'.length + (Rho.s j).length := by
              have := congrArg List.length hb
              rw [List.length_map, hs, List.length_append] at this
              exact this
            have l2 := Rho.short j
            rw [len_eq, len_eq, List.length_map, hs] at hle
            have hle' : sa.size + (p'.length + 1000) ≤ 4611686018427387904 := hle
            refine Ans.bind rfl (Ans.same h (cv := .string (sa ++ b)) ?_ (.sstr ?_))
            · have hm : IntKind.i64.max = 9223372036854775807 := by decide
              simp only [binOp, Op.stringOp, hm]
              rw [Sem.run_ite, if_neg (by omega)]
              rfl
            · rw [ByteArray.data_append]
              simp [hb]
      · cases hl
    · cases hl
  · rename_i p1 j1 p2 j2
    split at hl
    · simp only [Bool.cond_eq_ite, Bool.and_eq_true, beq_eq, decide_eq_true_eq] at hl
      split at hl
      · rename_i hc
        cases hl
        cases hx with
        | sstr ha =>
          cases hy with
          | sstr hb =>
            have e := strEq_true hc.1
            rw [← e, ← hc.2] at hb
            have he := bytes_inj (ha.trans hb.symm)
            subst he
            refine Ans.bind rfl (Ans.same h (cv := .bool true) ?_ (.bool _))
            simp only [binOp, Op.stringOp, beq_self_eq_true]
            rfl
      · cases hl
    · simp only [Bool.cond_eq_ite, Bool.and_eq_true, beq_eq, decide_eq_true_eq] at hl
      split at hl
      · rename_i hc
        cases hl
        cases hx with
        | sstr ha =>
          cases hy with
          | sstr hb =>
            have e := strEq_true hc.1
            rw [← e, ← hc.2] at hb
            have he := bytes_inj (ha.trans hb.symm)
            subst he
            refine Ans.bind rfl (Ans.same h (cv := .bool false) ?_ (.bool _))
            simp only [binOp, Op.stringOp, beq_self_eq_true]
            rfl
      · cases hl
    · cases hl
  · rename_i k a k' lo hi
    split at hl
    · cases hc : (kindEq k k' && kindEq k .u64) <;> rw [hc] at hl <;> simp only [cond_true, cond_false, reduceCtorEq] at hl
      simp only [Bool.and_eq_true, kindEq_eq, decide_eq_true_eq] at hc
      obtain ⟨rfl, rfl⟩ := hc
      cases hl
      cases hx
      cases hy with
      | rng _ h1 h2 => exact or_top h rfl _ _ p q
    · cases hl
  · rename_i k lo hi k' lo' hi'
    split at hl
    · cases hc : (kindEq k k' && kindEq k .u64) <;> rw [hc] at hl <;> simp only [cond_true, cond_false, reduceCtorEq] at hl
      simp only [Bool.and_eq_true, kindEq_eq, decide_eq_true_eq] at hc
      obtain ⟨rfl, rfl⟩ := hc
      cases hl
      cases hx with
      | rng _ h1 h2 =>
        cases hy with
        | rng _ h3 h4 => exact or_top h rfl _ _ p q
    · cases hl
  · cases hl
theorem binA_sound (hE : TysOk E) (h : Rel base μ A w) {op : BinOp} {t : TypeId} {x y v : AV} {A' : AW} {cx cy : Value} (p q : Operand) (hl : binA E op t x y A = .val v A') (hx : VRel μ x cx) (hy : VRel μ y cy) :
    Ans E base μ A w (do eqGuard op t p q cx cy; binOp op t cx cy) v A' := by
  unfold binA at hl
  split at hl
  · rename_i k a k' b
    cases hx; cases hy
    exact Ans.bind (by cases op <;> rfl) (intOp_sound h hl)
  · rename_i a b
    cases hx; cases hy
    exact Ans.bind (by cases op <;> rfl) (strOp_sound h hl)
  · rename_i a b
    cases hx; cases hy
    refine Ans.bind (by cases op <;> rfl) ?_
    have key : ∀ d, E.tys.get t = some d → d.desc = .bool → (Op.equal t (.bool a) (.bool b)).run E.P w = .ok (a == b) w := fun d hd hdd => by
      have hu := (hE t d hd).run_und w
      unfold Op.equal Op.equalIn Op.maxDepth
      rw [Sem.run_bind, hu, hdd]
      rfl
    split at hl
    · split at hl
      · rename_i d hd
        split at hl
        · rename_i hdd
          obtain ⟨rfl, rfl⟩ := retB_val hl
          exact Ans.same h (by simp only [binOp]; rw [Sem.run_bind, key d hd hdd]; rfl) (.bool _)
        · cases hl
      · cases hl
    · split at hl
      · rename_i d hd
        split at hl
        · rename_i hdd
          obtain ⟨rfl, rfl⟩ := retB_val hl
          exact Ans.same h (by simp only [binOp]; rw [Sem.run_bind, key d hd hdd]; rfl) (.bool _)
        · cases hl
      · cases hl
    · cases hl
  · split at hl
    · rename_i k b hn
      split at hl
      · rename_i d hd
        cases hk : Nat.beq (kindD d.desc) k
        · simp [hk] at hl
        · simp only [hk, cond_true] at hl
          obtain ⟨h1, h2, h3, h4⟩ := nilEq_sound (w := w) hE hn hd (Nat.eq_of_beq_eq_true hk) hx hy
          refine Ans.bind (h4 op p q) ?_
          split at hl
          · obtain ⟨rfl, rfl⟩ := retB_val hl
            exact Ans.same h (by rw [h2, Sem.run_bind, h1]; rfl) (.bool _)
          · obtain ⟨rfl, rfl⟩ := retB_val hl
            exact Ans.same h (by rw [h3, Sem.run_bind, h1]; rfl) (.bool _)
          · cases hl
      · cases hl
    · split at hl
      · rename_i a b ha hb
        have e1 := toVal_eq ha hx
        have e2 := toVal_eq hb hy
        subst e1; subst e2
        rw [eqGuard_swap op t p q (toVal_notIface ha)]
        exact Ans.quiet h hl
      · exact rest_sound h p q hl hx hy
theorem unA_sound (h : Rel base μ A w) {op : UnOp} {x v : AV} {A' : AW} {cx : Value} (hl : unA E op x A = .val v A') (hx : VRel μ x cx) : Ans E base μ A w (Op.unary op cx) v A' := by
  unfold unA at hl
  split at hl
  · cases hx
    obtain ⟨rfl, rfl⟩ := retB_val hl
    exact Ans.same h rfl (.bool _)
  · rename_i k n
    cases hx
    obtain ⟨rfl, rfl⟩ := retI_val hl
    rw [wrapI_eq, isub_eq]
    exact Ans.same h rfl (.int _ _)
  · split at hl
    · rename_i a ha
      have e1 := toVal_eq ha hx
      subst e1
      exact Ans.quiet h hl
    · cases hl
theorem newFam_ans (hE : TysOk E) (h : Rel base μ A w) {w1 : World} (hs : Side w w1) (hh : w1.heap = w.heap) {cs : List AV} {vs : List Value} (elem : TypeId) (es : Nat) (hr : LRel μ cs vs) (h1 : ∀ x ∈ cs, x.one = true) (rest : List Value) :
    Step base μ A w (μ.put A.nxt 0 ⟨w.heap.size, 0, 0, (vs ++ rest).length, es⟩) (newFam A es cs) (w1.alloc (.cells (vs ++ rest).toArray elem)) := by
  have := Step.newRow (es := es) (ro := false) (fz := (0, 0)) h hs hh elem (cs := cs) (arr := (vs ++ rest).toArray) (fun _ => rfl) (lrel_hrel hr h1 rest)
  simpa [newFam] using this
theorem alloc_sound (hE : TysOk E) (h : Rel base μ A w) {t : TypeId} {d : ATy} {z : List AV} (hd : E.tys.get t = some d) (hz : d.zero = some z) :
    Ans E base μ A w (Instr.alloc t true (.tuple #[])) (.ptr A.nxt 0 0) (newFam A (esOf E d) z) := by
  have ht := hE t d hd
  obtain ⟨zv, h1, h2, h3, _⟩ := ht.run_zero w hz μ
  have hst := newFam_ans hE h ⟨rfl, rfl, rfl⟩ rfl t (esOf E d) h2 h3 []
  refine ⟨.pointer (some ⟨w.heap.size, 0, none⟩), _, _, ?_, .ptr (Mp.put_same _ _ _ _) rfl, hst⟩
  simp only [Instr.alloc, Sem.run_bind, h1, Result.andThen_ok, newVar, newRow, run_new, Sem.run_pure, List.append_nil]
theorem box_sound (hE : TysOk E) (h : Rel base μ A w) {t : TypeId} {d : ATy} {x : AV} {cs : List AV} {cx : Value} (hx : VRel μ x cx) (hc : cellsOf x = some cs) :
    Ans E base μ A w (Instr.box t cx) (.ptr A.nxt 0 0) (newFam A (esOf E d) cs) := by
  obtain ⟨h2, h3⟩ := cellsOf_rel hx hc
  have hst := newFam_ans hE h ⟨rfl, rfl, rfl⟩ rfl t (esOf E d) h2 h3 []
  refine ⟨.pointer (some ⟨w.heap.size, 0, none⟩), _, _, ?_, .ptr (Mp.put_same _ _ _ _) rfl, hst⟩
  simp only [Instr.box, Sem.run_bind, newVar, newRow, run_new, Result.andThen_ok, Sem.run_pure, List.append_nil]
omit [Rho] in
theorem foldl_zip_set (xs : List Value) (off : Nat) : ∀ (k : Nat) (cells : Array Value),
    ((xs.zipIdx k).foldl (fun cs (p : Value × Nat) => cs.setIfInBounds (off + p.2) p.1) cells).toList = (xs.zipIdx k).foldl (fun (cs : List Value) (p : Value × Nat) => cs.set (off + p.2) p.1) cells.toList := by
  induction xs with
  | nil => intro k cells; rfl
  | cons x xs ih => intro k cells; simp only [List.zipIdx_cons, List.foldl_cons]; rw [ih]; simp
omit [Rho] in
theorem foldl_zip_get (xs : List Value) (off : Nat) : ∀ (k : Nat) (l : List Value) (i : Nat), off + k + xs.length ≤ l.length →
    ((xs.zipIdx k).foldl (fun (cs : List Value) (p : Value × Nat) => cs.set (off + p.2) p.1) l)[i]? = if off + k ≤ i ∧ i < off + k + xs.length then xs[i - (off + k)]? else l[i]? := by
  induction xs with
  | nil => intro k l i h; simp; omega
  | cons x xs ih =>
    intro k l i h
    simp only [List.zipIdx_cons, List.foldl_cons]
    rw [ih (k + 1) _ i (by simp at h ⊢; omega)]
    simp only [List.length_cons] at h ⊢
    by_cases a : i = off + k
    · subst a
      rw [if_neg (by omega), if_pos (by omega), List.getElem?_set_self (by omega)]
      simp
    · by_cases b : off + (k + 1) ≤ i ∧ i < off + (k + 1) + xs.length
      · rw [if_pos b, if_pos (by omega)]
        have : i - (off + k) = (i - (off + (k + 1))) + 1 := by omega
        rw [this]
        simp
      · rw [if_neg b, if_neg (by omega), List.getElem?_set_ne (by omega)]
theorem putN_rel {μ : Mp} {off : Nat} {xs cs cs' : List AV} {vs : List Value} {cells : Array Value} (hp : putN off xs cs = some cs') (hx : LRel μ xs vs) (hc : LRel μ cs cells.toList) :
    LRel μ cs' ((vs.zipIdx).foldl (fun cs (p : Value × Nat) => cs.setIfInBounds (off + p.2) p.1) cells).toList := by
  have hlen := putN_length hp
  obtain ⟨hfit, _⟩ := putN_eq _ _ _ _ hp
  have h1 := hx.1
  have h2 := hc.1
  rw [foldl_zip_set]
  have hl : ∀ (k : Nat) (l : List Value), ((vs.zipIdx k).foldl (fun (cs : List Value) (p : Value × Nat) => cs.set (off + p.2) p.1) l).length = l.length := by
    clear h1 hx
    induction vs with
    | nil => intro k l; rfl
    | cons v vs ih => intro k l; simp only [List.zipIdx_cons, List.foldl_cons]; rw [ih]; simp
  refine ⟨by rw [hl, hlen, h2], fun i a b ha hb => ?_⟩
  rw [foldl_zip_get vs off 0 _ i (by omega)] at hb
  rw [putN_get hp] at ha
  simp only [Nat.add_zero] at hb
  by_cases c : off ≤ i ∧ i < off + xs.length
  · rw [if_pos c] at ha
    rw [if_pos (by omega)] at hb
    exact hx.2 _ a b ha hb
  · rw [if_neg c] at ha
    rw [if_neg (by omega)] at hb
    exact hc.2 _ a b ha hb
omit [Rho] in
theorem putN_one {off : Nat} {xs cs cs' : List AV} (hp : putN off xs cs = some cs') (hx : ∀ x ∈ xs, x.one = true) (hc : ∀ x ∈ cs, x.one = true) : ∀ x ∈ cs', x.one = true := fun x hm => by
  obtain ⟨i, hi⟩ := List.mem_iff_getElem?.1 hm
  rw [putN_get hp] at hi
  split at hi
  · exact hx _ (List.mem_of_getElem? hi)
  · exact hc _ (List.mem_of_getElem? hi)
def PRel (μ : Mp) : List (Nat × AV) → List (Nat × Value) → Prop
  | [], [] => True
  | (i, x) :: l, (j, y) :: r => i = j ∧ VRel μ x y ∧ PRel μ l r
  | _, _ => False
theorem fill_sound {μ : Mp} {pl : Nat → Option (Nat × Nat)} {pl' : Nat → Option (Nat × Nat)} (hpl : ∀ i q, pl i = some q → pl' i = some q) : ∀ {ps : List (Nat × AV)} {qs : List (Nat × Value)} {cs cs' : List AV} {cells : Array Value},
    fillA pl cs ps = some cs' → PRel μ ps qs → LRel μ cs cells.toList → (∀ x ∈ cs, x.one = true) →
    ∃ cells', Instr.fill pl' cells qs = some cells' ∧ LRel μ cs' cells'.toList ∧ ∀ x ∈ cs', x.one = true
  | [], [], cs, cs', cells, h, _, hc, h1 => by simp only [fillA, Option.some.injEq] at h; subst h; exact ⟨cells, rfl, hc, h1⟩
  | [], _ :: _, _, _, _, _, hp, _, _ => hp.elim
  | (i, x) :: ps, [], _, _, _, _, hp, _, _ => hp.elim
  | (i, x) :: ps, (j, y) :: qs, cs, cs', cells, h, hp, hc, h1 => by
    obtain ⟨rfl, hxy, hp⟩ := hp
    simp only [fillA] at h
    split at h
    · rename_i off size xs hpi hxs
      obtain ⟨hr, ho⟩ := cellsOf_rel hxy hxs
      cases hb : Nat.beq (len xs) size
      · simp [hb] at h
      · simp only [hb, cond_true] at h
        have hsz := Nat.eq_of_beq_eq_true hb
        rw [len_eq] at hsz
        split at h
        · rename_i cs2 hput
          obtain ⟨hfit, _⟩ := putN_eq _ _ _ _ hput
          have e1 : y.cells.size = xs.length := by rw [hr.1]; simp
          have e2 : cells.size = cs.length := by rw [hc.1]; simp
          obtain ⟨cells', a, b, c⟩ := fill_sound hpl h hp (putN_rel hput hr hc) (putN_one hput ho h1)
          refine ⟨cells', ?_, b, c⟩
          simp only [Instr.fill, hpl i _ hpi]
          rw [if_neg (by simp; omega)]
          rw [← a]
          congr 1
          rw [← Array.foldl_toList, Array.toList_zipIdx]
        · cases h
    · cases h
omit [Rho] in
theorem fillA_len {pl : Nat → Option (Nat × Nat)} : ∀ {ps : List (Nat × AV)} {cs cs' : List AV}, fillA pl cs ps = some cs' → cs'.length = cs.length
  | [], cs, cs', h => by simp only [fillA, Option.some.injEq] at h; subst h; rfl
  | (i, x) :: ps, cs, cs', h => by
    simp only [fillA] at h
    split at h
    · rename_i off size xs _ _
      cases hb : Nat.beq (len xs) size
      · simp [hb] at h
      · simp only [hb, cond_true] at h
        split at h
        · rename_i cs2 hput
          rw [fillA_len h, putN_length hput]
        · cases h
    · cases h
theorem partsA_rel {μ : Mp} {F : Fr} {ρ : Operand → Value} (hρ : ∀ x, VRel μ (ev F x) (ρ x)) : ∀ l : List (Nat × Operand), PRel μ (partsA F l) (l.map fun (i, x) => (i, ρ x))
  | [] => trivial
  | (_, x) :: l => ⟨rfl, hρ x, partsA_rel hρ l⟩
theorem evs_rel {μ : Mp} {F : Fr} {ρ : Operand → Value} (hρ : ∀ x, VRel μ (ev F x) (ρ x)) : ∀ l : List Operand, LRel μ (evs F l) (l.map ρ)
  | [] => LRel.nil μ
  | x :: l => LRel.cons (hρ x) (evs_rel hρ l)
end
end Go.AE
