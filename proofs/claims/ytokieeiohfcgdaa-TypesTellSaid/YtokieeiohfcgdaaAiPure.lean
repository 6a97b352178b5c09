/-
  OPERATIONS THAT ONLY COMPUTE: numbers, texts, truth values, nil.
-/
import Derived.Test.YtokieeiohfcgdaaAiMem
import Derived.Laws.Strings
import Derived.Laws.StructEq
import Derived.IntWalk
namespace Go.AE
variable [Rho]

omit [Rho] in
theorem iadd_eq (x y : Int) : iadd x y = x + y := by
  unfold iadd
  split
  · rfl
  · rfl
omit [Rho] in
theorem isub_eq (x y : Int) : isub x y = x - y := by
  unfold isub
  split
  · rename_i a b
    cases h : Nat.ble b a
    · have hb : ¬ b ≤ a := fun hle => by rw [Nat.ble_eq_true_of_le hle] at h; cases h
      simp only [cond_false]
      have e1 : Nat.sub (Nat.sub b a) 1 = b - a - 1 := rfl
      rw [e1]
      simp only [Int.ofNat_eq_natCast, Int.negSucc_eq]
      omega
    · have hb : b ≤ a := Nat.le_of_ble_eq_true h
      simp only [cond_true]
      have e1 : Nat.sub a b = a - b := rfl
      rw [e1]
      simp only [Int.ofNat_eq_natCast]
      omega
  · rfl
omit [Rho] in
theorem blt_eq (a b : Nat) : Nat.blt a b = decide (a < b) := by
  by_cases h : a < b
  · simp only [h, decide_true]; exact Nat.ble_eq_true_of_le h
  · simp only [h, decide_false]
    cases hb : Nat.blt a b
    · rfl
    · exact absurd (Nat.le_of_ble_eq_true hb) h
omit [Rho] in
theorem beq_eq (a b : Nat) : Nat.beq a b = decide (a = b) := by
  by_cases h : a = b
  · subst h; simp
  · simp only [h, decide_false]
    cases hb : Nat.beq a b
    · rfl
    · exact absurd (Nat.eq_of_beq_eq_true hb) h
omit [Rho] in
theorem ilt_eq (x y : Int) : ilt x y = decide (x < y) := by
  cases x with
  | ofNat a =>
    cases y with
    | ofNat b => simp [ilt, blt_eq]
    | negSucc b => simp only [ilt]; exact (decide_eq_false (by simp only [Int.ofNat_eq_natCast, Int.negSucc_eq]; omega)).symm
  | negSucc a =>
    cases y with
    | ofNat b => simp only [ilt]; exact (decide_eq_true (by simp only [Int.ofNat_eq_natCast, Int.negSucc_eq]; omega)).symm
    | negSucc b =>
      simp only [ilt, blt_eq]
      apply decide_eq_decide.2
      simp only [Int.negSucc_eq]; omega
omit [Rho] in
theorem ieq_eq (x y : Int) : ieq x y = decide (x = y) := by
  cases x with
  | ofNat a =>
    cases y with
    | ofNat b => simp only [ieq, beq_eq, Int.ofNat_eq_natCast]; exact decide_eq_decide.2 (by omega)
    | negSucc b => simp [ieq]
  | negSucc a =>
    cases y with
    | ofNat b => simp [ieq]
    | negSucc b => simp [ieq, beq_eq]
omit [Rho] in
theorem kindEq_eq (a b : IntKind) : kindEq a b = decide (a = b) := by
  cases a <;> cases b <;> rfl
omit [Rho] in
theorem bif_blt {α : Type} (m N : Nat) (a b : α) : (bif Nat.blt m N then a else b) = if m < N then a else b := by
  rw [blt_eq]
  by_cases h : m < N <;> simp [h]
omit [Rho] in
theorem wrapI_i64 (n : Int) : wrapI .i64 n = IntKind.i64.wrap n := by
  cases n with
  | ofNat m =>
    refine (bif_blt m 9223372036854775808 (Int.ofNat m) (IntKind.wrap .i64 (.ofNat m))).trans ?_
    split
    · exact (IntWalk.i64_in _ (by simp only [Int.ofNat_eq_natCast]; omega)).symm
    · rfl
  | negSucc m =>
    refine (bif_blt m 9223372036854775808 (Int.negSucc m) (IntKind.wrap .i64 (.negSucc m))).trans ?_
    split
    · exact (IntWalk.i64_in _ (by simp only [Int.negSucc_eq]; omega)).symm
    · rfl
omit [Rho] in
theorem wrapI_u8 (n : Int) : wrapI .u8 n = IntKind.u8.wrap n := by
  cases n with
  | ofNat m =>
    simp only [wrapI, IntKind.wrap_u8, Int.ofNat_eq_natCast]
    rfl
  | negSucc m => rfl
omit [Rho] in
theorem wrapI_u64 (n : Int) : wrapI .u64 n = IntKind.u64.wrap n := by
  cases n with
  | ofNat m =>
    simp only [wrapI, IntKind.wrap, IntKind.bits, IntKind.signed, Int.ofNat_eq_natCast, Bool.false_and, Bool.false_eq_true, if_false]
    rfl
  | negSucc m => rfl
omit [Rho] in
theorem wrapI_eq (k : IntKind) (n : Int) : wrapI k n = k.wrap n := by
  cases k with
  | i64 => exact wrapI_i64 n
  | u8 => exact wrapI_u8 n
  | u64 => exact wrapI_u64 n
  | i8 => rfl
  | i16 => rfl
  | i32 => rfl
  | u16 => rfl
  | u32 => rfl

omit [Rho] in
theorem retI_val {k : IntKind} {n : Int} {A A' : AW} {v : AV} (h : retI k n A = .val v A') : v = .int k n ∧ A' = A := by
  unfold retI at h
  split at h
  · rename_i m
    have e : Nat.ble 0 m = true := Nat.ble_eq_true_of_le (Nat.zero_le m)
    rw [e] at h
    cases h
    exact ⟨rfl, rfl⟩
  · rename_i m
    have e : Nat.ble 0 m = true := Nat.ble_eq_true_of_le (Nat.zero_le m)
    rw [e] at h
    cases h
    exact ⟨rfl, rfl⟩
omit [Rho] in
theorem retB_val {b : Bool} {A A' : AW} {v : AV} (h : retB b A = .val v A') : v = .bool b ∧ A' = A := by
  cases b <;> (cases h; exact ⟨rfl, rfl⟩)

omit [Rho] in
theorem runQ_run {α : Type} (P : Program) : ∀ (s : Sem α) (a : α), runQ P s = some a → ∀ w, s.run P w = .ok a w := by
  intro s
  induction s with
  | pure a => intro b h w; simp only [runQ, Option.some.injEq] at h; subst h; rfl
  | program k ih => intro b h w; exact ih P b h w
  | _ => intro b h; cases h

theorem back_rel {μ : Mp} {x : Value} {v : AV} (h : back x = some v) : VRel μ v x := by
  unfold back at h
  split at h <;> cases h
  · exact .bool _
  · exact .int _ _
  · exact .float _ _
  · exact .cplx _ _ _
  · exact .str _

theorem quiet_val {E : Env} {s : Sem Value} {A A' : AW} {v : AV} (h : quiet E s A = .val v A') : A' = A ∧ ∃ x, (∀ w, s.run E.P w = .ok x w) ∧ ∀ μ, VRel μ v x := by
  unfold quiet at h
  split at h
  · rename_i x hx
    split at h
    · rename_i a ha
      cases h
      exact ⟨rfl, x, runQ_run _ _ _ hx, fun μ => back_rel ha⟩
    · cases h
  · cases h

omit [Rho] in
theorem bytes_back (l : List UInt8) : (l.map UInt8.toNat).map UInt8.ofNat = l := by
  induction l with
  | nil => rfl
  | cons a l ih => simp [ih]

theorem leafVal_eq {μ : Mp} {v : AV} {x y : Value} (h : leafVal v = some y) (hr : VRel μ v x) : x = y := by
  cases hr <;> simp only [leafVal, Option.some.injEq, reduceCtorEq] at h <;> try exact h
  case str s =>
    rw [← h, bytes_back]
theorem leafVals_eq {μ : Mp} : ∀ {l : List AV} {vs ys : List Value}, leafVals l = some ys → LRel μ l vs → vs = ys
  | [], vs, ys, h, hr => by simp only [leafVals, Option.some.injEq] at h; subst h; exact hr.inv_nil
  | v :: l, vs, ys, h, hr => by
    obtain ⟨y, ys', rfl, h1, h2⟩ := hr.inv
    simp only [leafVals] at h
    split at h
    · rename_i a as ha has
      cases h
      rw [leafVal_eq ha h1, leafVals_eq has h2]
    · cases h
theorem toVal_eq {μ : Mp} {v : AV} {x y : Value} (h : toVal v = some y) (hr : VRel μ v x) : x = y := by
  unfold toVal at h
  split at h
  · rename_i cs
    obtain ⟨us, rfl, h1, _⟩ := vrel_agg hr
    split at h
    · rename_i vs hvs
      cases h
      rw [← leafVals_eq hvs h1]
    · cases h
  · exact leafVal_eq h hr
omit [Rho] in
theorem leafVal_notIface {v : AV} {y : Value} (h : leafVal v = some y) : y ≠ .nilIface := by
  cases v <;> simp [leafVal] at h <;> subst h <;> simp
omit [Rho] in
theorem toVal_notIface {v : AV} {y : Value} (h : toVal v = some y) : y ≠ .nilIface := by
  unfold toVal at h
  split at h
  · split at h
    · cases h; simp
    · cases h
  · exact leafVal_notIface h

/-! ### Texts -/
omit [Rho] in
theorem toNat_inj {a b : UInt8} : a.toNat = b.toNat ↔ a = b := by
  constructor
  · intro h; exact UInt8.toNat_inj.1 h
  · rintro rfl; rfl
omit [Rho] in
theorem strEq_eq : ∀ (a b : List UInt8), strEq (a.map UInt8.toNat) (b.map UInt8.toNat) = (a == b)
  | [], [] => rfl
  | [], _ :: _ => rfl
  | _ :: _, [] => rfl
  | x :: a, y :: b => by
    simp only [List.map_cons, strEq, beq_eq]
    by_cases h : x = y
    · subst h; simp [strEq_eq a b]
    · have : x.toNat ≠ y.toNat := fun e => h (toNat_inj.1 e)
      simp [this, h]
omit [Rho] in
theorem strLt_eq : ∀ (a b : List UInt8), strLt (a.map UInt8.toNat) (b.map UInt8.toNat) = Op.bytesLess a b
  | [], [] => rfl
  | [], _ :: _ => rfl
  | _ :: _, [] => rfl
  | x :: a, y :: b => by
    simp only [List.map_cons, strLt, blt_eq, beq_eq, Op.bytesLess]
    by_cases h : x = y
    · subst h; simp [strLt_eq a b]
    · have h1 : x.toNat ≠ y.toNat := fun e => h (toNat_inj.1 e)
      simp only [h1, decide_false, cond_false, UInt8.lt_iff_toNat_lt]
      by_cases h2 : x.toNat < y.toNat <;> simp [h2, h]

end Go.AE
