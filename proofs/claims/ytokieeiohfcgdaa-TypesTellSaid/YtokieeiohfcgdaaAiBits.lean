/-
  NUMBERS BY THEIR BITS: what lists of bits stand for.
-/
import Derived.Test.YtokieeiohfcgdaaAiPure
namespace Go.AE
variable [Rho]

theorem bval_le (b : Bt) : bval b ≤ 1 := by
  cases b <;> simp only [bval] <;> (try (rename_i i; cases Rho.b i)) <;> simp
theorem bmin_le (b : Bt) : bmin b ≤ bval b := by
  cases b <;> simp [bval, bmin]
theorem bmax_le (b : Bt) : bval b ≤ bmax b := by
  have := bval_le b
  cases b <;> simp_all [bval, bmax]
theorem natMin_le : ∀ l : List Bt, natMin l ≤ natOf l
  | [] => Nat.le_refl _
  | b :: l => by
    have h1 := natMin_le l
    have h2 := bmin_le b
    show bmin b + 2 * natMin l ≤ bval b + 2 * natOf l
    omega
theorem natMax_le : ∀ l : List Bt, natOf l ≤ natMax l
  | [] => Nat.le_refl _
  | b :: l => by
    have h1 := natMax_le l
    have h2 := bmax_le b
    show bval b + 2 * natOf l ≤ bmax b + 2 * natMax l
    omega
theorem natOf_const : ∀ l : List Bt, allConst l = true → natOf l = natMin l
  | [], _ => rfl
  | b :: l, h => by
    simp only [allConst] at h
    cases hb : isConst b <;> rw [hb] at h <;> simp only [cond_true, cond_false, Bool.false_eq_true] at h
    have h1 := natOf_const l h
    show bval b + 2 * natOf l = bmin b + 2 * natMin l
    rw [h1]
    cases b <;> simp_all [isConst, bval, bmin]
omit [Rho] in
theorem lenB_eq : ∀ l : List Bt, lenB l = l.length
  | [] => rfl
  | _ :: l => congrArg Nat.succ (lenB_eq l)
theorem natOf_lt : ∀ l : List Bt, natOf l < 2 ^ lenB l
  | [] => by simp [natOf, lenB]
  | b :: l => by
    have h1 := natOf_lt l
    have h2 := bval_le b
    show bval b + 2 * natOf l < 2 ^ (lenB l + 1)
    rw [Nat.pow_succ]
    omega
theorem natOf_lt' {l : List Bt} {n : Nat} (h : lenB l ≤ n) : natOf l < 2 ^ n :=
  Nat.lt_of_lt_of_le (natOf_lt l) (Nat.pow_le_pow_right (by decide) h)
theorem natOf_drop : ∀ (c : Nat) (l : List Bt), natOf (dropN c l) = natOf l / 2 ^ c
  | 0, l => by cases l <;> simp [dropN]
  | c + 1, [] => by simp [dropN, natOf]
  | c + 1, b :: l => by
    have h := natOf_drop c l
    have hb := bval_le b
    show natOf (dropN c l) = (bval b + 2 * natOf l) / 2 ^ (c + 1)
    rw [h, Nat.pow_succ, Nat.mul_comm (2 ^ c) 2, ← Nat.div_div_eq_div_mul]
    have e : (bval b + 2 * natOf l) / 2 = natOf l := by omega
    rw [e]
theorem natOf_head : ∀ (c : Nat) (l : List Bt), natOf (headN c l) = natOf l % 2 ^ c
  | 0, l => by cases l <;> simp [headN, natOf, Nat.mod_one]
  | c + 1, [] => by simp [headN, natOf]
  | c + 1, b :: l => by
    have h := natOf_head c l
    have hb := bval_le b
    show bval b + 2 * natOf (headN c l) = (bval b + 2 * natOf l) % 2 ^ (c + 1)
    rw [h, Nat.pow_succ, Nat.mul_comm (2 ^ c) 2, Nat.mod_mul]
    have e1 : (bval b + 2 * natOf l) % 2 = bval b := by omega
    have e2 : (bval b + 2 * natOf l) / 2 = natOf l := by omega
    rw [e1, e2]
theorem natOf_zeros : ∀ (c : Nat) (l : List Bt), natOf (zerosN c l) = 2 ^ c * natOf l
  | 0, l => by simp [zerosN]
  | c + 1, l => by
    have h := natOf_zeros c l
    show 0 + 2 * natOf (zerosN c l) = 2 ^ (c + 1) * natOf l
    rw [h, Nat.pow_succ, Nat.mul_comm (2 ^ c) 2, Nat.mul_assoc, Nat.zero_add]
theorem natOf_pad : ∀ (c : Nat) (l : List Bt), natOf (padN c l) = natOf l
  | 0, l => by simp [padN]
  | c + 1, [] => by
    have h := natOf_pad c []
    show 0 + 2 * natOf (padN c []) = 0
    rw [h]
    rfl
  | c + 1, b :: l => by
    have h := natOf_pad c l
    show bval b + 2 * natOf (padN c l) = bval b + 2 * natOf l
    rw [h]
omit [Rho] in
theorem lenB_pad : ∀ (c : Nat) (l : List Bt), lenB l ≤ c → lenB (padN c l) = c
  | 0, [], _ => rfl
  | 0, b :: l, h => by simp [lenB] at h
  | c + 1, [], _ => congrArg Nat.succ (lenB_pad c [] (Nat.zero_le _))
  | c + 1, b :: l, h => congrArg Nat.succ (lenB_pad c l (Nat.le_of_succ_le_succ h))
omit [Rho] in
theorem lenB_head : ∀ (c : Nat) (l : List Bt), lenB (headN c l) ≤ c
  | 0, l => by cases l <;> simp [headN, lenB]
  | c + 1, [] => Nat.zero_le _
  | c + 1, b :: l => Nat.succ_le_succ (lenB_head c l)
theorem bval_neg (b : Bt) : bval (negB b) = 1 - bval b := by
  cases b <;> simp only [bval, negB] <;> (rename_i i; cases Rho.b i) <;> rfl
theorem natOf_compl : ∀ l : List Bt, natOf (compl l) + natOf l + 1 = 2 ^ lenB l
  | [] => rfl
  | b :: l => by
    have h := natOf_compl l
    have hb := bval_le b
    show (bval (negB b) + 2 * natOf (compl l)) + (bval b + 2 * natOf l) + 1 = 2 ^ (lenB l + 1)
    rw [bval_neg, Nat.pow_succ]
    omega
theorem natOf_snoc (b : Bt) : ∀ l : List Bt, natOf (l ++ [b]) = natOf l + 2 ^ lenB l * bval b
  | [] => by simp [natOf, lenB]
  | a :: l => by
    have h := natOf_snoc b l
    show bval a + 2 * natOf (l ++ [b]) = (bval a + 2 * natOf l) + 2 ^ (lenB l + 1) * bval b
    rw [h, Nat.pow_succ, Nat.mul_comm (2 ^ lenB l) 2, Nat.mul_assoc, Nat.mul_add]
    omega
omit [Rho] in
theorem or_step (b c m n : Nat) (hb : b ≤ 1) (hc : c ≤ 1) : (b + 2 * m) ||| (c + 2 * n) = (b ||| c) + 2 * (m ||| n) := by
  have h1 : ((b + 2 * m) ||| (c + 2 * n)) / 2 = m ||| n := by
    rw [Nat.or_div_two]
    have e1 : (b + 2 * m) / 2 = m := by omega
    have e2 : (c + 2 * n) / 2 = n := by omega
    rw [e1, e2]
  have h2 : ((b + 2 * m) ||| (c + 2 * n)) % 2 = b ||| c := by
    have := @Nat.or_mod_two_pow (b + 2 * m) (c + 2 * n) 1
    rw [Nat.pow_one] at this
    rw [this]
    have e1 : (b + 2 * m) % 2 = b := by omega
    have e2 : (c + 2 * n) % 2 = c := by omega
    rw [e1, e2]
  omega
theorem bval_or {a b c : Bt} (h : orB a b = some c) : bval c = bval a ||| bval b := by
  have ha := bval_le a
  have hb := bval_le b
  have one : ∀ x, x ≤ 1 → 1 ||| x = 1 ∧ x ||| 1 = 1 ∧ 0 ||| x = x ∧ x ||| 0 = x := by
    intro x hx
    have : x = 0 ∨ x = 1 := by omega
    rcases this with rfl | rfl <;> decide
  unfold orB at h
  split at h
  · cases h
    exact ((one _ hb).2.2.1).symm
  · cases h
    exact ((one _ ha).2.2.2).symm
  · cases h
    exact ((one _ hb).1).symm
  · cases h
    exact ((one _ ha).2.1).symm
  · cases h
theorem natOf_or : ∀ {l m r : List Bt}, zipOr l m = some r → natOf r = natOf l ||| natOf m
  | [], m, r, h => by
    simp only [zipOr, Option.some.injEq] at h
    subst h
    show natOf m = 0 ||| natOf m
    rw [Nat.zero_or]
  | a :: l, [], r, h => by
    simp only [zipOr, Option.some.injEq] at h
    subst h
    show natOf (a :: l) = natOf (a :: l) ||| 0
    rw [Nat.or_zero]
  | a :: l, b :: m, r, h => by
    simp only [zipOr] at h
    split at h
    · rename_i c q hc hq
      cases h
      show bval c + 2 * natOf q = (bval a + 2 * natOf l) ||| (bval b + 2 * natOf m)
      rw [or_step _ _ _ _ (bval_le a) (bval_le b), bval_or hc, natOf_or hq]
    · cases h
omit [Rho] in
theorem btEq_val {a b : Bt} (h : btEq a b = true) : a = b := by
  unfold btEq at h
  split at h <;> (try simp only [beq_eq, decide_eq_true_eq, Bool.false_eq_true] at h) <;> (try rfl)
  · rw [h]
  · rw [h]
theorem noBits_val : ∀ {l : List Bt}, noBits l = true → natOf l = 0
  | [], _ => rfl
  | b :: l, h => by
    cases b <;> simp only [noBits, Bool.false_eq_true] at h
    show 0 + 2 * natOf l = 0
    rw [noBits_val h]
theorem eqBits_val : ∀ {l m : List Bt}, eqBits l m = true → natOf l = natOf m
  | [], m, h => by
    simp only [eqBits] at h
    show 0 = natOf m
    rw [noBits_val h]
  | a :: l, [], h => by
    simp only [eqBits] at h
    exact noBits_val h
  | a :: l, b :: m, h => by
    simp only [eqBits, Bool.and_eq_true] at h
    rw [btEq_val h.1]
    show bval b + 2 * natOf l = bval b + 2 * natOf m
    rw [eqBits_val h.2]
omit [Rho] in
theorem btsEq_val : ∀ {l m : List Bt}, btsEq l m = true → l = m
  | [], [], _ => rfl
  | [], _ :: _, h => by simp [btsEq, isNilB] at h
  | _ :: _, [], h => by simp [btsEq] at h
  | a :: l, b :: m, h => by
    simp only [btsEq, Bool.and_eq_true] at h
    rw [btEq_val h.1, btsEq_val h.2]
theorem natOf_to : ∀ (n b : Nat), natOf (toBits n b) = b % 2 ^ n
  | 0, b => by simp [toBits, natOf, Nat.mod_one]
  | n + 1, b => by
    have h := natOf_to n (b / 2)
    show bval (bif Nat.beq (b % 2) 1 then .one else .zero) + 2 * natOf (toBits n (b / 2)) = b % 2 ^ (n + 1)
    rw [h, Nat.pow_succ, Nat.mul_comm (2 ^ n) 2, Nat.mod_mul, beq_eq]
    have e : b % 2 = 0 ∨ b % 2 = 1 := by omega
    rcases e with e | e <;> simp [e, bval]
theorem mkBits_rel (μ : Mp) (k : IntKind) (l : List Bt) : VRel μ (mkBits k l) (.int k (Int.ofNat (natOf l))) := by
  unfold mkBits
  cases h : allConst l with
  | true => rw [natOf_const l h]; exact .int _ _
  | false => exact .bits _ _
end Go.AE
