/-
  PLAIN: what a reader of classes reads without an error is what would be written.
  PLAIN: the program's reader of classes gives no error, and it has read what would be written.
-/
import Derived.Test.YtiecclkgjcnaoaaGreatAiSyC10
namespace Go.Proofs.YtiecclkgjcnaoaaGreat.Ae
open Go.AE
set_option linter.unusedVariables false
theorem small.tail {x : Nat} {ys : List Nat} (h : small (x :: ys)) : small ys := fun b hb => h b (List.mem_cons_of_mem _ hb)
theorem small.drop {xs : List Nat} (h : small xs) (n : Nat) : small (xs.drop n) := fun b hb => h b (List.mem_of_mem_drop hb)
theorem small.take {xs : List Nat} (h : small xs) (n : Nat) : small (xs.take n) := fun b hb => h b (List.mem_of_mem_take hb)
theorem pow63 {i : Nat} (h : i ≤ 9) : 2 ^ (7 * i) ≤ 9223372036854775808 := Nat.le_trans (Nat.pow_le_pow_right (by decide) (show 7 * i ≤ 63 by omega)) (by decide)
theorem rdG_fwd : ∀ (l : List Nat) (i n : Nat), small l → i ≤ 9 → n < 2 ^ (7 * i) → (rdG l i n).2.1 = 0 →
    ∃ m, (0 < i → 0 < m) ∧ (rdG l i n).1 = n + m * 2 ^ (7 * i) ∧ i + 1 ≤ (rdG l i n).2.2 ∧ l = grp m ++ l.drop ((rdG l i n).2.2 - i)
  | [], i, n, _, _, _, h => absurd (show (30 : Nat) = 0 from h) (by decide)
  | b :: l, i, n, hs, hi, hn, h => by
    have hb : b < 256 := hs b (List.mem_cons_self ..)
    have h63 := pow63 hi
    rw [rdG_cons] at h ⊢
    by_cases c1 : (i = 9 ∧ b ≠ 1) ∨ (0 < i ∧ b = 0)
    · rw [if_pos c1] at h
      exact absurd (show (31 : Nat) = 0 from h) (by decide)
    · rw [if_neg c1] at h ⊢
      have c1a : i = 9 → b = 1 := fun h => Decidable.byContradiction fun k => c1 (.inl ⟨h, k⟩)
      have c1b : 0 < i → b ≠ 0 := fun h k => c1 (.inr ⟨h, k⟩)
      by_cases c2 : 128 ≤ b
      · rw [if_pos c2] at h ⊢
        have hi8 : i ≤ 8 := Decidable.byContradiction fun k => by
          have := c1a (by omega)
          omega
        have e63 := pow63 (show i + 1 ≤ 9 by omega)
        have hx : n + b % 128 * 2 ^ (7 * i) < 2 ^ (7 * (i + 1)) := by
          rw [pow7]
          have : b % 128 * 2 ^ (7 * i) ≤ 127 * 2 ^ (7 * i) := Nat.mul_le_mul_right _ (by omega)
          omega
        have ho : orG n b i = n + b % 128 * 2 ^ (7 * i) := orG_eq hn (by omega)
        obtain ⟨m, m1, m2, m3, m4⟩ := rdG_fwd l (i + 1) (orG n b i) hs.tail (by omega) (by rw [ho]; exact hx) h
        have m1 := m1 (by omega)
        refine ⟨b % 128 + 128 * m, fun _ => by omega, ?_, by omega, ?_⟩
        · rw [m2, ho, pow7, Nat.add_mul, Nat.mul_assoc, Nat.mul_left_comm m, Nat.add_assoc]
        · rw [grp_ge (by omega)]
          have a : (b % 128 + 128 * m) % 128 + 128 = b := by omega
          have a2 : (b % 128 + 128 * m) / 128 = m := by omega
          rw [a, a2]
          generalize hk : (rdG l (i + 1) (orG n b i)).2.2 = k at m3 m4
          have : k - i = (k - (i + 1)) + 1 := by omega
          rw [this, List.drop_succ_cons, List.cons_append, ← m4]
      · rw [if_neg c2]
        have hlt : n + b % 128 * 2 ^ (7 * i) < 18446744073709551616 := by
          rw [Nat.mod_eq_of_lt (by omega)]
          by_cases h9 : i = 9
          · have := c1a h9
            subst this
            omega
          · have e63 := pow63 (show i + 1 ≤ 9 by omega)
            have : b * 2 ^ (7 * i) ≤ 127 * 2 ^ (7 * i) := Nat.mul_le_mul_right _ (by omega)
            rw [pow7] at e63
            omega
        have ho : orG n b i = n + b % 128 * 2 ^ (7 * i) := orG_eq hn hlt
        refine ⟨b, fun h => by have := c1b h; omega, ?_, Nat.le_refl _, ?_⟩
        · show orG n b i = _
          rw [ho, Nat.mod_eq_of_lt (by omega)]
        · show b :: l = grp b ++ (b :: l).drop (i + 1 - i)
          rw [Nat.add_sub_cancel_left, grp_lt (by omega)]
          rfl
theorem rdG_can {l : List Nat} (hs : small l) (h : (rdG l 0 0).2.1 = 0) : l = grp (rdG l 0 0).1 ++ l.drop (rdG l 0 0).2.2 := by
  obtain ⟨m, _, h1, _, h2⟩ := rdG_fwd l 0 0 hs (by decide) (by decide) h
  have e : (rdG l 0 0).1 = m := by simpa using h1
  rw [e]
  exact h2
theorem rdG_err : ∀ (l : List Nat) (i n : Nat), (rdG l i n).2.1 = 0 ∨ 30 ≤ (rdG l i n).2.1 ∧ (rdG l i n).2.1 ≤ 54
  | [], i, n => .inr ⟨Nat.le_refl 30, by show (30 : Nat) ≤ 54; decide⟩
  | b :: l, i, n => by
    unfold rdG
    split
    · exact .inr ⟨by show 30 ≤ 31; decide, by show (31 : Nat) ≤ 54; decide⟩
    · split
      · exact rdG_err l (i + 1) _
      · exact .inl rfl
theorem zz_unz {n : Nat} : zz (unz n) = n := by
  unfold zz unz
  split <;> split <;> omega
theorem unz_range {n : Nat} (h : n < 18446744073709551616) : intR (unz n) := by
  unfold unz intR
  split <;> omega
theorem unz_zz' {z : Int} (h : intR z) : unz (zz z) = z := by
  obtain ⟨h1, h2⟩ := h
  unfold zz unz
  split <;> split <;> omega
def lv : List Nat → Nat
  | [] => 0
  | b :: l => b + 256 * lv l
theorem lv_lt : ∀ {l : List Nat}, small l → lv l < 256 ^ l.length
  | [], _ => by show 0 < 1; decide
  | b :: l, h => by
    have h1 := lv_lt h.tail
    have h2 := h b (List.mem_cons_self ..)
    show b + 256 * lv l < 256 ^ (l.length + 1)
    rw [Nat.pow_succ]
    omega
theorem lv_snoc : ∀ (l : List Nat) (b : Nat), lv (l ++ [b]) = lv l + b * 256 ^ l.length
  | [], b => by show b + 256 * 0 = 0 + b * 1; omega
  | x :: l, b => by
    show x + 256 * lv (l ++ [b]) = x + 256 * lv l + b * 256 ^ (l.length + 1)
    rw [lv_snoc l b, Nat.mul_add, Nat.pow_succ, Nat.mul_left_comm, Nat.mul_comm 256, Nat.mul_comm 256 (256 ^ l.length), Nat.add_assoc]
theorem pow256 (k : Nat) : 256 ^ k = 2 ^ (8 * k) := by rw [show (256 : Nat) = 2 ^ 8 from rfl, ← Nat.pow_mul]
theorem leA_lv {bs : List Nat} (hs : small bs) : ∀ k, k ≤ 8 → k ≤ bs.length → leA bs k = lv (bs.take k)
  | 0, _, _ => rfl
  | k + 1, h, hl => by
    have hk : k < bs.length := by omega
    have e : bs.getD k 0 = bs[k] := by rw [List.getD_eq_getElem?_getD, List.getElem?_eq_getElem hk]; rfl
    have hb : bs[k] < 256 := hs _ (List.getElem_mem hk)
    have h1 := lv_lt (hs.take k)
    rw [List.length_take, Nat.min_eq_left (by omega), pow256] at h1
    have h2 : 2 ^ (8 * (k + 1)) ≤ 18446744073709551616 := Nat.le_trans (Nat.pow_le_pow_right (by decide) (show 8 * (k + 1) ≤ 64 by omega)) (by decide)
    have h3 : bs[k] * 2 ^ (8 * k) < 18446744073709551616 := by
      rw [← pow256, Nat.pow_succ, pow256] at h2
      have h4 : 0 < 2 ^ (8 * k) := Nat.pow_pos (by decide)
      have : bs[k] * 2 ^ (8 * k) ≤ 255 * 2 ^ (8 * k) := Nat.mul_le_mul_right _ (by omega)
      omega
    show leA bs k ||| (bs.getD k 0 * 2 ^ (8 * k) % 18446744073709551616) = _
    rw [e, leA_lv hs k (by omega) (by omega), Nat.mod_eq_of_lt h3, or_add h1, List.take_succ_eq_append_getElem hk, lv_snoc, List.length_take, Nat.min_eq_left (by omega), pow256]
theorem from8_shift : ∀ (k i n : Nat), from8 k (i + 1) n = from8 k i (n / 256)
  | 0, _, _ => rfl
  | k + 1, i, n => by
    show (n / 256 ^ (i + 1) % 256) :: from8 k (i + 1 + 1) n = (n / 256 / 256 ^ i % 256) :: from8 k (i + 1) (n / 256)
    rw [from8_shift k (i + 1) n, Nat.pow_succ, Nat.mul_comm (256 ^ i), Nat.div_div_eq_div_mul]
theorem from8_lv : ∀ {l : List Nat}, small l → from8 l.length 0 (lv l) = l
  | [], _ => rfl
  | b :: l, h => by
    have h2 := h b (List.mem_cons_self ..)
    show ((b + 256 * lv l) / 256 ^ 0 % 256) :: from8 l.length (0 + 1) (b + 256 * lv l) = b :: l
    have e1 : (b + 256 * lv l) / 256 ^ 0 % 256 = b := by
      rw [Nat.pow_zero, Nat.div_one]
      omega
    have e2 : (b + 256 * lv l) / 256 = lv l := by omega
    rw [e1, from8_shift, e2, from8_lv h.tail]
theorem lv_from8 : ∀ (k n : Nat), lv (from8 k 0 n) = n % 256 ^ k
  | 0, n => by
    show 0 = n % 256 ^ 0
    rw [Nat.pow_zero, Nat.mod_one]
  | k + 1, n => by
    show n / 256 ^ 0 % 256 + 256 * lv (from8 k (0 + 1) n) = _
    rw [from8_shift, lv_from8 k (n / 256), Nat.pow_zero, Nat.div_one, Nat.pow_succ, Nat.mul_comm (256 ^ k), Nat.mod_mul]
theorem from8_small : ∀ (k i n : Nat), small (from8 k i n)
  | 0, _, _ => fun b hb => absurd hb (List.not_mem_nil)
  | k + 1, i, n => fun b hb => by
    rcases List.mem_cons.1 hb with rfl | hb
    · exact Nat.mod_lt _ (by decide)
    · exact from8_small k (i + 1) n b hb
theorem leA_back {a : Nat} {rest : List Nat} (ha : a < 18446744073709551616) : leA (from8 8 0 a ++ rest) 8 = a := by
  rw [← leA_take _ 8 8 (Nat.le_refl _), List.take_append_of_le_length (by rw [from8_len]; exact Nat.le_refl _)]
  rw [leA_lv (fun b hb => from8_small 8 0 a b (List.mem_of_mem_take hb)) 8 (Nat.le_refl _) (by rw [List.length_take, from8_len]; decide), List.take_take, List.take_of_length_le (by rw [from8_len]; decide), lv_from8]
  exact Nat.mod_eq_of_lt ha
theorem rdI_fwd {bs : List Nat} (hs : small bs) (h : (rdI bs).2.1 = 0) : isP (rdI bs).1.1 (rdI bs).1.2 ∧ bs = encI (rdI bs).1 ++ bs.drop (rdI bs).2.2 := by
  cases bs with
  | nil => exact absurd (show (30 : Int) = 0 from h) (by decide)
  | cons b l =>
    have er : rdB (b :: l) = (b, 0, 1) := rfl
    unfold rdI at h ⊢
    rw [er] at h ⊢
    simp only [List.drop_succ_cons, List.drop_zero] at h ⊢
    rw [if_neg (by decide)] at h ⊢
    by_cases c1 : opd (b : Int) < 0
    · rw [if_pos c1] at h
      exact absurd (show (40 : Int) = 0 from h) (by decide)
    rw [if_neg c1] at h ⊢
    by_cases c2 : opd (b : Int) = 0
    · rw [if_pos c2]
      refine ⟨⟨by show opd (b : Int) ≠ -1; omega, fun _ => rfl, fun k => absurd c2 k⟩, ?_⟩
      unfold encI
      rw [if_neg (by show ¬ 0 < opd (b : Int); omega)]
      rfl
    rw [if_neg c2] at h ⊢
    by_cases c3 : (rdG l 0 0).2.1 ≠ 0
    · rw [if_pos c3] at h
      have h : ((rdG l 0 0).2.1 : Int) = 0 := h
      omega
    rw [if_neg c3] at h ⊢
    by_cases c4 : 999 < (rdG l 0 0).1
    · rw [if_pos c4] at h
      exact absurd (show (40 : Int) = 0 from h) (by decide)
    rw [if_neg c4]
    refine ⟨⟨by show opd (b : Int) ≠ -1; omega, fun k => absurd k c2, fun _ => by show (0 : Int) ≤ ((rdG l 0 0).1 : Int) ∧ ((rdG l 0 0).1 : Int) ≤ 999; omega⟩, ?_⟩
    have hg := rdG_can hs.tail (Decidable.byContradiction c3)
    unfold encI
    rw [if_pos (by show 0 < opd (b : Int); omega)]
    show b :: l = b :: (grp (rdG l 0 0).1 ++ List.drop (1 + (rdG l 0 0).2.2) (b :: l))
    rw [Nat.add_comm, List.drop_succ_cons, ← hg]
theorem rdI_err (bs : List Nat) : (rdI bs).2.1 = 0 ∨ 30 ≤ (rdI bs).2.1 ∧ (rdI bs).2.1 ≤ 54 := by
  have g := rdG_err (bs.drop (rdB bs).2.2) 0 0
  have hb : (rdB bs).2.1 = 0 ∨ (rdB bs).2.1 = 30 := by cases bs; exact .inr rfl; exact .inl rfl
  unfold rdI
  split
  · show ((rdB bs).2.1 : Int) = 0 ∨ 30 ≤ ((rdB bs).2.1 : Int) ∧ ((rdB bs).2.1 : Int) ≤ 54
    omega
  · split
    · exact .inr ⟨by show (30 : Int) ≤ 40; decide, by show (40 : Int) ≤ 54; decide⟩
    · split
      · exact .inl rfl
      · split
        · show ((rdG (bs.drop (rdB bs).2.2) 0 0).2.1 : Int) = 0 ∨ 30 ≤ ((rdG (bs.drop (rdB bs).2.2) 0 0).2.1 : Int) ∧ ((rdG (bs.drop (rdB bs).2.2) 0 0).2.1 : Int) ≤ 54
          omega
        · split
          · exact .inr ⟨by show (30 : Int) ≤ 40; decide, by show (40 : Int) ≤ 54; decide⟩
          · exact .inl rfl
theorem rdNs_fwd : ∀ (n : Nat) (bs : List Nat) (acc : List In), small bs → (rdNs n bs acc).2 = 0 → ∃ l, (rdNs n bs acc).1 = acc ++ l ∧ l.length = n ∧ (∀ x ∈ l, isP x.1 x.2) ∧ bs = l.flatMap encI
  | 0, bs, acc, hs, h => by
    unfold rdNs at h ⊢
    by_cases c : 0 < bs.length
    · rw [if_pos c] at h
      exact absurd (show (31 : Int) = 0 from h) (by decide)
    · rw [if_neg c]
      exact ⟨[], (List.append_nil _).symm, rfl, fun x hx => absurd hx (List.not_mem_nil), List.eq_nil_of_length_eq_zero (by omega)⟩
  | n + 1, bs, acc, hs, h => by
    unfold rdNs at h ⊢
    by_cases c : (rdI bs).2.1 ≠ 0
    · rw [if_pos c] at h
      exact absurd h c
    · rw [if_neg c] at h ⊢
      obtain ⟨p1, p2⟩ := rdI_fwd hs (Decidable.byContradiction c)
      obtain ⟨l, h1, h2, h3, h4⟩ := rdNs_fwd n _ _ (hs.drop _) h
      refine ⟨(rdI bs).1 :: l, by rw [h1, List.append_assoc]; rfl, by rw [List.length_cons, h2], fun x hx => ?_, ?_⟩
      · rcases List.mem_cons.1 hx with rfl | hx
        · exact p1
        · exact h3 x hx
      · rw [List.flatMap_cons, ← h4]
        exact p2
theorem rdNs_err : ∀ (n : Nat) (bs : List Nat) (acc : List In), okE (rdNs n bs acc).2
  | 0, bs, acc => by
    unfold rdNs
    split
    · exact .inr ⟨by show (30 : Int) ≤ 31; decide, by show (31 : Int) ≤ 54; decide⟩
    · exact .inl rfl
  | n + 1, bs, acc => by
    unfold rdNs
    split
    · exact rdI_err bs
    · exact rdNs_err n _ _
theorem rdC_err (m : Int) (bs : List Nat) : (rdC m bs).2.1 = 0 ∨ 30 ≤ (rdC m bs).2.1 ∧ (rdC m bs).2.1 ≤ 54 := by
  unfold rdC
  split
  · split
    · exact .inr ⟨by show (30 : Nat) ≤ 32; decide, by show (32 : Nat) ≤ 54; decide⟩
    · exact rdG_err bs 0 0
  · exact rdG_err bs 0 0
theorem rdC_can {m : Int} {l : List Nat} (hs : small l) (h : (rdC m l).2.1 = 0) : l = grp (rdC m l).1 ++ l.drop (rdC m l).2.2 := by
  unfold rdC at h ⊢
  by_cases c1 : (rdG l 0 0).2.1 = 0
  · rw [if_pos c1] at h ⊢
    by_cases c2 : m < 0 ∨ m < ((rdG l 0 0).1 : Int)
    · rw [if_pos c2] at h
      exact absurd (show (32 : Nat) = 0 from h) (by decide)
    · rw [if_neg c2]
      exact rdG_can hs c1
  · rw [if_neg c1] at h
    exact absurd h c1
theorem getL_err (bs : List Nat) : okE (getL bs).2 := by
  have := rdC_err 200 bs
  unfold getL
  split
  · show ((rdC 200 bs).2.1 : Int) = 0 ∨ 30 ≤ ((rdC 200 bs).2.1 : Int) ∧ ((rdC 200 bs).2.1 : Int) ≤ 54
    omega
  · exact rdNs_err _ _ _
theorem getL_can {bs : List Nat} (hs : small bs) (h : (getL bs).2 = 0) : (putL (getL bs).1).1 = bs := by
  have hm := rdC_most (most := 200) (bs := bs) (by decide)
  unfold getL at h ⊢
  by_cases c : (rdC 200 bs).2.1 ≠ 0
  · rw [if_pos c] at h
    have h : ((rdC 200 bs).2.1 : Int) = 0 := h
    omega
  · rw [if_neg c] at h ⊢
    obtain ⟨l, h1, h2, h3, h4⟩ := rdNs_fwd _ _ _ (hs.drop _) h
    have hc := rdC_can hs (Decidable.byContradiction c)
    rw [h1, List.nil_append]
    unfold putL
    rw [if_neg (by omega), if_neg (fun ⟨x, hx, hn⟩ => hn (h3 x hx)), h2]
    show grp _ ++ _ = bs
    rw [← h4]
    exact hc.symm
theorem rdT_err (m : Int) (bs : List Nat) : (rdT m bs).2.1 = 0 ∨ 30 ≤ (rdT m bs).2.1 ∧ (rdT m bs).2.1 ≤ 54 := by
  unfold rdT
  split
  · exact rdC_err m bs
  · split
    · exact .inr ⟨Nat.le_refl 30, by show (30 : Nat) ≤ 54; decide⟩
    · exact .inl rfl
theorem rdT_can {m : Int} {l : List Nat} (hs : small l) (h : (rdT m l).2.1 = 0) : l = encS (rdT m l).1 ++ l.drop (rdT m l).2.2 := by
  unfold rdT at h ⊢
  by_cases c1 : (rdC m l).2.1 ≠ 0
  · rw [if_pos c1] at h
    exact absurd h c1
  · rw [if_neg c1] at h ⊢
    have hc := rdC_can hs (Decidable.byContradiction c1)
    by_cases c2 : l.length - (rdC m l).2.2 < (rdC m l).1
    · rw [if_pos c2] at h
      exact absurd (show (30 : Nat) = 0 from h) (by decide)
    · rw [if_neg c2]
      unfold encS
      show l = grp (((l.drop (rdC m l).2.2).take (rdC m l).1).length) ++ (l.drop (rdC m l).2.2).take (rdC m l).1 ++ l.drop ((rdC m l).2.2 + (rdC m l).1)
      rw [List.length_take, List.length_drop, Nat.min_eq_left (by omega), List.append_assoc, ← List.drop_drop, List.take_append_drop]
      exact hc
theorem rdT_len {m : Int} {l : List Nat} (hm : 0 ≤ m) : ((rdT m l).1.length : Int) ≤ m := by
  have := rdC_most (bs := l) hm
  unfold rdT
  split
  · exact hm
  · split
    · exact hm
    · show (((l.drop (rdC m l).2.2).take (rdC m l).1).length : Int) ≤ m
      rw [List.length_take]
      omega
theorem rdX_can {l : List Nat} (hs : small l) (h : (rdX l).2.1 = 0) : l = (from8 8 0 (rdX l).1.1 ++ from8 8 0 (rdX l).1.2) ++ l.drop (rdX l).2.2 := by
  unfold rdX at h ⊢
  by_cases c : l.length < 16
  · rw [if_pos c] at h
    exact absurd (show (30 : Nat) = 0 from h) (by decide)
  · rw [if_neg c]
    show l = (from8 8 0 (leA l 8) ++ from8 8 0 (leA (l.drop 8) 8)) ++ l.drop 16
    have e1 : from8 8 0 (leA l 8) = l.take 8 := by
      rw [leA_lv hs 8 (Nat.le_refl _) (by omega)]
      have := from8_lv (hs.take 8)
      rw [List.length_take, Nat.min_eq_left (by omega)] at this
      exact this
    have e2 : from8 8 0 (leA (l.drop 8) 8) = (l.drop 8).take 8 := by
      rw [leA_lv (hs.drop 8) 8 (Nat.le_refl _) (by rw [List.length_drop]; omega)]
      have := from8_lv ((hs.drop 8).take 8)
      rw [List.length_take, List.length_drop, Nat.min_eq_left (by omega)] at this
      exact this
    rw [e1, e2, List.append_assoc, show (16 : Nat) = 8 + 8 from rfl, ← List.drop_drop, List.take_append_drop, List.take_append_drop]
end Go.Proofs.YtiecclkgjcnaoaaGreat.Ae
namespace Go.Proofs.YtiecclkgjcnaoaaGreat.Ae
open Go.AE
set_option linter.unusedVariables false
set_option maxRecDepth 100000
def Rds (e : Int) (bs w : List Nat) (e1 : Int) (b1 : List Nat) : Prop := (okE e → okE e1) ∧ (small bs → small b1 ∧ (e1 = 0 → e = 0 ∧ bs = w ++ b1))
theorem Rds.trans {e e1 e2 : Int} {bs w b1 w1 b2 : List Nat} (h : Rds e bs w e1 b1) (k : Rds e1 b1 w1 e2 b2) : Rds e bs (w ++ w1) e2 b2 :=
  ⟨fun o => k.1 (h.1 o), fun hs => ⟨(k.2 (h.2 hs).1).1, fun z => by
    obtain ⟨z1, c1⟩ := (k.2 (h.2 hs).1).2 z
    obtain ⟨z2, c2⟩ := (h.2 hs).2 z1
    exact ⟨z2, by rw [c2, List.append_assoc, ← c1]⟩⟩⟩
theorem Rds.cast {e e1 : Int} {bs w w1 b1 : List Nat} (h : Rds e bs w e1 b1) (hw : e1 = 0 → w = w1) : Rds e bs w1 e1 b1 :=
  ⟨h.1, fun hs => ⟨(h.2 hs).1, fun z => by rw [← hw z]; exact (h.2 hs).2 z⟩⟩
theorem badE_ok {is : Bool} {x e : Int} (hx : 30 ≤ x ∧ x ≤ 54) (h : okE e) : okE (badE is x e) := by
  unfold badE
  split
  · exact .inr hx
  · exact h
theorem badE_0 {is : Bool} {x e : Int} (hx : 30 ≤ x) (h : badE is x e = 0) : e = 0 ∧ is = false := by
  unfold badE at h
  split at h
  · omega
  · rename_i hn
    refine ⟨h, ?_⟩
    cases is
    · rfl
    · exact absurd ⟨rfl, h⟩ hn
theorem Rds.bad {e e1 : Int} {bs w w1 b1 : List Nat} {is : Bool} {x : Int} (h : Rds e bs w e1 b1) (hx : 30 ≤ x ∧ x ≤ 54) (hw : is = false → w = w1) : Rds e bs w1 (badE is x e1) b1 :=
  ⟨fun o => badE_ok hx (h.1 o), fun hs => ⟨(h.2 hs).1, fun z => by
    obtain ⟨z1, c1⟩ := badE_0 hx.1 z
    rw [← hw c1]
    exact (h.2 hs).2 z1⟩⟩
def Fwd {α : Type} (p : Int → List Nat → α × Int × List Nat) (enc : α → List Nat) : Prop := ∀ e bs, Rds e bs (enc (p e bs).1) (p e bs).2.1 (p e bs).2.2
theorem fKp {α : Type} {z : α} {f : List Nat → α × Nat × Nat} {enc : α → List Nat} (h1 : ∀ bs, (f bs).2.1 = 0 ∨ 30 ≤ (f bs).2.1 ∧ (f bs).2.1 ≤ 54) (h2 : ∀ bs, small bs → (f bs).2.1 = 0 → bs = enc (f bs).1 ++ bs.drop (f bs).2.2) : Fwd (kp z f) enc := by
  intro e bs
  by_cases he : e = 0
  · subst he
    rw [kp_ok]
    refine ⟨fun _ => ?_, fun hs => ⟨hs.drop _, fun h => ⟨rfl, h2 bs hs ?_⟩⟩⟩
    · have := h1 bs
      show ((f bs).2.1 : Int) = 0 ∨ 30 ≤ ((f bs).2.1 : Int) ∧ ((f bs).2.1 : Int) ≤ 54
      omega
    · have h : ((f bs).2.1 : Int) = 0 := h
      omega
  · rw [kp_no he]
    exact ⟨fun h => h, fun hs => ⟨hs, fun h => absurd h he⟩⟩
theorem fB : Fwd pB (fun k => [k]) := fKp (fun bs => by cases bs; exact .inr ⟨Nat.le_refl 30, by show (30 : Nat) ≤ 54; decide⟩; exact .inl rfl) fun bs _ h => by
  cases bs
  · exact absurd (show (30 : Nat) = 0 from h) (by decide)
  · rfl
theorem fT : Fwd pT encS := fKp (rdT_err 20) fun _ => rdT_can
theorem fC (m : Int) : Fwd (pC m) grp := fKp (rdC_err m) fun _ => rdC_can
theorem fZ : Fwd pZ (fun z => grp (zz z)) := fKp (fun bs => rdG_err bs 0 0) fun bs hs h => by
  show bs = grp (zz (unz (rdG bs 0 0).1)) ++ _
  rw [zz_unz]
  exact rdG_can hs h
theorem fX : Fwd pX (fun x => from8 8 0 x.1 ++ from8 8 0 x.2) := fKp (fun bs => by
  unfold rdX
  split
  · exact .inr ⟨Nat.le_refl 30, by show (30 : Nat) ≤ 54; decide⟩
  · exact .inl rfl) fun _ => rdX_can
theorem toNat_nat (k : Nat) : ((k : Int)).toNat = k := Int.toNat_natCast k
theorem fK : Fwd pK encK := by
  intro e bs
  unfold pK
  by_cases c : ((pB e bs).1 : Int) = 4
  · rw [if_pos c]
    have c : (pB e bs).1 = 4 := by omega
    refine ((fB e bs).trans (fT _ _)).cast fun _ => ?_
    rw [c]
    rfl
  · rw [if_neg c]
    refine (fB e bs).cast fun _ => ?_
    unfold encK
    simp only
    rw [if_neg c, toNat_nat]
theorem fCo : Fwd pCo encCo := by
  intro e bs
  have h := fB e bs
  unfold pCo
  generalize (pB e bs).2.1 = e1 at h
  generalize (pB e bs).2.2 = b1 at h
  generalize (pB e bs).1 = k at h
  unfold pCo'
  by_cases c1 : (k : Int) = 1
  · rw [if_pos c1]
    obtain rfl : k = 1 := by omega
    exact h.trans (fZ _ _)
  rw [if_neg c1]
  by_cases c2 : (k : Int) = 2
  · rw [if_pos c2]
    obtain rfl : k = 2 := by omega
    exact h.trans (fX _ _)
  rw [if_neg c2]
  by_cases c3 : (k : Int) = 3
  · rw [if_pos c3]
    obtain rfl : k = 3 := by omega
    exact h.trans (fT _ _)
  rw [if_neg c3]
  by_cases c4 : (k : Int) = 4 ∨ (k : Int) = 5
  · rw [if_pos c4]
    refine (h.trans ((fT _ _).trans (fT _ _))).cast fun _ => ?_
    unfold encCo
    simp only
    rw [if_neg c1, if_neg c2, if_neg c3, toNat_nat]
    rfl
  · rw [if_neg c4]
    exact h.bad (x := 51) (is := true) (by decide) fun h => by cases h
theorem fF : Fwd pF encF := by
  intro e bs
  unfold pF
  refine ((fT e bs).trans ((fK _ _).trans (fB _ _))).bad (by decide) fun h => ?_
  have h := of_decide_eq_false h
  generalize (pB (pK (pT e bs).2.1 (pT e bs).2.2).2.1 (pK (pT e bs).2.1 (pT e bs).2.2).2.2).1 = k at h
  unfold encF
  have hk : k = 0 ∨ k = 1 := by omega
  rcases hk with rfl | rfl <;> rfl
theorem fN : Fwd pN grp := fC _
theorem fH : Fwd pH encH := by
  intro e bs
  refine ((fN e bs).trans ((fN _ _).trans ((fN _ _).trans ((fN _ _).trans (fN _ _))))).cast fun _ => ?_
  unfold pH encH
  simp only
  unfold pH5
  simp only
  rw [toNat_nat, toNat_nat, toNat_nat, toNat_nat, show ∀ n : Nat, ((n : Int) - 1 + 1).toNat = n from fun n => by omega]
theorem fCd : Fwd pCd (fun l => grp (putL l).1.length ++ (putL l).1) := by
  intro e bs
  have h := fC 20000 e bs
  unfold pCd
  generalize (pC 20000 e bs) = n at h
  obtain ⟨n, e1, b1⟩ := n
  have h : Rds e bs (grp n) e1 b1 := h
  unfold pCd'
  have hc : cdE (n, e1, b1) = badE (decide ((b1.length : Int) < (n : Int))) 30 e1 := rfl
  by_cases c : cdE (n, e1, b1) ≠ 0
  · rw [if_pos c]
    refine ⟨fun o => ?_, fun hs => ⟨(h.2 hs).1, fun z => absurd z c⟩⟩
    rw [hc]
    exact badE_ok (by decide) (h.1 o)
  · rw [if_neg c]
    have c := Decidable.byContradiction c
    rw [hc] at c
    obtain ⟨c1, c2⟩ := badE_0 (by decide) c
    have c2 := of_decide_eq_false c2
    subst c1
    refine ⟨fun o => getL_err _, fun hs => ?_⟩
    obtain ⟨s1, k1⟩ := h.2 hs
    obtain ⟨rfl, k2⟩ := k1 rfl
    refine ⟨s1.drop _, fun z => ⟨rfl, ?_⟩⟩
    have g := getL_can (s1.take n) z
    show bs = (grp (putL (getL (b1.take n)).1).1.length ++ (putL (getL (b1.take n)).1).1) ++ b1.drop n
    rw [g, List.length_take, Nat.min_eq_left (by omega), List.append_assoc, List.take_append_drop]
    exact k2
theorem fL {α : Type} {p : Int → List Nat → α × Int × List Nat} {enc : α → List Nat} (hp : Fwd p enc) : ∀ (n : Nat) (e : Int) (bs : List Nat), Rds e bs ((pL p n e bs).1.flatMap enc) (pL p n e bs).2.1 (pL p n e bs).2.2 ∧ ((pL p n e bs).2.1 = 0 → (pL p n e bs).1.length = n)
  | 0, e, bs => ⟨⟨fun h => h, fun hs => ⟨hs, fun z => ⟨z, rfl⟩⟩⟩, fun _ => rfl⟩
  | n + 1, e, bs => by
    by_cases he : e = 0
    · subst he
      rw [pL_next]
      obtain ⟨h1, h2⟩ := fL hp n (p 0 bs).2.1 (p 0 bs).2.2
      exact ⟨(hp 0 bs).trans h1, fun z => by
        show (pL p n (p 0 bs).2.1 (p 0 bs).2.2).1.length + 1 = n + 1
        rw [h2 z]⟩
    · rw [pL_err p he]
      exact ⟨⟨fun h => h, fun hs => ⟨hs, fun z => absurd z he⟩⟩, fun z => absurd z he⟩
def encL {α : Type} (enc : α → List Nat) (l : List α) : List Nat := grp l.length ++ l.flatMap enc
theorem fM {α : Type} {p : Int → List Nat → α × Int × List Nat} {enc : α → List Nat} (hp : Fwd p enc) (m : Int) : Fwd (pM p m) (encL enc) := by
  intro e bs
  obtain ⟨h1, h2⟩ := fL hp (pC m e bs).1 (pC m e bs).2.1 (pC m e bs).2.2
  refine ((fC m e bs).trans h1).cast fun z => ?_
  unfold encL pM
  rw [h2 z]
theorem encM_eq (m : MeT) : encM m = encS m.name ++ (encL encK m.params ++ (encK m.ret ++ (grp m.locals.toNat ++ (grp m.stack.toNat ++ ((grp (putL m.code).1.length ++ (putL m.code).1) ++ encL encH m.hands))))) := by
  unfold encM encL
  simp only [List.append_assoc]
theorem fMe : Fwd pMe encM := by
  intro e bs
  refine ((fT e bs).trans ((fM fK 6 _ _).trans ((fK _ _).trans ((fN _ _).trans ((fN _ _).trans ((fCd _ _).trans (fM fH 16 _ _))))))).cast fun _ => ?_
  rw [encM_eq]
  unfold pMe
  simp only
  unfold pMe7
  simp only
  rw [toNat_nat, toNat_nat]
theorem fHd {ch : Nat} {e : Int} {bs : List Nat} : Rds e bs [ch] (hd ch (e, bs)).1 (hd ch (e, bs)).2 := by
  refine (fB e bs).bad (by decide) fun h => ?_
  have h := of_decide_eq_false h
  simp only [ne_eq, Decidable.not_not] at h
  have : (pB e bs).1 = ch := by omega
  rw [this]
theorem fHdr (bs : List Nat) : Rds 0 bs [76, 79, 79, 77, 1] (hdr bs).1 (hdr bs).2 := by
  exact (fHd (ch := 76) (e := 0) (bs := bs)).trans (fHd.trans (fHd.trans (fHd.trans fHd)))
theorem encC_eq (c : ClT) : encC c = [76, 79, 79, 77, 1] ++ (encS c.name ++ (encS c.super ++ (encL encCo c.pool ++ (encL encF c.fields ++ encL encM c.methods)))) := by
  unfold encC encP encL
  simp only [List.append_assoc]
theorem nil_of {l : List Nat} (h : ¬ (0 : Int) < (l.length : Int)) : l = [] := List.eq_nil_of_length_eq_zero (by omega)
theorem dec5_fwd {bs : List Nat} {n su : Str × Int × List Nat} {po : List CoT × Int × List Nat} {fi : List FiT × Int × List Nat} {me : List MeT × Int × List Nat}
    (h : Rds 0 bs ([76, 79, 79, 77, 1] ++ (encS n.1 ++ (encS su.1 ++ (encL encCo po.1 ++ (encL encF fi.1 ++ encL encM me.1))))) me.2.1 me.2.2) :
    okE (dec5 n su po fi me).2 ∧ (small bs → (dec5 n su po fi me).2 = 0 → bs = encC (dec5 n su po fi me).1) := by
  unfold dec5
  simp only
  refine ⟨badE_ok (by decide) (h.1 (.inl rfl)), fun hs z => ?_⟩
  obtain ⟨z1, c1⟩ := badE_0 (by decide) z
  have c1 := of_decide_eq_false c1
  obtain ⟨_, z2⟩ := (h.2 hs).2 z1
  rw [encC_eq]
  rw [nil_of c1, List.append_nil] at z2
  exact z2
theorem dec_fwd (bs : List Nat) : okE (dec bs).2 ∧ (small bs → (dec bs).2 = 0 → bs = encC (dec bs).1) := by
  unfold dec
  exact dec5_fwd ((fHdr bs).trans ((fT _ _).trans ((fT _ _).trans ((fM fCo 128 _ _).trans ((fM fF 8 _ _).trans (fM fMe 12 _ _))))))
end Go.Proofs.YtiecclkgjcnaoaaGreat.Ae
