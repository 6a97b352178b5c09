/-
  THE DOCUMENT'S READER, by the rules.
-/
import Derived.Test.YtiecclkgjcnaoaaGreatAiSyW9
namespace Go.Proofs.YtiecclkgjcnaoaaGreat.Ae
open Go.AE
set_option linter.unusedVariables false
set_option maxRecDepth 100000
theorem Rd.dropped {A : AW} {r : AV} {bs : List Nat} {k : Nat} (h : Full A 1 r (bs.length - k) ((bys bs).drop (k * 1))) : Full A 1 r (bs.drop k).length (bys (bs.drop k)) := by
  rw [Nat.mul_one] at h
  unfold bys at h ⊢
  rw [List.length_drop, List.map_drop]
  exact h
theorem ref_uint {K : FuncId} {A : AW} {fr : Nat} {v : AV} {bs : List Nat} (hw : Wf A) (h : Rd A fr v bs) (hlen : bs.length < 1000000000) :
    CallP (ES K) 108 [.ptr fr 0 0] A fun r A1 => r = .tuple [.int .u64 ((rdG bs 0 0).1 : Int), .int .i64 ((rdG bs 0 0).2.1 : Int)] ∧ ∃ v', RStep A A1 fr v v' (bs.drop (rdG bs 0 0).2.2) := by
  refine call_of rfl rfl rfl ?_
  have hc := h.cell
  repeat (first | refine qO ?_ | refine qY ?_ | refine qA ?_ | refine qG ?_ | refine qE rfl rfl ?_)
  refine wg_loop ?_
  refine wg_le (.put 0 (.ptr fr 0 0) (.put 4 (.int .u64 ((0 : Nat) : Int)) (.put 5 (.int .i64 ((0 : Nat) : Int)) .nil))) ?_ ⟨rfl, rfl, rfl, trivial⟩
  refine wg_ind (ι := Nat × Nat) (fun i => bs.length - i.1) (fun i => .put 0 (.ptr fr 0 0) (.put 4 (.int .u64 (i.2 : Int)) (.put 5 (.int .i64 (i.1 : Int)) .nil)))
    (fun i A1 => A1 = A ∧ i.1 ≤ bs.length ∧ i.1 ≤ 9 ∧ i.2 < 18446744073709551616 ∧ rdG (bs.drop i.1) i.1 i.2 = rdG bs 0 0) ?_ (0, 0) A ⟨rfl, Nat.zero_le _, Nat.zero_le _, Nat.zero_lt_succ _, rfl⟩
  rintro ⟨i, n⟩ A1 ⟨rfl, hi, h9, hn, hr⟩ ih
  have hi : i ≤ bs.length := hi
  have h9 : i ≤ 9 := h9
  have hn : n < 18446744073709551616 := hn
  have hr : rdG (bs.drop i) i n = rdG bs 0 0 := hr
  repeat (first | refine qO ?_ | refine qA ?_ | refine qJ rfl rfl ?_ | refine qI rfl rfl rfl ?_ | refine qW rfl rfl ?_ | refine qP rfl rfl rfl rfl (by assumption) rfl ?_)
  refine xJ rfl rfl rfl h.full.row.lenV ?_
  repeat (first | refine qG ?_ | refine xM rfl rfl rfl ?_)
  refine qV rfl (fun hne => ?_) fun he => ?_
  · have hne : i < bs.length := Int.ofNat_lt.1 hne
    obtain ⟨b, hb⟩ : ∃ b, bs[i]? = some b := ⟨bs[i], List.getElem?_eq_getElem hne⟩
    have hb256 := h.lt b (List.mem_of_getElem? hb)
    have hd : bs.drop i = b :: bs.drop (i + 1) := by
      rw [List.getElem?_eq_getElem hne, Option.some.injEq] at hb
      rw [← hb]
      exact List.drop_eq_getElem_cons hne
    rw [hd, rdG_cons] at hr
    obtain ⟨f, t, o, c, ex, ro, all, rfl, h1, h2, h3⟩ := h.full.row.byte hb
    repeat (first | refine qO ?_ | refine qS ?_ | refine qY ?_ | refine qA ?_ | refine qJ rfl rfl ?_ | refine qI rfl rfl rfl ?_ | refine qW rfl rfl ?_ | refine qP rfl rfl rfl rfl (by assumption) rfl ?_)
    refine xF i rfl rfl rfl rfl rfl hne ?_
    refine qP rfl rfl rfl rfl h1 h3 ?_
    repeat (first | refine qG ?_ | refine qE rfl rfl ?_)
    repeat refine qO ?_
    refine wg_regionTo (.put 0 (.ptr fr 0 0) (.put 4 (.int .u64 (n : Int)) (.put 5 (.int .i64 (i : Int)) (.put 6 (.int .u8 (b : Int)) (.put 36 (.bool (decide ((i = 9 ∧ b ≠ 1) ∨ (0 < i ∧ b = 0)))) .nil))))) ?_ ?_
    · repeat (first | refine qJ rfl rfl ?_ | refine xD rfl rfl rfl ?_)
      by_cases i9 : i = 9
      · refine xA 25 true rfl (decide_eq_true (by first | omega | (simp only; omega))) ?_
        repeat (first | refine qJ rfl rfl ?_ | refine xL rfl rfl rfl ?_ | refine qR rfl rfl rfl ?_ | refine qX rfl ?_)
        by_cases b1 : b = 1
        · refine xA 29 false rfl (decide_eq_false (by first | omega | (simp only; omega))) ?_
          repeat (first | refine qJ rfl rfl ?_ | refine wo_gtr rfl rfl rfl ?_ | refine qX rfl ?_)
          refine xA 32 true rfl (decide_eq_true (by first | omega | (simp only; omega))) ?_
          repeat (first | refine qG ?_ | refine qJ rfl rfl ?_ | refine xD rfl rfl rfl ?_ | refine qR rfl rfl rfl ?_ | refine qX rfl ?_)
          exact ⟨rfl, rfl, rfl, rfl, rfl, congrArg (fun x => some (AV.bool x)) (decide_eq_decide.2 (by omega)), trivial⟩
        · refine xA 29 true rfl (decide_eq_true (by first | omega | (simp only; omega))) ?_
          repeat (first | refine qG ?_ | refine qR rfl rfl rfl ?_ | refine xE rfl rfl ?_)
          exact ⟨rfl, rfl, rfl, rfl, rfl, congrArg (fun x => some (AV.bool x)) (decide_eq_true (by omega)).symm, trivial⟩
      · refine xA 25 false rfl (decide_eq_false (by first | omega | (simp only; omega))) ?_
        repeat (first | refine qJ rfl rfl ?_ | refine wo_gtr rfl rfl rfl ?_ | refine qR rfl rfl rfl ?_ | refine qX rfl ?_ | refine xE rfl rfl ?_)
        by_cases i0 : 0 < i
        · refine xA 32 true rfl (decide_eq_true (by first | omega | (simp only; omega))) ?_
          repeat (first | refine qG ?_ | refine qJ rfl rfl ?_ | refine xD rfl rfl rfl ?_ | refine qR rfl rfl rfl ?_ | refine qX rfl ?_)
          exact ⟨rfl, rfl, rfl, rfl, rfl, congrArg (fun x => some (AV.bool x)) (decide_eq_decide.2 (by omega)), trivial⟩
        · refine xA 32 false rfl (decide_eq_false (by first | omega | (simp only; omega))) ?_
          repeat (first | refine qG ?_ | refine qR rfl rfl rfl ?_ | refine qX rfl ?_ | refine xE rfl rfl ?_)
          exact ⟨rfl, rfl, rfl, rfl, rfl, congrArg (fun x => some (AV.bool x)) (decide_eq_false (by omega)).symm, trivial⟩
    refine qV rfl (fun hbad => ?_) fun hbad => ?_
    · rw [if_pos hbad] at hr
      repeat (first | refine qO ?_ | refine qA ?_ | refine qG ?_ | refine qE rfl rfl ?_)
      refine qQ rfl ⟨?_, .slice f t o bs.length c ex, ?_⟩
      · rw [← hr]; rfl
      · rw [← hr]; exact RStep.refl hw h
    rw [if_neg hbad] at hr
    repeat (first | refine qO ?_ | refine qS ?_ | refine qA ?_ | refine qJ rfl rfl ?_)
    refine wo_bin rfl rfl rfl (v := .int .u8 ((b % 128 : Nat) : Int)) (by rw [int_and]; exact congrArg (fun z => OpR.val (.int .u8 z) A1) (and127_of hb256)) ?_
    refine wo_conv rfl rfl rfl rfl ((b % 128 : Nat) : Int) (wrap_u64n (by omega)) ?_
    repeat refine qJ rfl rfl ?_
    refine wo_bin rfl rfl rfl (v := .int .i64 ((7 * i : Nat) : Int)) (by rw [int_mul, wrap_i64 (by omega) (by omega)]; rfl) ?_
    refine wo_bin rfl rfl rfl (shl7 h9) ?_
    refine wo_bin rfl rfl rfl (v := .int .u64 (orG n b i : Int)) (by rw [int_or]; exact congrArg (fun z => OpR.val (.int .u64 z) A1) (or64 hn (Nat.mod_lt _ (by decide)))) ?_
    repeat (first | refine qO ?_ | refine qA ?_ | refine qG ?_ | refine qJ rfl rfl ?_ | refine qE rfl rfl ?_ | refine xM rfl rfl rfl ?_)
    refine qV rfl (fun hlt => ?_) fun hge => ?_
    · have hlt : ¬ 128 ≤ b := by
        have : (b : Int) < 128 := hlt
        omega
      rw [if_neg hlt] at hr
      repeat (first | refine qO ?_ | refine qA ?_ | refine qJ rfl rfl ?_ | refine qI rfl rfl rfl ?_ | refine qW rfl rfl ?_ | refine qP rfl rfl rfl rfl (by assumption) rfl ?_)
      refine wo_add rfl rfl rfl (by omega) (by omega) ?_
      refine wo_slice rfl rfl rfl rfl rfl (Full.drop (de := d5) (k := i + 1) rfl rfl rfl h.full hne) ?_
      rintro r ⟨hr1, hrs⟩
      have hr2 := Rd.dropped hr1
      have st := h.store hw hr2 hrs fun b hb => h.lt b (List.mem_of_mem_drop hb)
      repeat (first | refine qI rfl rfl rfl ?_ | refine qW rfl rfl ?_)
      refine wo_storeV rfl rfl hr2.cells rfl rfl hc rfl ?_
      repeat (first | refine qO ?_ | refine qA ?_ | refine qG ?_ | refine qJ rfl rfl ?_ | refine qE rfl rfl ?_)
      refine qQ rfl ⟨?_, r, ?_⟩
      · rw [← hr]; rfl
      · rw [← hr]; exact st
    · have hge : 128 ≤ b := by
        have : ¬ (b : Int) < 128 := hge
        omega
      rw [if_pos hge] at hr
      repeat (first | refine qS ?_ | refine xB ?_ | refine qA ?_ | refine qJ rfl rfl ?_)
      refine wo_add rfl rfl rfl (by omega) (by omega) ?_
      repeat (first | refine qG ?_ | refine qE rfl rfl ?_)
      refine xN ?_
      refine wg_le (.put 0 (.ptr fr 0 0) (.put 4 (.int .u64 (orG n b i : Int)) (.put 5 (.int .i64 ((i + 1 : Nat) : Int)) .nil))) ?_ ⟨rfl, rfl, rfl, trivial⟩
      exact ih (i + 1, orG n b i) A1 (by simp only; omega) ⟨rfl, hne, by simp only; omega, orG_lt hn, hr⟩
  · have he : i = bs.length := by
      have : ¬ (i : Int) < (bs.length : Int) := he
      omega
    rw [he, List.drop_length] at hr
    have hr : (0, 30, 0) = rdG bs 0 0 := hr
    refine wg_exit rfl ?_
    repeat (first | refine qO ?_ | refine qA ?_ | refine qG ?_ | refine qE rfl rfl ?_)
    refine qQ rfl ⟨?_, v, ?_⟩
    · rw [← hr]; rfl
    · rw [← hr]; exact RStep.refl hw h
theorem ref_int {K : FuncId} {A : AW} {fr : Nat} {v : AV} {bs : List Nat} (hw : Wf A) (h : Rd A fr v bs) (hlen : bs.length < 1000000000) :
    CallP (ES K) 73 [.ptr fr 0 0] A fun r A1 => r = .tuple [.int .i64 (unz (rdG bs 0 0).1), .int .i64 ((rdG bs 0 0).2.1 : Int)] ∧ ∃ v', RStep A A1 fr v v' (bs.drop (rdG bs 0 0).2.2) := by
  have hn := rdG_lt bs 0 0 (by decide)
  refine call_of rfl rfl rfl ?_
  repeat (first | refine qO ?_ | refine qA ?_ | refine qG ?_ | refine qJ rfl rfl ?_ | refine qE rfl rfl ?_)
  refine qU rfl rfl orc_cons rfl (ref_uint hw h hlen) ?_
  rintro r A1 ⟨rfl, v', st⟩
  generalize (rdG bs 0 0).1 = n at hn
  repeat (first | refine qO ?_ | refine qA ?_ | refine qG ?_ | refine qJ rfl rfl ?_ | refine qE rfl rfl ?_ | refine xK rfl rfl rfl ?_)
  refine wo_bin rfl rfl rfl (v := .int .u64 ((n % 2 : Nat) : Int)) (by rw [int_rem (by decide)]; rfl) ?_
  repeat (first | refine qG ?_ | refine xD rfl rfl rfl ?_)
  refine qV rfl (fun h1 => ?_) fun h1 => ?_
  · have h1 : n % 2 = 1 := by
      have : ((n % 2 : Nat) : Int) = 1 := h1
      omega
    repeat (first | refine qO ?_ | refine qA ?_ | refine qJ rfl rfl ?_)
    refine wo_bin rfl rfl rfl (v := .int .u64 ((n / 2 : Nat) : Int)) (by rw [int_quo (by decide)]; exact congrArg (fun z => OpR.val (.int .u64 z) A1) (wrap_u64n (n := n / 2) (by omega))) ?_
    refine wo_conv rfl rfl rfl rfl ((n / 2 : Nat) : Int) (wrap_i64 (by omega) (by omega)) ?_
    refine wo_neg rfl rfl ?_
    refine wo_sub rfl rfl rfl (by rw [wrap_i64 (by omega) (by omega)]; omega) (by rw [wrap_i64 (by omega) (by omega)]; omega) ?_
    repeat (first | refine qG ?_ | refine qJ rfl rfl ?_ | refine qE rfl rfl ?_)
    refine qQ rfl ⟨?_, v', st⟩
    rw [wrap_i64 (by omega) (by omega)]
    unfold unz
    rw [if_pos h1]
    simp only [outV, AV.tuple.injEq, List.cons.injEq, AV.int.injEq, and_true, true_and]
    omega
  · have h1 : ¬ n % 2 = 1 := by
      have : ¬ ((n % 2 : Nat) : Int) = 1 := h1
      omega
    repeat (first | refine qO ?_ | refine qS ?_ | refine qA ?_ | refine qJ rfl rfl ?_)
    refine wo_bin rfl rfl rfl (v := .int .u64 ((n / 2 : Nat) : Int)) (by rw [int_quo (by decide)]; exact congrArg (fun z => OpR.val (.int .u64 z) A1) (wrap_u64n (n := n / 2) (by omega))) ?_
    refine wo_conv rfl rfl rfl rfl ((n / 2 : Nat) : Int) (wrap_i64 (by omega) (by omega)) ?_
    repeat (first | refine qG ?_ | refine qJ rfl rfl ?_ | refine qE rfl rfl ?_)
    refine qQ rfl ⟨?_, v', st⟩
    unfold unz
    rw [if_neg h1]
    rfl
theorem ref_byte {K : FuncId} {A : AW} {fr : Nat} {v : AV} {bs : List Nat} (hw : Wf A) (h : Rd A fr v bs) :
    CallP (ES K) 75 [.ptr fr 0 0] A fun r A1 => r = .tuple [.int .u8 ((rdB bs).1 : Int), .int .i64 ((rdB bs).2.1 : Int)] ∧ ∃ v', RStep A A1 fr v v' (bs.drop (rdB bs).2.2) := by
  refine call_of rfl rfl rfl ?_
  have hc := h.cell
  repeat (first | refine qO ?_ | refine qA ?_ | refine qG ?_ | refine qJ rfl rfl ?_ | refine qE rfl rfl ?_ | refine qI rfl rfl rfl ?_ | refine qW rfl rfl ?_ | refine qP rfl rfl rfl rfl (by assumption) rfl ?_)
  refine xJ rfl rfl rfl h.full.row.lenV ?_
  repeat (first | refine qG ?_ | refine xD rfl rfl rfl ?_)
  cases bs with
  | nil =>
    refine qV rfl (fun _ => ?_) fun h => absurd rfl h
    repeat (first | refine qO ?_ | refine qA ?_ | refine qG ?_ | refine qE rfl rfl ?_)
    exact qQ rfl ⟨rfl, v, RStep.refl hw h⟩
  | cons b l =>
    refine qV rfl (fun h => ?_) fun _ => ?_
    · have h : ((b :: l).length : Int) = 0 := h
      simp only [List.length_cons] at h
      omega
    obtain ⟨f, t, o, c, ex, ro, all, rfl, h1, h2, h3⟩ := h.full.row.byte (i := 0) (b := b) rfl
    repeat (first | refine qO ?_ | refine qS ?_ | refine qA ?_ | refine qJ rfl rfl ?_ | refine qI rfl rfl rfl ?_ | refine qW rfl rfl ?_ | refine qP rfl rfl rfl rfl (by assumption) rfl ?_)
    refine xF 0 rfl rfl rfl rfl rfl h2 ?_
    refine qP rfl rfl rfl rfl h1 h3 ?_
    repeat (first | refine qO ?_ | refine qA ?_ | refine qG ?_ | refine qJ rfl rfl ?_ | refine qE rfl rfl ?_ | refine qI rfl rfl rfl ?_ | refine qW rfl rfl ?_ | refine qP rfl rfl rfl rfl (by assumption) rfl ?_)
    refine wo_slice rfl rfl rfl rfl rfl (Full.drop (de := d5) (k := 1) rfl rfl rfl h.full h2) ?_
    rintro r ⟨hr1, hrs⟩
    have hr2 := Rd.dropped hr1
    have st := h.store hw hr2 hrs fun b hb => h.lt b (List.mem_of_mem_drop hb)
    repeat (first | refine qI rfl rfl rfl ?_ | refine qW rfl rfl ?_)
    refine wo_storeV rfl rfl hr2.cells rfl rfl hc rfl ?_
    repeat (first | refine qO ?_ | refine qA ?_ | refine qG ?_ | refine qJ rfl rfl ?_ | refine qE rfl rfl ?_)
    exact qQ rfl ⟨rfl, r, st⟩
theorem ref_count {K : FuncId} {A : AW} {fr : Nat} {v : AV} {bs : List Nat} {most : Int} (hw : Wf A) (h : Rd A fr v bs) (hlen : bs.length < 1000000000) (h1 : -9223372036854775808 ≤ most) (h2 : most < 9223372036854775808) :
    CallP (ES K) 72 [.ptr fr 0 0, .int .i64 most] A fun r A1 => r = .tuple [.int .i64 ((rdC most bs).1 : Int), .int .i64 ((rdC most bs).2.1 : Int)] ∧ ∃ v', RStep A A1 fr v v' (bs.drop (rdC most bs).2.2) := by
  have hn := rdG_lt bs 0 0 (by decide)
  have hke := (rdG_take bs 0 0).2
  refine call_of rfl rfl rfl ?_
  have hc := h.cell
  repeat (first | refine qO ?_ | refine qA ?_ | refine qG ?_ | refine qJ rfl rfl ?_ | refine qE rfl rfl ?_ | refine qI rfl rfl rfl ?_ | refine qW rfl rfl ?_ | refine qP rfl rfl rfl rfl (by assumption) rfl ?_)
  refine qU rfl rfl orc_cons rfl (ref_uint hw h hlen) ?_
  rintro r A1 ⟨rfl, v', st⟩
  unfold rdC
  rcases hG : rdG bs 0 0 with ⟨n, e, k⟩
  rw [hG] at hn st hke
  simp only at hn st hke ⊢
  have hc1 := st.rd.cell
  repeat (first | refine qG ?_ | refine qJ rfl rfl ?_ | refine qE rfl rfl ?_ | refine xK rfl rfl rfl ?_)
  repeat refine qO ?_
  refine wg_regionTo (.put 0 (.ptr fr 0 0) (.put 6 v (.put 7 (.int .u64 (n : Int)) (.put 8 (.int .i64 (e : Int)) (.put 29 (.bool (decide (e = 0 ∧ (most < 0 ∨ most < (n : Int))))) .nil))))) ?_ ?_
  · repeat (first | refine qJ rfl rfl ?_ | refine xD rfl rfl rfl ?_)
    by_cases he : e = 0
    · refine xA 20 true rfl (decide_eq_true (by first | omega | (simp only; omega))) ?_
      repeat (first | refine qJ rfl rfl ?_ | refine xM rfl rfl rfl ?_ | refine qX rfl ?_)
      by_cases hm : most < 0
      · refine xA 23 true rfl (decide_eq_true hm) ?_
        repeat (first | refine qG ?_ | refine qR rfl rfl rfl ?_ | refine qX rfl ?_ | refine xE rfl rfl ?_)
        exact ⟨rfl, rfl, rfl, rfl, rfl, congrArg (fun x => some (AV.bool x)) (decide_eq_true ⟨he, .inl hm⟩).symm, trivial⟩
      · refine xA 23 false rfl (decide_eq_false hm) ?_
        repeat (first | refine qJ rfl rfl ?_ | refine qX rfl ?_)
        refine wo_conv rfl rfl rfl rfl most (by rw [wrap_u64]; omega) ?_
        repeat (first | refine qG ?_ | refine wo_gtr rfl rfl rfl ?_ | refine qR rfl rfl rfl ?_ | refine qX rfl ?_)
        exact ⟨rfl, rfl, rfl, rfl, rfl, congrArg (fun x => some (AV.bool x)) (decide_eq_decide.2 ⟨fun h => ⟨he, .inr h⟩, fun h => h.2.resolve_left hm⟩), trivial⟩
    · refine xA 20 false rfl (decide_eq_false (by first | omega | (simp only; omega))) ?_
      repeat (first | refine qG ?_ | refine qR rfl rfl rfl ?_ | refine xE rfl rfl ?_)
      exact ⟨rfl, rfl, rfl, rfl, rfl, congrArg (fun x => some (AV.bool x)) (decide_eq_false fun h => he h.1).symm, trivial⟩
  refine qV rfl (fun hbig => ?_) fun hbig => ?_
  · rw [if_pos hbig.1, if_pos hbig.2]
    repeat (first | refine qO ?_ | refine qA ?_ | refine qG ?_ | refine qJ rfl rfl ?_ | refine qE rfl rfl ?_ | refine xL rfl rfl rfl ?_)
    refine qV rfl (fun _ => ?_) fun h => absurd (by decide : (32 : Int) ≠ 0) h
    repeat (first | refine qO ?_ | refine qA ?_ | refine qJ rfl rfl ?_ | refine qI rfl rfl rfl ?_ | refine qW rfl rfl ?_)
    refine wo_storeV rfl rfl h.full.cells rfl rfl hc1 rfl ?_
    repeat (first | refine qO ?_ | refine qA ?_ | refine qG ?_ | refine qJ rfl rfl ?_ | refine qE rfl rfl ?_)
    exact qQ rfl ⟨rfl, v, st.back hw h⟩
  · repeat (first | refine qO ?_ | refine qS ?_ | refine qA ?_ | refine qG ?_ | refine qJ rfl rfl ?_ | refine xL rfl rfl rfl ?_)
    refine qV rfl (fun hne => ?_) fun heq => ?_
    · have hne : e ≠ 0 := fun h => hne (by rw [h]; rfl)
      rw [if_neg hne]
      repeat (first | refine qO ?_ | refine qA ?_ | refine qJ rfl rfl ?_ | refine qI rfl rfl rfl ?_ | refine qW rfl rfl ?_)
      refine wo_storeV rfl rfl h.full.cells rfl rfl hc1 rfl ?_
      repeat (first | refine qO ?_ | refine qA ?_ | refine qG ?_ | refine qJ rfl rfl ?_ | refine qE rfl rfl ?_)
      exact qQ rfl ⟨rfl, v, st.back hw h⟩
    · have heq : e = 0 := by
        have : ¬ (e : Int) ≠ 0 := heq
        omega
      have hb : ¬ (most < 0 ∨ most < (n : Int)) := fun h => hbig ⟨heq, h⟩
      rw [if_pos heq, if_neg hb]
      subst heq
      repeat (first | refine qO ?_ | refine qS ?_ | refine qA ?_ | refine qJ rfl rfl ?_)
      refine wo_conv rfl rfl rfl rfl (n : Int) (wrap_i64 (by omega) (by omega)) ?_
      repeat (first | refine qG ?_ | refine qE rfl rfl ?_)
      exact qQ rfl ⟨rfl, v', st⟩
theorem ref_text {K : FuncId} {A : AW} {fr : Nat} {v : AV} {bs : List Nat} {most : Int} (hw : Wf A) (h : Rd A fr v bs) (hlen : bs.length < 1000000000) (h1 : -9223372036854775808 ≤ most) (h2 : most < 9223372036854775808) :
    CallP (ES K) 71 [.ptr fr 0 0, .int .i64 most] A fun r A1 => r = .tuple [.str (rdT most bs).1, .int .i64 ((rdT most bs).2.1 : Int)] ∧ ∃ v', RStep A A1 fr v v' (bs.drop (rdT most bs).2.2) := by
  obtain ⟨q1, q2, q3⟩ := rdC_le (bs := bs) h2
  refine call_of rfl rfl rfl ?_
  have hc := h.cell
  repeat (first | refine qO ?_ | refine qA ?_ | refine qG ?_ | refine qJ rfl rfl ?_ | refine qE rfl rfl ?_ | refine qI rfl rfl rfl ?_ | refine qW rfl rfl ?_ | refine qP rfl rfl rfl rfl (by assumption) rfl ?_)
  refine qU rfl rfl orc_cons rfl (ref_count hw h hlen h1 h2) ?_
  rintro r A1 ⟨rfl, v1, st⟩
  unfold rdT
  rcases hG : rdC most bs with ⟨n, e, k⟩
  rw [hG] at q1 q2 q3 st
  simp only at q1 q2 q3 st ⊢
  have hc1 := st.rd.cell
  have hl1 : (bs.drop k).length = bs.length - k := List.length_drop
  repeat (first | refine qG ?_ | refine qJ rfl rfl ?_ | refine qE rfl rfl ?_ | refine xK rfl rfl rfl ?_)
  repeat refine qO ?_
  refine wg_regionTo (.put 0 (.ptr fr 0 0) (.put 6 v (.put 7 (.int .i64 (n : Int)) (.put 8 (.int .i64 (e : Int)) (.put 30 (.bool (decide (e = 0 ∧ bs.length - k < n))) .nil))))) ?_ ?_
  · repeat (first | refine qJ rfl rfl ?_ | refine xD rfl rfl rfl ?_)
    by_cases he : e = 0
    · refine xA 22 true rfl (decide_eq_true (by first | omega | (simp only; omega))) ?_
      repeat (first | refine qJ rfl rfl ?_ | refine qI rfl rfl rfl ?_ | refine qW rfl rfl ?_ | refine qP rfl rfl rfl rfl (by assumption) rfl ?_ | refine qX rfl ?_)
      refine xJ rfl rfl rfl st.rd.full.row.lenV ?_
      repeat (first | refine qG ?_ | refine wo_gtr rfl rfl rfl ?_ | refine qR rfl rfl rfl ?_ | refine qX rfl ?_)
      exact ⟨rfl, rfl, rfl, rfl, rfl, congrArg (fun x => some (AV.bool x)) (decide_eq_decide.2 (by rw [hl1]; omega)), trivial⟩
    · refine xA 22 false rfl (decide_eq_false (by first | omega | (simp only; omega))) ?_
      repeat (first | refine qG ?_ | refine qR rfl rfl rfl ?_ | refine xE rfl rfl ?_)
      exact ⟨rfl, rfl, rfl, rfl, rfl, congrArg (fun x => some (AV.bool x)) (decide_eq_false fun h => he h.1).symm, trivial⟩
  refine qV rfl (fun hbig => ?_) fun hbig => ?_
  · rw [if_neg (fun h => h hbig.1), if_pos hbig.2]
    repeat (first | refine qO ?_ | refine qA ?_ | refine qG ?_ | refine qJ rfl rfl ?_ | refine qE rfl rfl ?_ | refine xL rfl rfl rfl ?_)
    refine qV rfl (fun _ => ?_) fun h => absurd (by decide : (30 : Int) ≠ 0) h
    repeat (first | refine qO ?_ | refine qA ?_ | refine qJ rfl rfl ?_ | refine qI rfl rfl rfl ?_ | refine qW rfl rfl ?_)
    refine wo_storeV rfl rfl h.full.cells rfl rfl hc1 rfl ?_
    repeat (first | refine qO ?_ | refine qA ?_ | refine qG ?_ | refine qJ rfl rfl ?_ | refine qE rfl rfl ?_)
    exact qQ rfl ⟨rfl, v, st.back hw h⟩
  · repeat (first | refine qO ?_ | refine qS ?_ | refine qA ?_ | refine qG ?_ | refine qJ rfl rfl ?_ | refine xL rfl rfl rfl ?_)
    refine qV rfl (fun hne => ?_) fun heq => ?_
    · have hne : e ≠ 0 := fun h => hne (by rw [h]; rfl)
      rw [if_pos hne]
      repeat (first | refine qO ?_ | refine qA ?_ | refine qJ rfl rfl ?_ | refine qI rfl rfl rfl ?_ | refine qW rfl rfl ?_)
      refine wo_storeV rfl rfl h.full.cells rfl rfl hc1 rfl ?_
      repeat (first | refine qO ?_ | refine qA ?_ | refine qG ?_ | refine qJ rfl rfl ?_ | refine qE rfl rfl ?_)
      exact qQ rfl ⟨rfl, v, st.back hw h⟩
    · have heq : e = 0 := by
        have : ¬ (e : Int) ≠ 0 := heq
        omega
      have hb : ¬ bs.length - k < n := fun h => hbig ⟨heq, h⟩
      rw [if_neg (fun h => h heq), if_neg hb]
      repeat (first | refine qO ?_ | refine qS ?_ | refine qA ?_ | refine qJ rfl rfl ?_ | refine qI rfl rfl rfl ?_ | refine qW rfl rfl ?_ | refine qP rfl rfl rfl rfl (by assumption) rfl ?_)
      refine wo_slice rfl rfl rfl rfl rfl (Full.take (de := d5) (k := n) rfl rfl rfl st.rd.full (by omega)) ?_
      rintro x ⟨hx, _⟩
      have hx : Row A1 1 x n (bys ((bs.drop k).take n)) := by
        have : Row A1 1 x n ((bys (bs.drop k)).take (n * 1)) := hx
        rw [Nat.mul_one] at this
        unfold bys at this ⊢
        rw [List.map_take]
        exact this
      refine wo_convert rfl rfl (toStr_row (E := ES K) rfl rfl rfl rfl rfl hx) ?_
      repeat (first | refine qO ?_ | refine qA ?_ | refine qG ?_ | refine qJ rfl rfl ?_ | refine qE rfl rfl ?_ | refine qI rfl rfl rfl ?_ | refine qW rfl rfl ?_ | refine qP rfl rfl rfl rfl (by assumption) rfl ?_)
      refine wo_slice rfl rfl rfl rfl rfl (Full.drop (de := d5) (k := n) rfl rfl rfl st.rd.full (by omega)) ?_
      rintro r ⟨hr1, hrs⟩
      have hr2 := Rd.dropped hr1
      have st2 := st.rd.store st.only.wf hr2 hrs fun b hb => st.rd.lt b (List.mem_of_mem_drop hb)
      repeat (first | refine qI rfl rfl rfl ?_ | refine qW rfl rfl ?_)
      refine wo_storeV rfl rfl hr2.cells rfl rfl hc1 rfl ?_
      repeat (first | refine qO ?_ | refine qA ?_ | refine qG ?_ | refine qJ rfl rfl ?_ | refine qE rfl rfl ?_)
      refine qQ rfl ⟨?_, r, ?_⟩
      · rw [mods_id fun b hb => st.rd.lt b (List.mem_of_mem_take hb)]
        rfl
      · have := st.trans st2
        rw [List.drop_drop] at this
        exact this
end Go.Proofs.YtiecclkgjcnaoaaGreat.Ae
