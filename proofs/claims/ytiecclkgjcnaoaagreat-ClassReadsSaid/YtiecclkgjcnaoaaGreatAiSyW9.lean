/-
  MORE OF A READER, by the rules: numbers with a sign, counts, texts, complex numbers.
  MORE OF A READER, by the rules: counts, texts, complex numbers.
-/
import Derived.Test.YtiecclkgjcnaoaaGreatAiSyW7
namespace Go.Proofs.YtiecclkgjcnaoaaGreat.Ae
open Go.AE
set_option linter.unusedVariables false
set_option maxRecDepth 100000
def unz (n : Nat) : Int := if n % 2 = 1 then -((n / 2 : Nat) : Int) - 1 else ((n / 2 : Nat) : Int)
theorem xor_i0 {a : Nat} (h : a < 9223372036854775808) : IntKind.i64.wrap ((BitVec.ofInt 64 (a : Int) ^^^ BitVec.ofInt 64 0).toNat : Int) = (a : Int) := by
  have : BitVec.ofInt 64 0 = 0#64 := rfl
  rw [this, BitVec.xor_zero, BitVec.toNat_ofInt, wrap_i64] <;> omega
theorem wrap_i64_big {z : Int} (h1 : 9223372036854775808 ≤ z) (h2 : z < 18446744073709551616) : IntKind.i64.wrap z = z - 18446744073709551616 := by
  have : IntKind.i64.wrap z = (if (z % 18446744073709551616 : Int) ≥ 9223372036854775808 then z % 18446744073709551616 - 18446744073709551616 else z % 18446744073709551616) := by
    unfold IntKind.wrap; simp [IntKind.bits, IntKind.signed]
  rw [this]
  split <;> omega
theorem xor_i1 {a : Nat} (h : a < 9223372036854775808) : IntKind.i64.wrap ((BitVec.ofInt 64 (a : Int) ^^^ BitVec.ofInt 64 (-1)).toNat : Int) = -(a : Int) - 1 := by
  have : BitVec.ofInt 64 (-1) = BitVec.allOnes 64 := by decide
  rw [this, BitVec.xor_allOnes, BitVec.toNat_not, BitVec.toNat_ofInt]
  have e : ((2 ^ 64 - 1 - ((a : Int) % ((2 ^ 64 : Nat) : Int)).toNat : Nat) : Int) = 18446744073709551615 - (a : Int) := by omega
  rw [e, wrap_i64_big (by omega) (by omega)]
  omega
theorem shr1 {E : Env} {A : AW} {n : Nat} {k : IntKind} : intOp E .shr .u64 (n : Int) k 1 A = .val (.int .u64 ((n / 2 : Nat) : Int)) A := by
  rw [int_shr (by decide)]
  have : ((n : Int).fdiv (2 ^ (min (1 : Int).toNat IntKind.u64.bits))) = ((n / 2 : Nat) : Int) := by
    show (n : Int).fdiv 2 = _
    rw [Int.fdiv_eq_ediv_of_nonneg _ (by decide)]
    omega
  rw [this]
theorem and1 {n : Nat} (h : n < 18446744073709551616) : IntKind.u64.wrap ((BitVec.ofInt IntKind.u64.bits (n : Int) &&& BitVec.ofInt IntKind.u64.bits 1).toNat : Int) = ((n % 2 : Nat) : Int) := by
  have e : (BitVec.ofInt IntKind.u64.bits (n : Int) &&& BitVec.ofInt IntKind.u64.bits 1).toNat = n % 2 := by
    rw [BitVec.toNat_and]
    show (BitVec.ofInt 64 (n : Int)).toNat &&& 1 = _
    rw [ofInt64 h, Nat.and_one_is_mod]
  rw [e]
  exact wrap_u64n (by omega)
theorem rint_spec {K : FuncId} {A : AW} {fr : Nat} {v : AV} {bs : List Nat} (hw : Wf A) (h : Rd A fr v bs) :
    CallP (ES K) 62 [.ptr fr 0 0] A fun r A1 => r = .tuple [.int .i64 (unz (rdG bs 0 0).1), .int .i64 ((rdG bs 0 0).2.1 : Int)] ∧ ∃ v', RStep A A1 fr v v' (bs.drop (rdG bs 0 0).2.2) := by
  have hn := rdG_lt bs 0 0 (by decide)
  refine call_of rfl rfl rfl ?_
  repeat (first | refine qO ?_ | refine qA ?_ | refine qG ?_ | refine qJ rfl rfl ?_ | refine qE rfl rfl ?_)
  refine qU rfl rfl orc_cons rfl (ruint_spec hw h) ?_
  rintro r A1 ⟨rfl, v', st⟩
  generalize (rdG bs 0 0).1 = n at hn
  repeat (first | refine qO ?_ | refine qA ?_ | refine qG ?_ | refine qJ rfl rfl ?_ | refine qE rfl rfl ?_ | refine xK rfl rfl rfl ?_)
  refine wo_bin rfl rfl rfl shr1 ?_
  refine wo_conv rfl rfl rfl rfl ((n / 2 : Nat) : Int) (wrap_i64 (by omega) (by omega)) ?_
  repeat refine qJ rfl rfl ?_
  refine wo_bin rfl rfl rfl (v := .int .u64 ((n % 2 : Nat) : Int)) (by rw [int_and]; exact congrArg (fun z => OpR.val (.int .u64 z) A1) (and1 hn)) ?_
  refine wo_conv rfl rfl rfl rfl ((n % 2 : Nat) : Int) (wrap_i64 (by omega) (by omega)) ?_
  refine wo_neg rfl rfl ?_
  refine wo_bin rfl rfl rfl (v := .int .i64 (unz n)) ?_ ?_
  · rw [int_xor, wrap_i64 (z := 0 - ((n % 2 : Nat) : Int)) (by omega) (by omega)]
    refine congrArg (fun z => OpR.val (.int .i64 z) A1) ?_
    unfold unz
    by_cases h2 : n % 2 = 1
    · rw [if_pos h2, h2]
      exact xor_i1 (by omega)
    · rw [if_neg h2, show n % 2 = 0 from by omega]
      exact xor_i0 (by omega)
  repeat (first | refine qG ?_ | refine qJ rfl rfl ?_ | refine qE rfl rfl ?_)
  exact qQ rfl ⟨rfl, v', st⟩
def rdC (most : Int) (bs : List Nat) : Nat × Nat × Nat :=
  if (rdG bs 0 0).2.1 = 0 then (if most < 0 ∨ most < ((rdG bs 0 0).1 : Int) then (0, 32, 0) else rdG bs 0 0) else (0, (rdG bs 0 0).2.1, 0)
theorem rdC_le {most : Int} {bs : List Nat} (hm : most < 9223372036854775808) : (rdC most bs).1 < 9223372036854775808 ∧ (rdC most bs).2.2 ≤ bs.length ∧ ((rdC most bs).2.1 ≠ 0 → (rdC most bs).1 = 0 ∧ (rdC most bs).2.2 = 0) := by
  have h := (rdG_take bs 0 0).1
  unfold rdC
  by_cases he : (rdG bs 0 0).2.1 = 0
  · rw [if_pos he]
    by_cases hb : most < 0 ∨ most < ((rdG bs 0 0).1 : Int)
    · rw [if_pos hb]
      exact ⟨by decide, Nat.zero_le _, fun _ => ⟨rfl, rfl⟩⟩
    · rw [if_neg hb]
      exact ⟨by omega, by omega, fun h => absurd he h⟩
  · rw [if_neg he]
    exact ⟨by show 0 < _; decide, Nat.zero_le _, fun _ => ⟨rfl, rfl⟩⟩
theorem RStep.back {A A1 : AW} {fr : Nat} {v v' : AV} {bs cs : List Nat} (hw : Wf A) (h : Rd A fr v bs) (st : RStep A A1 fr v v' cs) : RStep A (A1.put fr (.cells 0 false 1 [v])) fr v v bs := by
  have hf := st.only.wf _ _ st.rd.cell
  have op : Only A1 (A1.put fr (.cells 0 false 1 [v])) (one fr) := Only.put st.only.wf hf
  have o2 := st.only.same op
  exact ⟨⟨by simp, h.full.keep o2 fun g hg e => h.own (by cases e; exact hg), h.own, h.lt⟩, o2, fun _ h => h⟩
theorem rcount_spec {K : FuncId} {A : AW} {fr : Nat} {v : AV} {bs : List Nat} {most : Int} (hw : Wf A) (h : Rd A fr v bs) (h1 : -9223372036854775808 ≤ most) (h2 : most < 9223372036854775808) :
    CallP (ES K) 99 [.ptr fr 0 0, .int .i64 most] A fun r A1 => r = .tuple [.int .i64 ((rdC most bs).1 : Int), .int .i64 ((rdC most bs).2.1 : Int)] ∧ ∃ v', RStep A A1 fr v v' (bs.drop (rdC most bs).2.2) := by
  have hn := rdG_lt bs 0 0 (by decide)
  have hke := (rdG_take bs 0 0).2
  refine call_of rfl rfl rfl ?_
  have hc := h.cell
  repeat (first | refine qO ?_ | refine qA ?_ | refine qG ?_ | refine qJ rfl rfl ?_ | refine qE rfl rfl ?_ | refine qI rfl rfl rfl ?_ | refine qW rfl rfl ?_ | refine qP rfl rfl rfl rfl (by assumption) rfl ?_)
  refine qU rfl rfl orc_cons rfl (ruint_spec hw h) ?_
  rintro r A1 ⟨rfl, v', st⟩
  unfold rdC
  rcases hG : rdG bs 0 0 with ⟨n, e, k⟩
  rw [hG] at hn st hke
  simp only at hn st hke ⊢
  have hc1 := st.rd.cell
  repeat (first | refine qG ?_ | refine qJ rfl rfl ?_ | refine qE rfl rfl ?_ | refine xK rfl rfl rfl ?_)
  repeat refine qO ?_
  refine wg_regionTo (.put 0 (.ptr fr 0 0) (.put 6 v (.put 7 (.int .u64 (n : Int)) (.put 8 (.int .i64 (e : Int)) (.put 29 (.bool (decide (e = 0 ∧ (most < 0 ∨ most < (n : Int))))) .nil))))) ?_ ?_
  · repeat (first | refine qJ rfl rfl ?_ | refine xD rfl rfl rfl ?_)
    by_cases he : e = 0
    · refine xA 20 true rfl (decide_eq_true (by first | omega | (simp only; omega))) ?_
      repeat (first | refine qJ rfl rfl ?_ | refine xM rfl rfl rfl ?_ | refine qX rfl ?_)
      by_cases hm : most < 0
      · refine xA 23 true rfl (decide_eq_true hm) ?_
        repeat (first | refine qG ?_ | refine qR rfl rfl rfl ?_ | refine qX rfl ?_ | refine xE rfl rfl ?_)
        exact ⟨rfl, rfl, rfl, rfl, rfl, congrArg (fun x => some (AV.bool x)) (decide_eq_true ⟨he, .inl hm⟩).symm, trivial⟩
      · refine xA 23 false rfl (decide_eq_false hm) ?_
        repeat (first | refine qJ rfl rfl ?_ | refine qX rfl ?_)
        refine wo_conv rfl rfl rfl rfl most (by rw [wrap_u64]; omega) ?_
        repeat (first | refine qG ?_ | refine wo_gtr rfl rfl rfl ?_ | refine qR rfl rfl rfl ?_ | refine qX rfl ?_)
        exact ⟨rfl, rfl, rfl, rfl, rfl, congrArg (fun x => some (AV.bool x)) (decide_eq_decide.2 ⟨fun h => ⟨he, .inr h⟩, fun h => h.2.resolve_left hm⟩), trivial⟩
    · refine xA 20 false rfl (decide_eq_false (by first | omega | (simp only; omega))) ?_
      repeat (first | refine qG ?_ | refine qR rfl rfl rfl ?_ | refine xE rfl rfl ?_)
      exact ⟨rfl, rfl, rfl, rfl, rfl, congrArg (fun x => some (AV.bool x)) (decide_eq_false fun h => he h.1).symm, trivial⟩
  refine qV rfl (fun hbig => ?_) fun hbig => ?_
  · rw [if_pos hbig.1, if_pos hbig.2]
    repeat (first | refine qO ?_ | refine qA ?_ | refine qG ?_ | refine qJ rfl rfl ?_ | refine qE rfl rfl ?_ | refine xL rfl rfl rfl ?_)
    refine qV rfl (fun _ => ?_) fun h => absurd (by decide : (32 : Int) ≠ 0) h
    repeat (first | refine qO ?_ | refine qA ?_ | refine qJ rfl rfl ?_ | refine qI rfl rfl rfl ?_ | refine qW rfl rfl ?_)
    refine wo_storeV rfl rfl h.full.cells rfl rfl hc1 rfl ?_
    repeat (first | refine qO ?_ | refine qA ?_ | refine qG ?_ | refine qJ rfl rfl ?_ | refine qE rfl rfl ?_)
    exact qQ rfl ⟨rfl, v, st.back hw h⟩
  · repeat (first | refine qO ?_ | refine qS ?_ | refine qA ?_ | refine qG ?_ | refine qJ rfl rfl ?_ | refine xL rfl rfl rfl ?_)
    refine qV rfl (fun hne => ?_) fun heq => ?_
    · have hne : e ≠ 0 := fun h => hne (by rw [h]; rfl)
      rw [if_neg hne]
      repeat (first | refine qO ?_ | refine qA ?_ | refine qJ rfl rfl ?_ | refine qI rfl rfl rfl ?_ | refine qW rfl rfl ?_)
      refine wo_storeV rfl rfl h.full.cells rfl rfl hc1 rfl ?_
      repeat (first | refine qO ?_ | refine qA ?_ | refine qG ?_ | refine qJ rfl rfl ?_ | refine qE rfl rfl ?_)
      exact qQ rfl ⟨rfl, v, st.back hw h⟩
    · have heq : e = 0 := by
        have : ¬ (e : Int) ≠ 0 := heq
        omega
      have hb : ¬ (most < 0 ∨ most < (n : Int)) := fun h => hbig ⟨heq, h⟩
      rw [if_pos heq, if_neg hb]
      subst heq
      repeat (first | refine qO ?_ | refine qS ?_ | refine qA ?_ | refine qJ rfl rfl ?_)
      refine wo_conv rfl rfl rfl rfl (n : Int) (wrap_i64 (by omega) (by omega)) ?_
      repeat (first | refine qG ?_ | refine qE rfl rfl ?_)
      exact qQ rfl ⟨rfl, v', st⟩
end Go.Proofs.YtiecclkgjcnaoaaGreat.Ae
namespace Go.Proofs.YtiecclkgjcnaoaaGreat.Ae
open Go.AE
set_option linter.unusedVariables false
set_option maxRecDepth 100000
theorem rCount_spec {K : FuncId} {A : AW} {fr : Nat} {v : AV} {bs : List Nat} {most : Int} (hw : Wf A) (h : Rd A fr v bs) (h1 : -9223372036854775808 ≤ most) (h2 : most < 9223372036854775808) :
    CallP (ES K) 102 [.ptr fr 0 0, .int .i64 most] A fun r A1 => r = .tuple [.int .i64 ((rdC most bs).1 : Int), .int .i64 ((rdC most bs).2.1 : Int)] ∧ ∃ v', RStep A A1 fr v v' (bs.drop (rdC most bs).2.2) := by
  refine call_of rfl rfl rfl ?_
  repeat (first | refine qO ?_ | refine qA ?_ | refine qG ?_ | refine qJ rfl rfl ?_ | refine qE rfl rfl ?_)
  refine qU rfl rfl orc_cons rfl (rcount_spec hw h h1 h2) ?_
  rintro r A1 ⟨rfl, v', st⟩
  repeat (first | refine qG ?_ | refine qE rfl rfl ?_ | refine xK rfl rfl rfl ?_)
  exact qQ rfl ⟨rfl, v', st⟩
def rdT (most : Int) (bs : List Nat) : List Nat × Nat × Nat :=
  if (rdC most bs).2.1 ≠ 0 then ([], (rdC most bs).2.1, 0) else if bs.length - (rdC most bs).2.2 < (rdC most bs).1 then ([], 30, 0) else ((bs.drop (rdC most bs).2.2).take (rdC most bs).1, 0, (rdC most bs).2.2 + (rdC most bs).1)
theorem rtext_spec {K : FuncId} {A : AW} {fr : Nat} {v : AV} {bs : List Nat} {most : Int} (hw : Wf A) (h : Rd A fr v bs) (h1 : -9223372036854775808 ≤ most) (h2 : most < 9223372036854775808) :
    CallP (ES K) 59 [.ptr fr 0 0, .int .i64 most] A fun r A1 => r = .tuple [.str (rdT most bs).1, .int .i64 ((rdT most bs).2.1 : Int)] ∧ ∃ v', RStep A A1 fr v v' (bs.drop (rdT most bs).2.2) := by
  obtain ⟨q1, q2, q3⟩ := rdC_le (bs := bs) h2
  refine call_of rfl rfl rfl ?_
  have hc := h.cell
  repeat (first | refine qO ?_ | refine qA ?_ | refine qG ?_ | refine qJ rfl rfl ?_ | refine qE rfl rfl ?_ | refine qI rfl rfl rfl ?_ | refine qW rfl rfl ?_ | refine qP rfl rfl rfl rfl (by assumption) rfl ?_)
  refine qU rfl rfl orc_cons rfl (rcount_spec hw h h1 h2) ?_
  rintro r A1 ⟨rfl, v1, st⟩
  unfold rdT
  rcases hG : rdC most bs with ⟨n, e, k⟩
  rw [hG] at q1 q2 q3 st
  simp only at q1 q2 q3 st ⊢
  have hc1 := st.rd.cell
  repeat (first | refine qO ?_ | refine qA ?_ | refine qG ?_ | refine qJ rfl rfl ?_ | refine qE rfl rfl ?_ | refine xK rfl rfl rfl ?_ | refine xD rfl rfl rfl ?_)
  refine qV rfl (fun he => ?_) fun he => ?_
  · have he : e = 0 := by
      have : (e : Int) = 0 := he
      omega
    subst he
    rw [if_neg (fun h => h rfl)]
    repeat (first | refine qA ?_ | refine qJ rfl rfl ?_)
    refine qU rfl rfl orc_cons rfl (takes_spec st.only.wf st.rd n) ?_
    rintro r A2 (⟨hl, rfl, rfl⟩ | ⟨hl, x, v2, rfl, hx, st2⟩)
    · rw [List.length_drop] at hl
      rw [if_pos hl]
      repeat (first | refine qO ?_ | refine qA ?_ | refine qG ?_ | refine qJ rfl rfl ?_ | refine qE rfl rfl ?_ | refine xK rfl rfl rfl ?_ | refine xL rfl rfl rfl ?_)
      refine qV rfl (fun _ => ?_) fun h => absurd (by decide : (30 : Int) ≠ 0) h
      repeat (first | refine qO ?_ | refine qA ?_ | refine qJ rfl rfl ?_ | refine qI rfl rfl rfl ?_ | refine qW rfl rfl ?_)
      refine wo_storeV rfl rfl h.full.cells rfl rfl hc1 rfl ?_
      repeat (first | refine qO ?_ | refine qA ?_ | refine qG ?_ | refine qJ rfl rfl ?_ | refine qE rfl rfl ?_)
      exact qQ rfl ⟨rfl, v, st.back hw h⟩
    · rw [List.length_drop] at hl
      rw [if_neg (by omega)]
      repeat (first | refine qO ?_ | refine qA ?_ | refine qG ?_ | refine qJ rfl rfl ?_ | refine qE rfl rfl ?_ | refine xK rfl rfl rfl ?_ | refine xL rfl rfl rfl ?_)
      refine qV rfl (fun h => absurd rfl h) fun _ => ?_
      repeat (first | refine qO ?_ | refine qS ?_ | refine qA ?_ | refine qJ rfl rfl ?_)
      refine wo_convert rfl rfl (toStr_row (E := ES K) rfl rfl rfl rfl rfl hx) ?_
      repeat (first | refine qG ?_ | refine qE rfl rfl ?_)
      refine qQ rfl ⟨?_, v2, ?_⟩
      · rw [mods_id fun b hb => st.rd.lt b (List.mem_of_mem_take hb)]
        rfl
      · rw [← List.drop_drop]
        exact st.trans st2
  · have he : e ≠ 0 := fun h => he (by rw [h]; rfl)
    rw [if_pos he]
    repeat (first | refine qO ?_ | refine qS ?_ | refine qA ?_ | refine qG ?_ | refine qJ rfl rfl ?_ | refine xL rfl rfl rfl ?_)
    refine qV rfl (fun _ => ?_) fun h => absurd (fun h => he (Int.ofNat_inj.1 h)) h
    repeat (first | refine qO ?_ | refine qA ?_ | refine qJ rfl rfl ?_ | refine qI rfl rfl rfl ?_ | refine qW rfl rfl ?_)
    refine wo_storeV rfl rfl h.full.cells rfl rfl hc1 rfl ?_
    repeat (first | refine qO ?_ | refine qA ?_ | refine qG ?_ | refine qJ rfl rfl ?_ | refine qE rfl rfl ?_)
    exact qQ rfl ⟨rfl, v, st.back hw h⟩
def leA (bs : List Nat) : Nat → Nat
  | 0 => 0
  | k + 1 => leA bs k ||| (bs.getD k 0 * 2 ^ (8 * k) % 18446744073709551616)
theorem leA_lt (bs : List Nat) : ∀ k, leA bs k < 18446744073709551616
  | 0 => by show 0 < _; decide
  | k + 1 => Nat.or_lt_two_pow (n := 64) (leA_lt bs k) (Nat.mod_lt _ (by decide))
theorem shl8 {E : Env} {A : AW} {n i : Nat} {k : IntKind} (h : i < 8) : intOp E .shl .u64 (n : Int) k ((8 * i : Nat) : Int) A = .val (.int .u64 ((n * 2 ^ (8 * i) % 18446744073709551616 : Nat) : Int)) A := by
  rw [int_shl (by omega)]
  have e : min ((8 * i : Nat) : Int).toNat IntKind.u64.bits = 8 * i := by
    show min ((8 * i : Nat) : Int).toNat 64 = _
    omega
  rw [e, wrap_u64]
  congr 2
theorem rpart_spec {K : FuncId} {A : AW} {v : AV} {m : Nat} {bs : List Nat} (h : Row A 1 v m (bys bs)) (hm : 8 ≤ m) (hlt : ∀ b ∈ bs, b < 256) :
    CallP (ES K) 104 [v] A fun r A1 => r = .float .f64 (leA bs 8) ∧ A1 = A := by
  have hlen : bs.length = m := by
    have := h.length
    rw [bys_length] at this
    omega
  refine call_of rfl rfl rfl ?_
  repeat (first | refine qO ?_ | refine qY ?_ | refine qA ?_ | refine qG ?_ | refine qJ rfl rfl ?_ | refine qE rfl rfl ?_)
  refine wg_loop ?_
  refine wg_le (.put 0 v (.put 3 (.int .u64 ((0 : Nat) : Int)) (.put 5 (.int .i64 ((0 : Nat) : Int)) .nil))) ?_ ⟨rfl, rfl, rfl, trivial⟩
  refine wg_ind (ι := Nat) (fun i => 8 - i) (fun i => .put 0 v (.put 3 (.int .u64 (leA bs i : Int)) (.put 5 (.int .i64 (i : Int)) .nil)))
    (fun i A1 => A1 = A ∧ i ≤ 8) ?_ 0 A ⟨rfl, Nat.zero_le _⟩
  rintro i A1 ⟨rfl, hi⟩ ih
  repeat (first | refine qO ?_ | refine qA ?_ | refine qG ?_ | refine xM rfl rfl rfl ?_)
  refine qV rfl (fun hlt8 => ?_) fun hge => ?_
  · have hlt8 : i < 8 := Int.ofNat_lt.1 hlt8
    obtain ⟨b, hb⟩ : ∃ b, bs[i]? = some b := ⟨bs[i], List.getElem?_eq_getElem (by omega)⟩
    have hb256 := hlt b (List.mem_of_getElem? hb)
    obtain ⟨f, t, o, c, ex, ro, all, rfl, h1, h2, h3⟩ := h.byte hb
    repeat (first | refine qO ?_ | refine qS ?_ | refine qY ?_ | refine qA ?_ | refine qG ?_ | refine qJ rfl rfl ?_ | refine qE rfl rfl ?_)
    refine xF i rfl rfl rfl rfl rfl h2 ?_
    refine qP rfl rfl rfl rfl h1 h3 ?_
    refine wo_conv rfl rfl rfl rfl (b : Int) (wrap_u64n (by omega)) ?_
    repeat refine qJ rfl rfl ?_
    refine wo_bin rfl rfl rfl (v := .int .i64 ((8 * i : Nat) : Int)) (by rw [int_mul, wrap_i64 (by omega) (by omega)]; rfl) ?_
    refine wo_bin rfl rfl rfl (shl8 hlt8) ?_
    refine wo_bin rfl rfl rfl (v := .int .u64 (leA bs (i + 1) : Int)) ?_ ?_
    · rw [int_or]
      refine congrArg (fun z => OpR.val (.int .u64 z) A1) ((or64 (leA_lt _ _) (Nat.mod_lt _ (by decide))).trans ?_)
      show _ = ((leA bs i ||| (bs.getD i 0 * 2 ^ (8 * i) % 18446744073709551616) : Nat) : Int)
      rw [List.getD_eq_getElem?_getD, hb]
      rfl
    repeat (first | refine xB ?_ | refine qA ?_ | refine qG ?_ | refine qE rfl rfl ?_)
    refine wo_add rfl rfl rfl (by omega) (by omega) ?_
    repeat (first | refine qG ?_ | refine qJ rfl rfl ?_)
    refine xN ?_
    refine wg_le (.put 0 (.slice f t o m c ex) (.put 3 (.int .u64 (leA bs (i + 1) : Int)) (.put 5 (.int .i64 ((i + 1 : Nat) : Int)) .nil))) ?_ ⟨rfl, rfl, rfl, trivial⟩
    exact ih (i + 1) A1 (by omega) ⟨rfl, hlt8⟩
  · have hge : i = 8 := by
      have : ¬ (i : Int) < 8 := hge
      omega
    subst hge
    refine wg_exit rfl ?_
    repeat (first | refine qO ?_ | refine qA ?_ | refine qJ rfl rfl ?_)
    refine wo_ext (v := .float .f64 (leA bs 8)) (A1 := A1) rfl rfl orc_cons rfl (by kernel_rfl) ?_
    repeat (first | refine qG ?_ | refine qE rfl rfl ?_)
    exact qQ rfl ⟨rfl, rfl⟩
def rdX (bs : List Nat) : (Nat × Nat) × Nat × Nat := if bs.length < 16 then ((0, 0), 30, 0) else ((leA bs 8, leA (bs.drop 8) 8), 0, 16)
theorem leA_take (bs : List Nat) (m : Nat) : ∀ k, k ≤ m → leA (bs.take m) k = leA bs k
  | 0, _ => rfl
  | k + 1, h => by
    show leA (bs.take m) k ||| ((bs.take m).getD k 0 * 2 ^ (8 * k) % 18446744073709551616) = leA bs k ||| (bs.getD k 0 * 2 ^ (8 * k) % 18446744073709551616)
    rw [leA_take bs m k (by omega), List.getD_eq_getElem?_getD, List.getD_eq_getElem?_getD, List.getElem?_take_of_lt (by omega)]
theorem rcplx_spec {K : FuncId} {A : AW} {fr : Nat} {v : AV} {bs : List Nat} (hw : Wf A) (h : Rd A fr v bs) :
    CallP (ES K) 64 [.ptr fr 0 0] A fun r A1 => r = .tuple [.cplx .f64 (rdX bs).1.1 (rdX bs).1.2, .int .i64 ((rdX bs).2.1 : Int)] ∧ ∃ v', RStep A A1 fr v v' (bs.drop (rdX bs).2.2) := by
  unfold rdX
  refine call_of rfl rfl rfl ?_
  repeat (first | refine qO ?_ | refine qA ?_ | refine qG ?_ | refine qJ rfl rfl ?_ | refine qE rfl rfl ?_)
  refine qU rfl rfl orc_cons rfl (takes_spec hw h 16) ?_
  rintro r A1 (⟨hl, rfl, rfl⟩ | ⟨hl, x, v', rfl, hx, st⟩)
  · rw [if_pos hl]
    repeat (first | refine qO ?_ | refine qA ?_ | refine qG ?_ | refine qJ rfl rfl ?_ | refine qE rfl rfl ?_ | refine xK rfl rfl rfl ?_ | refine xL rfl rfl rfl ?_)
    refine qV rfl (fun _ => ?_) fun h => absurd (by decide : (30 : Int) ≠ 0) h
    repeat (first | refine qO ?_ | refine qA ?_ | refine qG ?_ | refine qJ rfl rfl ?_ | refine qE rfl rfl ?_)
    exact qQ rfl ⟨rfl, v, RStep.refl hw h⟩
  · rw [if_neg (by omega)]
    repeat (first | refine qO ?_ | refine qA ?_ | refine qG ?_ | refine qJ rfl rfl ?_ | refine qE rfl rfl ?_ | refine xK rfl rfl rfl ?_ | refine xL rfl rfl rfl ?_)
    refine qV rfl (fun h => absurd rfl h) fun _ => ?_
    repeat (first | refine qO ?_ | refine qS ?_)
    refine wg_draw rfl ?_
    have h16 : ∀ b ∈ bs.take 16, b < 256 := fun b hb => h.lt b (List.mem_of_mem_take hb)
    have hs := Row.drop (E := ES K) (t := 22) (d := d22) (e := 5) (de := d5) (k := 8) (kk := .i64) rfl rfl rfl hx (by decide)
    refine xC rfl rfl rfl rfl rfl ?_
    repeat (first | refine qG ?_ | refine qJ rfl rfl ?_)
    refine ⟨rfl, xC rfl rfl rfl rfl rfl ?_⟩
    repeat (first | refine qG ?_ | refine qJ rfl rfl ?_)
    refine ⟨rfl, xI rfl rfl rfl rfl rfl rfl rfl ?_⟩
    obtain ⟨y, hs1, hy, hy2, hy3⟩ := hs
    refine wo_slice (Q := fun r => r = y) rfl rfl rfl rfl rfl ⟨y, hs1, rfl⟩ ?_
    rintro r rfl
    have hy : Row A1 1 r 8 (bys ((bs.take 16).drop 8)) := by
      have : Row A1 1 r 8 ((bys (bs.take 16)).drop 8) := hy
      unfold bys at this ⊢
      rw [List.map_drop]
      exact this
    repeat refine qG ?_
    refine ⟨rfl, _, rfl, wd_act rfl rfl rfl ?_⟩
    refine qU rfl rfl orc_cons rfl (rpart_spec hx (by decide) h16) ?_
    rintro z A2 ⟨rfl, rfl⟩
    repeat refine qG ?_
    refine ⟨⟨.inr ⟨fun F hF => ?_, ?_⟩, trivial⟩, ?_⟩
    · show liftR (sliceA (ES K) 22 (ev F (.tmp 16)) (some (ev F (.const (.int .i64 8)))) none none A2) = _
      rw [hF.ev (x := .tmp 16) (v := x) rfl]
      exact congrArg liftR hs1
    · rcases hy with ⟨hh, _⟩ | ⟨f, u, o, c, ex, ro, all, rfl, _⟩
      · rcases hh with rfl | ⟨z, rfl⟩
        · rfl
        · exact hy3
      · exact hy3
    refine wd_act rfl rfl rfl ?_
    refine qU rfl rfl orc_cons rfl (rpart_spec hy (by decide) fun b hb => h16 b (List.mem_of_mem_drop hb)) ?_
    rintro z A2 ⟨rfl, rfl⟩
    repeat refine qG ?_
    refine ⟨⟨.inl (by show bit _ 3 = true; rfl), trivial⟩, ?_⟩
    refine xC rfl rfl rfl rfl rfl ?_
    refine wo_builtin rfl rfl rfl ?_
    repeat refine qG ?_
    refine ⟨rfl, wd_act rfl rfl rfl ?_⟩
    repeat (first | refine qG ?_ | refine qE rfl rfl ?_)
    refine ⟨⟨.inl (by show bit _ 3 = true; rfl), trivial⟩, wd_act rfl rfl rfl ?_⟩
    repeat (first | refine qG ?_ | refine qE rfl rfl ?_)
    refine ⟨⟨.inl (by show bit _ 3 = true; rfl), trivial⟩, wd_nil ?_⟩
    refine qQ rfl ⟨?_, v', st⟩
    have e1 := leA_take bs 16 8 (by decide)
    have e2 : leA ((bs.take 16).drop 8) 8 = leA (bs.drop 8) 8 := by
      rw [List.drop_take]
      exact leA_take (bs.drop 8) 8 8 (by decide)
    rw [← e1, ← e2]
    rfl
end Go.Proofs.YtiecclkgjcnaoaaGreat.Ae
