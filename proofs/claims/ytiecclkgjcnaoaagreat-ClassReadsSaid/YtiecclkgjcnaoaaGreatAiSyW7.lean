/-
  A READER'S FUNCTIONS, by the rules: Open, Left, takes, Byte, Uint, Int.
-/
import Derived.Test.YtiecclkgjcnaoaaGreatAiSyW4
import Derived.Test.YtiecclkgjcnaoaaGreatAiSy5
namespace Go.Proofs.YtiecclkgjcnaoaaGreat.Ae
open Go.AE
set_option linter.unusedVariables false
set_option maxRecDepth 100000
structure Rd (A : AW) (fr : Nat) (v : AV) (bs : List Nat) : Prop where
  cell : A.heap.get fr = some (.cells 0 false 1 [v])
  full : Full A 1 v bs.length (bys bs)
  own : ¬ v.isFam fr
  lt : ∀ b ∈ bs, b < 256
structure RStep (A A1 : AW) (fr : Nat) (v v' : AV) (bs : List Nat) : Prop where
  rd : Rd A1 fr v' bs
  only : Only A A1 (one fr)
  sub : ∀ g, v'.isFam g → v.isFam g
theorem RStep.refl {A : AW} {fr : Nat} {v : AV} {bs : List Nat} (hw : Wf A) (h : Rd A fr v bs) : RStep A A fr v v bs := ⟨h, Only.refl hw _, fun _ h => h⟩
theorem RStep.trans {A A1 A2 : AW} {fr : Nat} {v v1 v2 : AV} {bs cs : List Nat} (h : RStep A A1 fr v v1 bs) (k : RStep A1 A2 fr v1 v2 cs) : RStep A A2 fr v v2 cs := ⟨k.rd, h.only.same k.only, fun g hg => h.sub g (k.sub g hg)⟩
theorem Rd.keep {A A1 : AW} {fr : Nat} {v : AV} {bs : List Nat} {T : Nat → Prop} (h : Rd A fr v bs) (ho : Only A A1 T) (hd : Disj (both (one fr) v.isFam) T) : Rd A1 fr v bs :=
  ⟨ho.keep fr _ h.cell (hd fr (.inl rfl)), h.full.keep ho fun g hg => hd g (.inr hg), h.own, h.lt⟩
theorem Rd.store {A : AW} {fr : Nat} {v r : AV} {bs cs : List Nat} (hw : Wf A) (h : Rd A fr v bs) (hr : Full A 1 r cs.length (bys cs)) (hs : ∀ g, r.isFam g → v.isFam g) (hl : ∀ b ∈ cs, b < 256) :
    RStep A (A.put fr (.cells 0 false 1 [r])) fr v r cs := by
  have op : Only A (A.put fr (.cells 0 false 1 [r])) (one fr) := Only.put hw (hw _ _ h.cell)
  exact ⟨⟨by simp, hr.keep op fun g hg e => h.own (by cases e; exact hs _ hg), fun hg => h.own (hs _ hg), hl⟩, op, hs⟩
theorem open_spec {K : FuncId} {A : AW} {v : AV} {bs : List Nat} (hw : Wf A) (h : Row A 1 v bs.length (bys bs)) (hl : bs.length < 1000000000) (hlt : ∀ b ∈ bs, b < 256) :
    CallP (ES K) 13 [v] A fun r A1 => ∃ fr v', r = .ptr fr 0 0 ∧ Rd A1 fr v' bs ∧ Only A A1 none' ∧ Grow A none' (both (one fr) v'.isFam) := by
  refine call_of rfl rfl rfl ?_
  repeat (first | refine qO ?_ | refine qA ?_ | refine qG ?_ | refine qJ rfl rfl ?_ | refine qE rfl rfl ?_)
  refine wo_append rfl rfl rfl rfl rfl (append_buf (de := d5) (v := .nils) (n := 0) (cs := []) rfl rfl rfl rfl hw (.inl ⟨rfl, rfl, rfl⟩) h.src (by rw [bys_length]; exact (Nat.mul_one _).symm) (by decide) (room_of (by omega) (by decide))) ?_
  intro r A1 g
  have gb := g.buf
  rw [Nat.zero_add] at gb
  have gb : Buf A1 1 r bs.length (bys bs) := gb
  refine wo_build (v := .agg [r]) rfl rfl ?_ ?_
  · rcases gb with ⟨rfl, _⟩ | ⟨f, t, rfl, _⟩ <;> rfl
  refine wo_box rfl rfl rfl rfl ?_
  repeat (first | refine qG ?_ | refine qE rfl rfl ?_)
  have ub := gb.under g.only.wf
  have oa : Only A1 (A1.add (.cells 0 false 1 [r])) none' := Only.add g.only.wf _
  refine qQ rfl ⟨A1.nxt, r, rfl, ⟨by rw [AW.add_get, if_pos rfl]; rfl, gb.full.keep oa fun _ _ h => h, fun e => Nat.lt_irrefl _ (ub _ e), hlt⟩, g.only.same oa, fun k hk => ?_⟩
  rcases hk with hk | hk
  · cases hk; exact .inr g.only.nxt
  · exact g.grow k hk
theorem left_spec {K : FuncId} {A : AW} {fr : Nat} {v : AV} {bs : List Nat} (h : Rd A fr v bs) : CallP (ES K) 23 [.ptr fr 0 0] A fun r A1 => r = .int .i64 (bs.length : Int) ∧ A1 = A := by
  refine call_of rfl rfl rfl ?_
  have hc := h.cell
  repeat (first | refine qO ?_ | refine qA ?_ | refine qG ?_ | refine qJ rfl rfl ?_ | refine qE rfl rfl ?_ | refine qI rfl rfl rfl ?_ | refine qW rfl rfl ?_ | refine qP rfl rfl rfl rfl (by assumption) rfl ?_)
  refine xJ rfl rfl rfl h.full.row.lenV ?_
  repeat (first | refine qG ?_ | refine qE rfl rfl ?_)
  exact qQ rfl ⟨rfl, rfl⟩
theorem takes_spec {K : FuncId} {A : AW} {fr : Nat} {v : AV} {bs : List Nat} (hw : Wf A) (h : Rd A fr v bs) (k : Nat) :
    CallP (ES K) 98 [.ptr fr 0 0, .int .i64 (k : Int)] A fun r A1 => (bs.length < k ∧ r = .tuple [.nils, .int .i64 30] ∧ A1 = A) ∨
      (k ≤ bs.length ∧ ∃ x v', r = .tuple [x, .int .i64 0] ∧ Row A1 1 x k (bys (bs.take k)) ∧ RStep A A1 fr v v' (bs.drop k)) := by
  refine call_of rfl rfl rfl ?_
  have hc := h.cell
  repeat (first | refine qO ?_ | refine qA ?_ | refine qG ?_ | refine qJ rfl rfl ?_ | refine qE rfl rfl ?_ | refine qI rfl rfl rfl ?_ | refine qW rfl rfl ?_ | refine qP rfl rfl rfl rfl (by assumption) rfl ?_)
  refine xJ rfl rfl rfl h.full.row.lenV ?_
  repeat (first | refine qG ?_ | refine wo_gtr rfl rfl rfl ?_)
  refine qV rfl (fun hlt => ?_) fun hge => ?_
  · repeat (first | refine qO ?_ | refine qA ?_ | refine qG ?_ | refine qE rfl rfl ?_)
    exact qQ rfl (.inl ⟨Int.ofNat_lt.1 hlt, rfl, rfl⟩)
  have hk : k ≤ bs.length := by
    have : ¬ (bs.length : Int) < (k : Int) := hge
    omega
  repeat (first | refine qO ?_ | refine qS ?_ | refine qA ?_ | refine qJ rfl rfl ?_ | refine qI rfl rfl rfl ?_ | refine qW rfl rfl ?_ | refine qP rfl rfl rfl rfl (by assumption) rfl ?_)
  refine wo_slice rfl rfl rfl rfl rfl (Full.take (de := d5) rfl rfl rfl h.full hk) ?_
  rintro x ⟨hx, hxs⟩
  repeat (first | refine qO ?_ | refine qA ?_ | refine qG ?_ | refine qJ rfl rfl ?_ | refine qE rfl rfl ?_ | refine qI rfl rfl rfl ?_ | refine qW rfl rfl ?_ | refine qP rfl rfl rfl rfl (by assumption) rfl ?_)
  refine wo_slice rfl rfl rfl rfl rfl (Full.drop (de := d5) rfl rfl rfl h.full hk) ?_
  rintro r ⟨hr, hrs⟩
  have hr : Full A 1 r (bs.drop k).length (bys (bs.drop k)) := by
    have : Full A 1 r (bs.length - k) ((bys bs).drop (k * 1)) := hr
    rw [Nat.mul_one] at this
    unfold bys at this ⊢
    rw [List.length_drop, List.map_drop]
    exact this
  have st := h.store hw hr hrs fun b hb => h.lt b (List.mem_of_mem_drop hb)
  repeat (first | refine qI rfl rfl rfl ?_ | refine qW rfl rfl ?_)
  refine wo_storeV rfl rfl hr.cells rfl rfl hc rfl ?_
  repeat (first | refine qO ?_ | refine qA ?_ | refine qG ?_ | refine qJ rfl rfl ?_ | refine qE rfl rfl ?_)
  refine qQ rfl (.inr ⟨hk, x, r, rfl, ?_, st⟩)
  have hx : Row A 1 x k (bys (bs.take k)) := by
    have : Row A 1 x k ((bys bs).take (k * 1)) := hx
    rw [Nat.mul_one] at this
    unfold bys at this ⊢
    rw [List.map_take]
    exact this
  exact hx.keep st.only fun g hg e => h.own (by cases e; exact hxs _ hg)
def rdB : List Nat → Nat × Nat × Nat
  | [] => (0, 30, 0)
  | b :: _ => (b, 0, 1)
theorem rbyte_spec {K : FuncId} {A : AW} {fr : Nat} {v : AV} {bs : List Nat} (hw : Wf A) (h : Rd A fr v bs) :
    CallP (ES K) 56 [.ptr fr 0 0] A fun r A1 => r = .tuple [.int .u8 ((rdB bs).1 : Int), .int .i64 ((rdB bs).2.1 : Int)] ∧ ∃ v', RStep A A1 fr v v' (bs.drop (rdB bs).2.2) := by
  refine call_of rfl rfl rfl ?_
  repeat (first | refine qO ?_ | refine qA ?_ | refine qG ?_ | refine qJ rfl rfl ?_ | refine qE rfl rfl ?_)
  refine qU rfl rfl orc_cons rfl (takes_spec hw h 1) ?_
  rintro r A1 (⟨hl, rfl, rfl⟩ | ⟨hl, x, v', rfl, hx, st⟩)
  · have : bs = [] := List.eq_nil_of_length_eq_zero (by omega)
    subst this
    repeat (first | refine qO ?_ | refine qA ?_ | refine qG ?_ | refine qJ rfl rfl ?_ | refine qE rfl rfl ?_ | refine xK rfl rfl rfl ?_ | refine xL rfl rfl rfl ?_)
    refine qV rfl (fun _ => ?_) fun h => absurd (by decide : (30 : Int) ≠ 0) h
    repeat (first | refine qO ?_ | refine qA ?_ | refine qG ?_ | refine qJ rfl rfl ?_ | refine qE rfl rfl ?_)
    exact qQ rfl ⟨rfl, v, RStep.refl hw h⟩
  · cases bs with
    | nil => exact absurd hl (by decide)
    | cons b bs =>
      repeat (first | refine qO ?_ | refine qA ?_ | refine qG ?_ | refine qJ rfl rfl ?_ | refine qE rfl rfl ?_ | refine xK rfl rfl rfl ?_ | refine xL rfl rfl rfl ?_)
      refine qV rfl (fun h => absurd rfl h) fun _ => ?_
      have hx : Row A1 1 x 1 (bys [b]) := hx
      obtain ⟨f, t, o, c, ex, ro, all, rfl, h1, h2, h3⟩ := hx.byte (i := 0) (b := b) rfl
      repeat (first | refine qO ?_ | refine qS ?_ | refine qA ?_ | refine qJ rfl rfl ?_)
      refine xF 0 rfl rfl rfl rfl rfl h2 ?_
      refine qP rfl rfl rfl rfl h1 h3 ?_
      repeat (first | refine qG ?_ | refine qE rfl rfl ?_)
      exact qQ rfl ⟨rfl, v', st⟩
def orG (n b i : Nat) : Nat := n ||| (b % 128 * 2 ^ (7 * i) % 18446744073709551616)
def rdG : List Nat → Nat → Nat → Nat × Nat × Nat
  | [], _, _ => (0, 30, 0)
  | b :: l, i, n => if (i = 9 ∧ b ≠ 1) ∨ (0 < i ∧ b = 0) then (0, 31, 0) else if 128 ≤ b then rdG l (i + 1) (orG n b i) else (orG n b i, 0, i + 1)
theorem rdG_cons (b : Nat) (l : List Nat) (i n : Nat) : rdG (b :: l) i n = if (i = 9 ∧ b ≠ 1) ∨ (0 < i ∧ b = 0) then (0, 31, 0) else if 128 ≤ b then rdG l (i + 1) (orG n b i) else (orG n b i, 0, i + 1) := rfl
theorem orG_lt {n b i : Nat} (h : n < 18446744073709551616) : orG n b i < 18446744073709551616 := Nat.or_lt_two_pow (n := 64) h (Nat.mod_lt _ (by decide))
theorem and127 : ∀ m : Fin 256, IntKind.u8.wrap ((BitVec.ofInt 8 (m.val : Int) &&& BitVec.ofInt 8 127).toNat : Int) = ((m.val % 128 : Nat) : Int) := by decide +kernel
theorem and127_of {b : Nat} (h : b < 256) : IntKind.u8.wrap ((BitVec.ofInt IntKind.u8.bits (b : Int) &&& BitVec.ofInt IntKind.u8.bits 127).toNat : Int) = ((b % 128 : Nat) : Int) := and127 ⟨b, h⟩
theorem ofInt64 {n : Nat} (h : n < 18446744073709551616) : (BitVec.ofInt 64 (n : Int)).toNat = n := by
  rw [BitVec.toNat_ofInt]
  omega
theorem or64 {a b : Nat} (ha : a < 18446744073709551616) (hb : b < 18446744073709551616) : IntKind.u64.wrap ((BitVec.ofInt IntKind.u64.bits (a : Int) ||| BitVec.ofInt IntKind.u64.bits (b : Int)).toNat : Int) = ((a ||| b : Nat) : Int) := by
  have e : (BitVec.ofInt IntKind.u64.bits (a : Int) ||| BitVec.ofInt IntKind.u64.bits (b : Int)).toNat = a ||| b := by
    rw [BitVec.toNat_or]
    show (BitVec.ofInt 64 (a : Int)).toNat ||| (BitVec.ofInt 64 (b : Int)).toNat = _
    rw [ofInt64 ha, ofInt64 hb]
  rw [e]
  exact wrap_u64n (Nat.or_lt_two_pow (n := 64) ha hb)
theorem shl7 {E : Env} {A : AW} {n i : Nat} {k : IntKind} (h : i ≤ 9) : intOp E .shl .u64 (n : Int) k ((7 * i : Nat) : Int) A = .val (.int .u64 ((n * 2 ^ (7 * i) % 18446744073709551616 : Nat) : Int)) A := by
  rw [int_shl (by omega)]
  have e : min ((7 * i : Nat) : Int).toNat IntKind.u64.bits = 7 * i := by
    show min ((7 * i : Nat) : Int).toNat 64 = _
    omega
  rw [e, wrap_u64]
  congr 2
theorem rdG_take : ∀ (l : List Nat) (i n : Nat), (rdG l i n).2.2 ≤ i + l.length ∧ ((rdG l i n).2.1 ≠ 0 → (rdG l i n).2.2 = 0 ∧ (rdG l i n).1 = 0)
  | [], i, n => ⟨Nat.zero_le _, fun _ => ⟨rfl, rfl⟩⟩
  | b :: l, i, n => by
    unfold rdG
    split
    · exact ⟨Nat.zero_le _, fun _ => ⟨rfl, rfl⟩⟩
    · split
      · have := rdG_take l (i + 1) (orG n b i)
        exact ⟨by simp only [List.length_cons]; omega, this.2⟩
      · exact ⟨by simp only [List.length_cons]; omega, fun h => absurd rfl h⟩
theorem rdG_lt : ∀ (l : List Nat) (i n : Nat), n < 18446744073709551616 → (rdG l i n).1 < 18446744073709551616
  | [], i, n, h => by show 0 < _; decide
  | b :: l, i, n, h => by
    unfold rdG
    split
    · show 0 < _; decide
    · split
      · exact rdG_lt l (i + 1) _ (orG_lt h)
      · exact orG_lt h
theorem ruint_spec {K : FuncId} {A : AW} {fr : Nat} {v : AV} {bs : List Nat} (hw : Wf A) (h : Rd A fr v bs) :
    CallP (ES K) 103 [.ptr fr 0 0] A fun r A1 => r = .tuple [.int .u64 ((rdG bs 0 0).1 : Int), .int .i64 ((rdG bs 0 0).2.1 : Int)] ∧ ∃ v', RStep A A1 fr v v' (bs.drop (rdG bs 0 0).2.2) := by
  refine call_of rfl rfl rfl ?_
  have hc := h.cell
  repeat (first | refine qO ?_ | refine wg_scope ?_ | refine qA ?_ | refine qG ?_ | refine qE rfl rfl ?_)
  refine wg_label ?_
  refine wg_le (.put 0 (.ptr fr 0 0) (.put 4 (.int .u64 ((0 : Nat) : Int)) (.put 5 (.int .i64 ((0 : Nat) : Int)) .nil))) ?_ ⟨rfl, rfl, rfl, trivial⟩
  refine wg_ind (ι := Nat × Nat) (fun i => bs.length - i.1) (fun i => .put 0 (.ptr fr 0 0) (.put 4 (.int .u64 (i.2 : Int)) (.put 5 (.int .i64 (i.1 : Int)) .nil)))
    (fun i A1 => A1 = A ∧ i.1 ≤ bs.length ∧ i.1 ≤ 9 ∧ i.2 < 18446744073709551616 ∧ rdG (bs.drop i.1) i.1 i.2 = rdG bs 0 0) ?_ (0, 0) A ⟨rfl, Nat.zero_le _, Nat.zero_le _, Nat.zero_lt_succ _, rfl⟩
  rintro ⟨i, n⟩ A1 ⟨rfl, hi, h9, hn, hr⟩ ih
  have hi : i ≤ bs.length := hi
  have h9 : i ≤ 9 := h9
  have hn : n < 18446744073709551616 := hn
  have hr : rdG (bs.drop i) i n = rdG bs 0 0 := hr
  repeat (first | refine qO ?_ | refine qA ?_ | refine qJ rfl rfl ?_ | refine qI rfl rfl rfl ?_ | refine qW rfl rfl ?_ | refine qP rfl rfl rfl rfl (by assumption) rfl ?_)
  refine xJ rfl rfl rfl h.full.row.lenV ?_
  repeat (first | refine qG ?_ | refine xD rfl rfl rfl ?_)
  refine qV rfl (fun he => ?_) fun hne => ?_
  · have he : i = bs.length := Int.ofNat_inj.1 he
    rw [he, List.drop_length] at hr
    have hr : (0, 30, 0) = rdG bs 0 0 := hr
    repeat (first | refine qO ?_ | refine qA ?_ | refine qG ?_ | refine qE rfl rfl ?_)
    refine qQ rfl ⟨?_, v, ?_⟩
    · rw [← hr]; rfl
    · rw [← hr]; exact RStep.refl hw h
  have hne : i < bs.length := by
    have : ¬ (i : Int) = (bs.length : Int) := hne
    omega
  obtain ⟨b, hb⟩ : ∃ b, bs[i]? = some b := ⟨bs[i], List.getElem?_eq_getElem hne⟩
  have hb256 := h.lt b (List.mem_of_getElem? hb)
  have hd : bs.drop i = b :: bs.drop (i + 1) := by
    rw [List.getElem?_eq_getElem hne, Option.some.injEq] at hb
    rw [← hb]
    exact List.drop_eq_getElem_cons hne
  rw [hd, rdG_cons] at hr
  obtain ⟨f, t, o, c, ex, ro, all, rfl, h1, h2, h3⟩ := h.full.row.byte hb
  repeat (first | refine qO ?_ | refine qS ?_ | refine qA ?_ | refine qJ rfl rfl ?_ | refine qI rfl rfl rfl ?_ | refine qW rfl rfl ?_ | refine qP rfl rfl rfl rfl (by assumption) rfl ?_)
  refine xF i rfl rfl rfl rfl rfl hne ?_
  refine qP rfl rfl rfl rfl h1 h3 ?_
  repeat (first | refine qG ?_ | refine qE rfl rfl ?_)
  repeat refine qO ?_
  refine wg_regionTo (.put 0 (.ptr fr 0 0) (.put 4 (.int .u64 (n : Int)) (.put 5 (.int .i64 (i : Int)) (.put 6 (.int .u8 (b : Int)) (.put 34 (.bool (decide ((i = 9 ∧ b ≠ 1) ∨ (0 < i ∧ b = 0)))) .nil))))) ?_ ?_
  · repeat (first | refine qJ rfl rfl ?_ | refine xD rfl rfl rfl ?_)
    by_cases i9 : i = 9
    · refine xA 23 true rfl (decide_eq_true (by first | omega | (simp only; omega))) ?_
      repeat (first | refine qJ rfl rfl ?_ | refine xL rfl rfl rfl ?_ | refine qR rfl rfl rfl ?_ | refine qX rfl ?_)
      by_cases b1 : b = 1
      · refine xA 27 false rfl (decide_eq_false (by first | omega | (simp only; omega))) ?_
        repeat (first | refine qJ rfl rfl ?_ | refine wo_gtr rfl rfl rfl ?_ | refine qX rfl ?_)
        refine xA 30 true rfl (decide_eq_true (by first | omega | (simp only; omega))) ?_
        repeat (first | refine qG ?_ | refine qJ rfl rfl ?_ | refine xD rfl rfl rfl ?_ | refine qR rfl rfl rfl ?_ | refine qX rfl ?_)
        exact ⟨rfl, rfl, rfl, rfl, rfl, congrArg (fun x => some (AV.bool x)) (decide_eq_decide.2 (by omega)), trivial⟩
      · refine xA 27 true rfl (decide_eq_true (by first | omega | (simp only; omega))) ?_
        repeat (first | refine qG ?_ | refine qR rfl rfl rfl ?_ | refine xE rfl rfl ?_)
        exact ⟨rfl, rfl, rfl, rfl, rfl, congrArg (fun x => some (AV.bool x)) (decide_eq_true (by omega)).symm, trivial⟩
    · refine xA 23 false rfl (decide_eq_false (by first | omega | (simp only; omega))) ?_
      repeat (first | refine qJ rfl rfl ?_ | refine wo_gtr rfl rfl rfl ?_ | refine qR rfl rfl rfl ?_ | refine qX rfl ?_ | refine xE rfl rfl ?_)
      by_cases i0 : 0 < i
      · refine xA 30 true rfl (decide_eq_true (by first | omega | (simp only; omega))) ?_
        repeat (first | refine qG ?_ | refine qJ rfl rfl ?_ | refine xD rfl rfl rfl ?_ | refine qR rfl rfl rfl ?_ | refine qX rfl ?_)
        exact ⟨rfl, rfl, rfl, rfl, rfl, congrArg (fun x => some (AV.bool x)) (decide_eq_decide.2 (by omega)), trivial⟩
      · refine xA 30 false rfl (decide_eq_false (by first | omega | (simp only; omega))) ?_
        repeat (first | refine qG ?_ | refine qR rfl rfl rfl ?_ | refine qX rfl ?_ | refine xE rfl rfl ?_)
        exact ⟨rfl, rfl, rfl, rfl, rfl, congrArg (fun x => some (AV.bool x)) (decide_eq_false (by omega)).symm, trivial⟩
  refine qV rfl (fun hbad => ?_) fun hbad => ?_
  · rw [if_pos hbad] at hr
    repeat (first | refine qO ?_ | refine qA ?_ | refine qG ?_ | refine qE rfl rfl ?_)
    refine qQ rfl ⟨?_, .slice f t o bs.length c ex, ?_⟩
    · rw [← hr]; rfl
    · rw [← hr]; exact RStep.refl hw h
  rw [if_neg hbad] at hr
  repeat (first | refine qO ?_ | refine qS ?_ | refine qA ?_ | refine qJ rfl rfl ?_)
  refine wo_bin rfl rfl rfl (v := .int .u8 ((b % 128 : Nat) : Int)) (by rw [int_and]; exact congrArg (fun z => OpR.val (.int .u8 z) A1) (and127_of hb256)) ?_
  refine wo_conv rfl rfl rfl rfl ((b % 128 : Nat) : Int) (wrap_u64n (by omega)) ?_
  repeat refine qJ rfl rfl ?_
  refine wo_bin rfl rfl rfl (v := .int .i64 ((7 * i : Nat) : Int)) (by rw [int_mul, wrap_i64 (by omega) (by omega)]; rfl) ?_
  refine wo_bin rfl rfl rfl (shl7 h9) ?_
  refine wo_bin rfl rfl rfl (v := .int .u64 (orG n b i : Int)) (by rw [int_or]; exact congrArg (fun z => OpR.val (.int .u64 z) A1) (or64 hn (Nat.mod_lt _ (by decide)))) ?_
  repeat (first | refine qO ?_ | refine qA ?_ | refine qG ?_ | refine qJ rfl rfl ?_ | refine qE rfl rfl ?_)
  refine wo_add rfl rfl rfl (by omega) (by omega) ?_
  repeat (first | refine qO ?_ | refine qA ?_ | refine qG ?_ | refine qJ rfl rfl ?_ | refine qE rfl rfl ?_ | refine wo_geq rfl rfl rfl ?_)
  refine qV rfl (fun hge => ?_) fun hlt => ?_
  · have hge : 128 ≤ b := by
      have : (128 : Int) ≤ (b : Int) := hge
      omega
    rw [if_pos hge] at hr
    refine wg_goto rfl (qO (qS ?_))
    refine wg_le (.put 0 (.ptr fr 0 0) (.put 4 (.int .u64 (orG n b i : Int)) (.put 5 (.int .i64 ((i + 1 : Nat) : Int)) .nil))) ?_ ⟨rfl, rfl, rfl, trivial⟩
    exact ih (i + 1, orG n b i) A1 (by simp only; omega) ⟨rfl, hne, by simp only; omega, orG_lt hn, hr⟩
  · have hlt : ¬ 128 ≤ b := by
      have : ¬ (128 : Int) ≤ (b : Int) := hlt
      omega
    rw [if_neg hlt] at hr
    repeat (first | refine qO ?_ | refine qS ?_ | refine qA ?_ | refine qJ rfl rfl ?_ | refine qI rfl rfl rfl ?_ | refine qW rfl rfl ?_ | refine qP rfl rfl rfl rfl (by assumption) rfl ?_)
    refine wo_slice rfl rfl rfl rfl rfl (Full.drop (de := d5) (k := i + 1) rfl rfl rfl h.full hne) ?_
    rintro r ⟨hr1, hrs⟩
    have hr2 : Full A1 1 r (bs.drop (i + 1)).length (bys (bs.drop (i + 1))) := by
      have : Full A1 1 r (bs.length - (i + 1)) ((bys bs).drop ((i + 1) * 1)) := hr1
      rw [Nat.mul_one] at this
      unfold bys at this ⊢
      rw [List.length_drop, List.map_drop]
      exact this
    have st := h.store hw hr2 hrs fun b hb => h.lt b (List.mem_of_mem_drop hb)
    repeat (first | refine qI rfl rfl rfl ?_ | refine qW rfl rfl ?_)
    refine wo_storeV rfl rfl hr2.cells rfl rfl hc rfl ?_
    repeat (first | refine qO ?_ | refine qA ?_ | refine qG ?_ | refine qJ rfl rfl ?_ | refine qE rfl rfl ?_)
    refine qQ rfl ⟨?_, r, ?_⟩
    · rw [← hr]; rfl
    · rw [← hr]; exact st
end Go.Proofs.YtiecclkgjcnaoaaGreat.Ae
