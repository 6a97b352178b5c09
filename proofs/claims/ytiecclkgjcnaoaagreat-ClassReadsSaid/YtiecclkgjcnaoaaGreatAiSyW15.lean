/-
  THE DOCUMENT'S PUT, by the rules.
  THE DOCUMENT'S WRITING, by the rules: num, typ, constant.
  THE DOCUMENT'S READER, by the rules: complex numbers; whether two are alike.
-/
import Derived.Test.YtiecclkgjcnaoaaGreatAiSyC4
import Derived.Test.YtiecclkgjcnaoaaGreatAiSyW4
import Derived.Test.YtiecclkgjcnaoaaGreatAiSyE7
import Derived.Test.YtiecclkgjcnaoaaGreatAiSyW14
namespace Go.Proofs.YtiecclkgjcnaoaaGreat.Ae
open Go.AE
set_option linter.unusedVariables false
set_option maxRecDepth 100000
structure QInv (A A1 : AW) (vb : AV) (l : List In) (i : Nat) : Prop where
  le : i ≤ l.length
  ok : ∀ x ∈ l.take i, isP x.1 x.2
  buf : Buf A1 1 vb (putB l i).length (bys (putB l i))
  only : Only A A1 none'
  own : ∀ g, vb.isFam g → A.nxt ≤ g
theorem QInv.next {A A1 A2 A3 : AW} {vb vb' : AV} {l : List In} {i : Nat} {x : In} (hw : Wf A) (inv : QInv A A1 vb l i) (hx : l[i]? = some x) (hp : isP x.1 x.2) (ho : Only A1 A2 none')
    (st : BStep A2 A3 vb vb' (putB l i) (encI x)) : QInv A A3 vb' l (i + 1) := by
  have hn := inv.only.nxt
  have hn2 := ho.nxt
  have h2 : Only A A2 none' := inv.only.same ho
  refine ⟨(List.getElem?_eq_some_iff.1 hx).1, ok_next inv.ok hx hp, by rw [putB_next hx]; exact st.buf, Only.fresh hw h2 st.only inv.own, fun g hg => ?_⟩
  rcases st.grow g hg with h | h
  · exact inv.own g h
  · omega
theorem rput_spec {A : AW} {v : AV} {l : List In} (hw : Wf A) (hrow : Row A 2 v l.length (ics l)) (hlen : l.length < 9223372036854775808) :
    CallP (ES 4) 82 [v] A fun r A1 => ∃ vb, r = .tuple [vb, .int .i64 (putL l).2] ∧ Buf A1 1 vb (putL l).1.length (bys (putL l).1) ∧ Only A A1 none' ∧ Grow A none' vb.isFam := by
  refine call_of rfl rfl rfl ?_
  repeat (first | refine qO ?_ | refine qA ?_ | refine qG ?_ | refine qJ rfl rfl ?_ | refine qE rfl rfl ?_)
  refine xJ rfl rfl rfl hrow.lenV ?_
  repeat (first | refine qG ?_ | refine wo_gtr rfl rfl rfl ?_)
  refine qV rfl (fun h => ?_) fun h => ?_
  · have h : 200 < l.length := by
      have : (200 : Int) < (l.length : Int) := h
      omega
    unfold putL
    rw [if_pos h]
    repeat (first | refine qO ?_ | refine qA ?_ | refine qG ?_ | refine qE rfl rfl ?_)
    exact qQ rfl ⟨.nils, rfl, .inl ⟨rfl, rfl, rfl⟩, Only.refl hw _, fun g hg => .inl hg⟩
  have h200 : l.length ≤ 200 := by
    have : ¬ (200 : Int) < (l.length : Int) := h
    omega
  repeat (first | refine qO ?_ | refine qS ?_ | refine qA ?_ | refine qJ rfl rfl ?_)
  refine xJ rfl rfl rfl hrow.lenV ?_
  refine wo_conv rfl rfl rfl rfl (l.length : Int) (wrap_u64n (by omega)) ?_
  refine qU rfl rfl orc_cons rfl (refUint_spec (bs := []) hw (.inl ⟨rfl, rfl, rfl⟩) (by decide) (by omega)) ?_
  intro vb A2 st
  repeat (first | refine qO ?_ | refine qY ?_ | refine qA ?_ | refine qG ?_ | refine qE rfl rfl ?_)
  have i0 : QInv A A2 vb l 0 := ⟨Nat.zero_le _, fun x hx => by simp at hx, by
      have := st.buf
      unfold putB
      simpa using this, st.only.mono fun g hg => hg, fun g hg => by
    rcases st.grow g hg with h | h
    · exact h.elim
    · omega⟩
  refine wg_loop ?_
  refine wg_le (.put 0 v (.put 4 vb (.put 5 (.int .i64 ((0 : Nat) : Int)) .nil))) ?_ ⟨rfl, rfl, rfl, trivial⟩
  refine wg_ind (ι := Nat × AV) (fun i => l.length - i.1) (fun i => .put 0 v (.put 4 i.2 (.put 5 (.int .i64 (i.1 : Int)) .nil)))
    (fun i A2 => QInv A A2 i.2 l i.1) ?_ (0, vb) A2 i0
  clear i0 st
  rintro ⟨i, vb⟩ A3 inv ih
  have inv : QInv A A3 vb l i := inv
  have hrow1 := hrow.keep inv.only fun _ _ h => h
  have hbl := putB_len inv.ok h200
  repeat (first | refine qO ?_ | refine qA ?_ | refine qJ rfl rfl ?_)
  refine xJ rfl rfl rfl hrow1.lenV ?_
  repeat (first | refine qG ?_ | refine xM rfl rfl rfl ?_)
  refine qV rfl (fun hlt => ?_) fun hge => ?_
  · have hi : i < l.length := Int.ofNat_lt.1 hlt
    obtain ⟨x, hx⟩ : ∃ x, l[i]? = some x := ⟨l[i], List.getElem?_eq_getElem hi⟩
    obtain ⟨op, a⟩ := x
    obtain ⟨f, t, o, c, ex, ro, all, rfl, hh, hat⟩ := hrow1.at hi
    have hf : f < A.nxt := hrow.under hw f rfl
    have hO : nth all (Nat.add (Nat.add o (Nat.mul i 2)) 0) = some (.int .i64 op) := nth_take ((hat 1 0 (by decide)).trans ((take_flat icl_len hx 1 0 (by decide)).trans rfl))
    have hA : nth all (Nat.add (Nat.add o (Nat.mul i 2)) 1) = some (.int .i64 a) := nth_take ((hat 1 1 (by decide)).trans ((take_flat icl_len hx 1 1 (by decide)).trans rfl))
    repeat (first | refine qO ?_ | refine qS ?_ | refine qY ?_ | refine qA ?_ | refine qJ rfl rfl ?_)
    refine xF i rfl rfl rfl rfl rfl hi ?_
    refine xG (vs := icl (op, a)) rfl rfl rfl rfl hh ?_ ?_
    · refine (hat 2 0 (Nat.le_refl _)).trans ?_
      refine (take_flat icl_len hx 2 0 (Nat.le_refl _)).trans ?_
      rfl
    refine qU rfl rfl orc_cons rfl (ris_spec inv.only.wf) ?_
    rintro r A5 ⟨rfl, o5⟩
    have hh5 := o5.keep _ _ hh fun h => h
    repeat (first | refine qG ?_ | refine wo_not rfl rfl ?_)
    refine wg_if rfl (fun hb => ?_) fun hb => ?_
    · have hb : ¬ isP op a := by
        intro h
        rw [decide_eq_true h] at hb
        exact absurd hb (by decide)
      rw [putL_bad h200 hx hb]
      repeat (first | refine qO ?_ | refine qA ?_ | refine qG ?_ | refine qE rfl rfl ?_)
      exact qQ rfl ⟨.nils, rfl, .inl ⟨rfl, rfl, rfl⟩, inv.only.same o5, fun g hg => .inl hg⟩
    have hp : isP op a := by
      apply Decidable.byContradiction
      intro h
      rw [decide_eq_false h] at hb
      exact absurd hb (by decide)
    have hr := (opd_range op).2.2 hp.1
    have buf5 := inv.buf.keep o5 fun _ _ h => h
    repeat (first | refine qO ?_ | refine qS ?_ | refine qA ?_ | refine qJ rfl rfl ?_)
    refine xF i rfl rfl rfl rfl rfl hi ?_
    repeat refine qI rfl rfl rfl ?_
    refine qP rfl rfl rfl rfl hh5 hO ?_
    refine wo_conv rfl rfl rfl rfl ((op.toNat : Nat) : Int) (by rw [wrap_u8]; omega) ?_
    repeat refine wo_buildSlice rfl rfl rfl ?_
    refine wo_append rfl rfl rfl rfl rfl (append_one (de := d5) rfl rfl rfl rfl o5.wf buf5 rfl (by decide) (room_of (by omega) (by decide))) ?_
    intro vb1 A6 g
    have st1 : BStep A5 A6 vb vb1 (putB l i) [op.toNat] := BStep.of' g (by simp) (by rw [bys_append]; rfl)
    have hh6 := st1.only.keep _ _ hh5 fun h => by
      have := inv.own f h
      omega
    repeat (first | refine qO ?_ | refine qA ?_ | refine qG ?_ | refine qJ rfl rfl ?_ | refine qE rfl rfl ?_)
    refine xF i rfl rfl rfl rfl rfl hi ?_
    repeat refine qI rfl rfl rfl ?_
    refine qP rfl rfl rfl rfl hh6 hO ?_
    refine qU rfl rfl orc_cons rfl roperand_spec ?_
    rintro r A7 ⟨rfl, e7⟩
    obtain rfl : A6 = A7 := e7.symm
    repeat (first | refine qG ?_ | refine wo_gtr rfl rfl rfl ?_)
    refine qV rfl (fun h0 => ?_) fun h0 => ?_
    · have h0 : 0 < opd op := h0
      have ha := hp.2.2 (by omega)
      repeat (first | refine qA ?_ | refine qJ rfl rfl ?_)
      refine xF i rfl rfl rfl rfl rfl hi ?_
      repeat refine qI rfl rfl rfl ?_
      refine qP rfl rfl rfl rfl hh6 hA ?_
      refine wo_conv rfl rfl rfl rfl ((a.toNat : Nat) : Int) (by rw [wrap_u64]; omega) ?_
      refine qU rfl rfl orc_cons rfl (refUint_spec st1.only.wf st1.buf (by rw [List.length_append, List.length_singleton]; omega) (by omega)) ?_
      intro vb2 A7 st2
      have st3 : BStep A5 A7 vb vb2 (putB l i) (encI (op, a)) := by
        have := st1.trans o5.wf st2
        unfold encI
        rw [if_pos h0]
        exact this
      have i2 := inv.next hw hx hp o5 st3
      repeat (first | refine xB ?_ | refine qA ?_ | refine qG ?_ | refine qJ rfl rfl ?_ | refine qE rfl rfl ?_)
      refine wo_add rfl rfl rfl (by omega) (by omega) ?_
      repeat (first | refine qG ?_ | refine qE rfl rfl ?_)
      refine xN ?_
      refine wg_le (.put 0 (.slice f t o l.length c ex) (.put 4 vb2 (.put 5 (.int .i64 ((i + 1 : Nat) : Int)) .nil))) ?_ ⟨rfl, rfl, rfl, trivial⟩
      exact ih (i + 1, vb2) A7 (by simp only; omega) i2
    · have h0 : ¬ 0 < opd op := h0
      have st3 : BStep A5 A6 vb vb1 (putB l i) (encI (op, a)) := by
        unfold encI
        rw [if_neg h0]
        exact st1
      have i2 := inv.next hw hx hp o5 st3
      repeat (first | refine qS ?_ | refine xB ?_ | refine qA ?_ | refine qJ rfl rfl ?_)
      refine wo_add rfl rfl rfl (by omega) (by omega) ?_
      repeat (first | refine qG ?_ | refine qE rfl rfl ?_)
      refine xN ?_
      refine wg_le (.put 0 (.slice f t o l.length c ex) (.put 4 vb1 (.put 5 (.int .i64 ((i + 1 : Nat) : Int)) .nil))) ?_ ⟨rfl, rfl, rfl, trivial⟩
      exact ih (i + 1, vb1) A6 (by simp only; omega) i2
  · have hge : i = l.length := by
      have h1 : ¬ (i : Int) < (l.length : Int) := hge
      have := inv.le
      omega
    subst hge
    rw [putL_ok h200 inv.ok]
    refine wg_exit rfl ?_
    repeat (first | refine qO ?_ | refine qA ?_ | refine qG ?_ | refine qJ rfl rfl ?_ | refine qE rfl rfl ?_)
    refine qQ rfl ⟨vb, rfl, inv.buf, inv.only, fun g hg => .inr (inv.own g hg)⟩
end Go.Proofs.YtiecclkgjcnaoaaGreat.Ae
namespace Go.Proofs.YtiecclkgjcnaoaaGreat.Ae
open Go.AE
set_option linter.unusedVariables false
set_option maxRecDepth 100000
structure EB (A A1 : AW) (vb : AV) (bs : List Nat) : Prop where
  buf : Buf A1 1 vb bs.length (bys bs)
  only : Only A A1 none'
  own : ∀ g, vb.isFam g → A.nxt ≤ g
theorem EB.step {A A1 A2 : AW} {vb vb' : AV} {bs xs : List Nat} (hw : Wf A) (h : EB A A1 vb bs) (k : BStep A1 A2 vb vb' bs xs) : EB A A2 vb' (bs ++ xs) :=
  ⟨k.buf, Only.fresh hw h.only k.only h.own, fun g hg => (k.grow g hg).elim (h.own g) fun h' => Nat.le_trans h.only.nxt h'⟩
theorem EB.quiet {A A1 A2 : AW} {vb : AV} {bs : List Nat} (h : EB A A1 vb bs) (o : Only A1 A2 none') : EB A A2 vb bs := ⟨h.buf.keep o fun _ _ h => h, h.only.same o, h.own⟩
theorem append_lit {E : Env} {A : AW} {t e : TypeId} {d de : ATy} {z : List AV} {x : AV} {f u n m : Nat} {cs xs : List AV} (ht : E.tys.get t = some d) (hs : d.desc = .slice e) (he : E.tys.get e = some de) (hz : de.zero = some z)
    (hw : Wf A) (g1 : A.heap.get f = some (.cells u false de.size cs)) (g2 : cs.length = n * de.size) (hx : srcA A de.size x = some (m, xs)) (hl : xs.length = m * de.size) (hm : 0 < m) (h1 : 1 ≤ de.size) (hr : roomA (n + m) de.bytes = true) :
    ∃ v' A1, appendA E t (.slice f u 0 n n true) x A = .val v' A1 ∧ Grew A A1 de.size (.slice f u 0 n n true) v' (n + m) (cs ++ xs) := by
  have o2 : Only A (A.add (.cells 0 false de.size (cs ++ xs))) none' := Only.add hw _
  have e0 : Nat.beq m 0 = false := by rw [beq_eq]; exact decide_eq_false (by omega)
  have e1 : Nat.ble 1 de.size = true := Nat.ble_eq_true_of_le h1
  have e2 : Nat.ble (Nat.add n m) n = false := by
    rw [ble_dec]
    exact decide_eq_false (by show ¬ n + m ≤ n; omega)
  have e3 : takeN (Nat.mul n de.size) (dropN 0 cs) = some cs := by
    rw [show dropN 0 cs = cs from rfl, takeN_some _ _ (by rw [g2]; exact Nat.le_refl _), show Nat.mul n de.size = n * de.size from rfl, ← g2, List.take_length]
  have hr' : roomA (Nat.add n m) de.bytes = true := hr
  refine ⟨.slice A.nxt 0 0 (Nat.add n m) (Nat.add n m) false, A.add (.cells 0 false de.size (cs ++ xs)), ?_, .inr ⟨_, 0, rfl, by rw [AW.add_get, if_pos rfl], by rw [List.length_append, g2, hl, Nat.add_mul], by show 0 < n + m; omega⟩, o2.mono fun g h => h.elim, fun g hg => .inr ?_⟩
  · unfold appendA
    simp only [ht, hs, he, hz, hx, e0, cond_false, e1, cond_true, appendRow, g1, Nat.beq_refl, Bool.and_self, e2, hr', e3]
    rfl
  · cases hg
    exact Nat.le_refl _
def encS (s : Str) : List Nat := grp s.length ++ s
theorem src_lit {A : AW} {f : Nat} {x : AV} (h : A.heap.get f = some (.cells 0 false 1 [x])) : srcA A 1 (.slice f 0 0 1 1 true) = some (1, [x]) := by
  simp only [srcA, readCells, h]
  rfl
theorem refUint1_spec {K : FuncId} {A : AW} {f k n : Nat} {bs : List Nat} (hw : Wf A) (h : A.heap.get f = some (.cells 0 false 1 (bys bs))) (hk : bs.length = k) (hb : k < 1000) (hn : n < 128) :
    CallP (ES K) 115 [.slice f 0 0 k k true, .int .u64 (n : Int)] A fun r A1 => BStep A A1 (.slice f 0 0 k k true) r bs [n] := by
  refine call_of rfl rfl rfl ?_
  repeat (first | refine qO ?_ | refine qY ?_ | refine qA ?_ | refine qG ?_ | refine qE rfl rfl ?_)
  refine wg_loop ?_
  repeat (first | refine qO ?_ | refine qA ?_ | refine qG ?_ | refine qJ rfl rfl ?_ | refine wo_geq rfl rfl rfl ?_)
  refine qV rfl (fun hge => ?_) fun hlt => ?_
  · have hge : (128 : Int) ≤ (n : Int) := hge
    omega
  refine wg_exit rfl ?_
  repeat (first | refine qO ?_ | refine qA ?_ | refine qJ rfl rfl ?_)
  refine wo_conv rfl rfl rfl rfl (n : Int) (by rw [wrap_u8n, Nat.mod_eq_of_lt (by omega)]) ?_
  refine wo_buildSlice rfl rfl rfl ?_
  refine wo_A (fun A1 => Only A A1 none' ∧ A1.heap.get A.nxt = some (.cells 0 false 1 [.int .u8 (n : Int)])) ⟨Only.add hw _, by rw [AW.add_get, if_pos rfl]; rfl⟩ ?_
  rintro A1 ⟨o1, h1⟩
  generalize A.nxt = f1 at h1
  have h := o1.keep _ _ h fun h => h
  refine wo_append rfl rfl rfl rfl rfl (append_lit (n := k) (m := 1) (de := d5) rfl rfl rfl rfl o1.wf h (by rw [bys_length, hk]; exact (Nat.mul_one _).symm) (src_lit h1) rfl (by decide) (by decide) (room_of (by omega) (by decide))) ?_
  intro r A2 g
  repeat (first | refine qG ?_ | refine qE rfl rfl ?_)
  exact qQ rfl (BStep.of o1 (by
    rw [hk]
    exact g))
theorem refText1_spec {K : FuncId} {A : AW} {f k : Nat} {bs s : List Nat} (hw : Wf A) (h : A.heap.get f = some (.cells 0 false 1 (bys bs))) (hk : bs.length = k) (hb : k < 1000) (hs : s.length < 128) :
    CallP (ES K) 79 [.slice f 0 0 k k true, .str s] A fun r A1 => BStep A A1 (.slice f 0 0 k k true) r bs (encS s) := by
  refine call_of rfl rfl rfl ?_
  repeat (first | refine qO ?_ | refine qA ?_ | refine qG ?_ | refine qJ rfl rfl ?_ | refine qE rfl rfl ?_ | refine wo_lenStr rfl rfl rfl ?_)
  refine wo_conv rfl rfl rfl rfl (s.length : Int) (wrap_u64n (by omega)) ?_
  refine qU rfl rfl orc_cons rfl (refUint1_spec hw h hk hb (by omega)) ?_
  intro r A2 k
  repeat refine qJ rfl rfl ?_
  refine wo_append rfl rfl rfl rfl rfl (append_buf (de := d5) (m := s.length) (xs := bys s) rfl rfl rfl rfl k.only.wf k.buf ?_ ?_ (by decide) (room_of (by rw [List.length_append, List.length_singleton]; omega) (by decide))) ?_
  · show (bif Nat.beq 1 1 then some (len s, cellsOfStr s) else none) = _
    rw [bys_str, len_eq]
    rfl
  · rw [bys_length]; exact (Nat.mul_one _).symm
  intro v' A3 g
  repeat (first | refine qG ?_ | refine qE rfl rfl ?_)
  unfold encS
  rw [grp_lt hs]
  exact qQ rfl (k.trans hw (BStep.of' g (by simp; omega) (by rw [bys_append (bs ++ [s.length]) s])))
theorem rnum_spec {K : FuncId} {A : AW} {v : AV} {bs : List Nat} {n : Nat} (hw : Wf A) (h : Buf A 1 v bs.length (bys bs)) (hl : bs.length < 1000000000000) (hn : n < 9223372036854775808) :
    CallP (ES K) 78 [v, .int .i64 (n : Int)] A fun r A1 => BStep A A1 v r bs (grp n) := by
  refine call_of rfl rfl rfl ?_
  repeat (first | refine qO ?_ | refine qA ?_ | refine qG ?_ | refine qJ rfl rfl ?_ | refine qE rfl rfl ?_)
  refine wo_conv rfl rfl rfl rfl (n : Int) (wrap_u64n (by omega)) ?_
  refine qU rfl rfl orc_cons rfl (refUint_spec hw h hl (by omega)) ?_
  intro r A1 k
  repeat (first | refine qG ?_ | refine qE rfl rfl ?_)
  exact qQ rfl k
def encK (t : Ty') : List Nat := t.1.toNat :: (if t.1 = 4 then encS t.2 else [])
theorem rtypw_spec {K : FuncId} {A : AW} {v : AV} {bs : List Nat} {t : Ty'} {void : Bool} (hw : Wf A) (h : Buf A 1 v bs.length (bys bs)) (hl : bs.length < 900000) (ht : tyOk void t) (hs : t.2.length < 1000) :
    CallP (ES K) 81 [v, .agg (tyc t)] A fun r A1 => BStep A A1 v r bs (encK t) := by
  obtain ⟨k, s⟩ := t
  have hk : 0 ≤ k ∧ k ≤ 4 := by
    unfold tyOk at ht
    split at ht
    · rename_i h
      have h : k = 1 ∨ k = 2 ∨ k = 3 := h
      omega
    · split at ht
      · rename_i h
        have h : k = 4 := h
        omega
      · have h : k = 0 := ht.1
        omega
  obtain ⟨q, rfl⟩ : ∃ q : Nat, k = (q : Int) := ⟨k.toNat, by omega⟩
  refine call_of rfl rfl rfl ?_
  unfold tyc
  repeat (first | refine qO ?_ | refine qA ?_)
  refine wo_box rfl rfl rfl rfl ?_
  refine wo_A (fun A1 => Only A A1 none' ∧ A1.heap.get A.nxt = some (.cells 0 false 2 [.int .i64 (q : Int), .str s])) ⟨Only.add hw _, by rw [AW.add_get, if_pos rfl]; rfl⟩ ?_
  rintro A1 ⟨o1, hx⟩
  have sx := o1.wf _ _ hx
  have nx : ¬ v.isFam A.nxt := fun k => by
    have := h.row.under hw _ k
    omega
  generalize A.nxt = fx at hx sx nx
  have h1 := h.keep o1 fun _ _ h => h
  repeat (first | refine qO ?_ | refine qA ?_ | refine qG ?_ | refine qJ rfl rfl ?_ | refine qE rfl rfl ?_ | refine qI rfl rfl rfl ?_ | refine qP rfl rfl rfl rfl (by assumption) rfl ?_)
  refine wo_conv rfl rfl rfl rfl (q : Int) (by rw [wrap_u8n, Nat.mod_eq_of_lt (by omega)]) ?_
  refine wo_buildSlice rfl rfl rfl ?_
  refine wo_append rfl rfl rfl rfl rfl (append_one (n := bs.length) (de := d5) rfl rfl rfl rfl o1.wf h1 rfl (by decide) (room_of (by omega) (by decide))) ?_
  intro v2 A2 g
  have k1 : BStep A A2 v v2 bs [q] := BStep.of o1 (xs := [q]) g
  have hx := g.only.keep _ _ hx nx
  repeat (first | refine qO ?_ | refine qA ?_ | refine qG ?_ | refine qE rfl rfl ?_ | refine qI rfl rfl rfl ?_ | refine qP rfl rfl rfl rfl (by assumption) rfl ?_ | refine xD rfl rfl rfl ?_)
  have htn : encK ((q : Int), s) = [q] ++ (if (q : Int) = 4 then encS s else []) := by
    unfold encK
    simp
  rw [htn]
  refine qV rfl (fun c4 => ?_) fun c4 => ?_
  · rw [if_pos c4]
    repeat (first | refine qO ?_ | refine qA ?_ | refine qJ rfl rfl ?_ | refine qI rfl rfl rfl ?_ | refine qP rfl rfl rfl rfl (by assumption) rfl ?_)
    refine qU rfl rfl orc_cons rfl (refText_spec (s := s) k1.only.wf k1.buf (by simp; omega) (by have : s.length < 1000 := hs; omega)) ?_
    intro r A3 k2
    repeat (first | refine qG ?_ | refine qE rfl rfl ?_)
    exact qQ rfl (k1.trans hw k2)
  · rw [if_neg c4, List.append_nil]
    repeat (first | refine qO ?_ | refine qS ?_ | refine qA ?_ | refine qG ?_ | refine qJ rfl rfl ?_ | refine qE rfl rfl ?_)
    exact qQ rfl k1
end Go.Proofs.YtiecclkgjcnaoaaGreat.Ae
namespace Go.Proofs.YtiecclkgjcnaoaaGreat.Ae
open Go.AE
set_option linter.unusedVariables false
set_option maxRecDepth 100000
theorem ref_cplx {K : FuncId} {A : AW} {fr : Nat} {v : AV} {bs : List Nat} (hw : Wf A) (h : Rd A fr v bs) :
    CallP (ES K) 74 [.ptr fr 0 0] A fun r A1 => r = .tuple [.cplx .f64 (rdX bs).1.1 (rdX bs).1.2, .int .i64 ((rdX bs).2.1 : Int)] ∧ ∃ v', RStep A A1 fr v v' (bs.drop (rdX bs).2.2) := by
  unfold rdX
  refine call_of rfl rfl rfl ?_
  have hc := h.cell
  repeat (first | refine qO ?_ | refine qA ?_ | refine qG ?_ | refine qJ rfl rfl ?_ | refine qE rfl rfl ?_ | refine qI rfl rfl rfl ?_ | refine qW rfl rfl ?_ | refine qP rfl rfl rfl rfl (by assumption) rfl ?_)
  refine xJ rfl rfl rfl h.full.row.lenV ?_
  repeat (first | refine qG ?_ | refine xM rfl rfl rfl ?_)
  refine qV rfl (fun hlt => ?_) fun hge => ?_
  · rw [if_pos (Int.ofNat_lt.1 hlt)]
    repeat (first | refine qO ?_ | refine qA ?_ | refine qG ?_ | refine qE rfl rfl ?_)
    exact qQ rfl ⟨rfl, v, RStep.refl hw h⟩
  have h16 : 16 ≤ bs.length := by
    have : ¬ (bs.length : Int) < 16 := hge
    omega
  rw [if_neg (by omega)]
  repeat (first | refine qO ?_ | refine qS ?_ | refine qA ?_)
  refine wo_alloc rfl rfl rfl ?_
  repeat (first | refine qO ?_ | refine qY ?_ | refine qA ?_ | refine qG ?_ | refine qE rfl rfl ?_)
  have o1 : Only A (A.add (.cells 0 false 1 [.int .u64 0, .int .u64 0])) none' := Only.add hw _
  refine wg_A (fun A1 => Only A A1 none' ∧ A1.heap.get A.nxt = some (.cells 0 false 1 [.int .u64 ((leA bs (min 0 8) : Nat) : Int), .int .u64 ((leA (bs.drop 8) (0 - 8) : Nat) : Int)])) ⟨o1, by rw [AW.add_get, if_pos rfl]; rfl⟩ ?_
  rintro A1 ⟨oA1, hA1⟩
  refine wg_loop ?_
  refine wg_le (.put 0 (.ptr fr 0 0) (.put 4 (.ptr A.nxt 0 0) (.put 5 (.int .i64 ((0 : Nat) : Int)) .nil))) ?_ ⟨rfl, rfl, rfl, trivial⟩
  refine wg_ind (ι := Nat) (fun i => 16 - i) (fun i => .put 0 (.ptr fr 0 0) (.put 4 (.ptr A.nxt 0 0) (.put 5 (.int .i64 (i : Int)) .nil)))
    (fun i A1 => i ≤ 16 ∧ Only A A1 none' ∧ A1.heap.get A.nxt = some (.cells 0 false 1 [.int .u64 ((leA bs (min i 8) : Nat) : Int), .int .u64 ((leA (bs.drop 8) (i - 8) : Nat) : Int)])) ?_ 0 A1 ⟨by decide, oA1, hA1⟩
  clear oA1 hA1
  rintro i A1 ⟨hi, oA1, hA1⟩ ih
  have hr1 := h.keep oA1 fun _ _ h => h
  have hc1 := hr1.cell
  repeat (first | refine qO ?_ | refine qA ?_ | refine qG ?_ | refine qJ rfl rfl ?_ | refine xM rfl rfl rfl ?_)
  refine qV rfl (fun hlt => ?_) fun hge => ?_
  · have hlt : i < 16 := Int.ofNat_lt.1 hlt
    obtain ⟨b, hb⟩ : ∃ b, bs[i]? = some b := ⟨bs[i], List.getElem?_eq_getElem (by omega)⟩
    have hb256 := h.lt b (List.mem_of_getElem? hb)
    obtain ⟨f, t, o, c, ex, ro, all, rfl, h1, h2, h3⟩ := hr1.full.row.byte hb
    have hd : i / 8 < 2 := by omega
    have hq : intOp (ES K) .quo .i64 (i : Int) .i64 8 A1 = .val (.int .i64 ((i / 8 : Nat) : Int)) A1 := by
      rw [int_quo (by decide), show ((i : Int).tdiv 8) = ((i / 8 : Nat) : Int) from rfl, wrap_i64 (by omega) (by omega)]
    generalize hn : (if i / 8 = 0 then leA bs (min i 8) else leA (bs.drop 8) (i - 8)) = n
    have hcell : nth [AV.int .u64 ((leA bs (min i 8) : Nat) : Int), AV.int .u64 ((leA (bs.drop 8) (i - 8) : Nat) : Int)] (Nat.add 0 (Nat.mul (i / 8) 1)) = some (.int .u64 (n : Int)) := by
      rcases Nat.lt_or_ge i 8 with h8 | h8
      · have e : i / 8 = 0 := by omega
        rw [e, if_pos rfl] at hn
        rw [e, ← hn]
        rfl
      · have e : i / 8 = 1 := by omega
        rw [e, if_neg (by decide)] at hn
        rw [e, ← hn]
        rfl
    have hn64 : n < 18446744073709551616 := by
      rw [← hn]
      split <;> exact leA_lt _ _
    repeat (first | refine qO ?_ | refine qS ?_ | refine qY ?_)
    refine wg_draw rfl ?_
    repeat (first
      | (refine xC rfl rfl rfl rfl rfl ?_
         repeat (first | refine qG ?_ | refine qJ rfl rfl ?_)
         refine ⟨rfl, ?_⟩))
    refine xC rfl rfl rfl rfl rfl ?_
    refine wo_bin rfl rfl rfl hq ?_
    repeat refine qG ?_
    refine ⟨rfl, ?_⟩
    repeat (first
      | (refine xC rfl rfl rfl rfl rfl ?_
         repeat (first | refine qG ?_ | refine qJ rfl rfl ?_)
         refine ⟨rfl, ?_⟩))
    refine xC rfl rfl rfl rfl rfl ?_
    refine wo_bin rfl rfl rfl hq ?_
    repeat refine qG ?_
    refine ⟨rfl, ?_⟩
    refine xC rfl rfl rfl rfl rfl ?_
    refine wo_indexArrAddr (i / 8) rfl rfl rfl rfl rfl rfl rfl hd ?_
    repeat refine qG ?_
    refine ⟨rfl, ?_⟩
    refine xI rfl rfl rfl rfl rfl rfl rfl ?_
    refine qP rfl rfl rfl rfl hA1 hcell ?_
    repeat refine qG ?_
    refine ⟨rfl, _, rfl, ?_⟩
    repeat (first
      | (refine xC rfl rfl rfl rfl rfl ?_
         repeat (first | refine qG ?_ | refine qJ rfl rfl ?_ | refine qI rfl rfl rfl ?_ | refine qW rfl rfl ?_)
         refine ⟨rfl, ?_⟩)
      | (refine xI rfl rfl rfl rfl rfl rfl rfl ?_
         repeat (first | refine qG ?_ | refine qP rfl rfl rfl rfl (by assumption) rfl ?_)
         refine ⟨rfl, _, rfl, ?_⟩))
    refine xC rfl rfl rfl rfl rfl ?_
    refine xF i rfl rfl rfl rfl rfl h2 ?_
    repeat refine qG ?_
    refine ⟨rfl, ?_⟩
    refine xI rfl rfl rfl rfl rfl rfl rfl ?_
    refine qP rfl rfl rfl rfl h1 h3 ?_
    repeat refine qG ?_
    refine ⟨rfl, _, rfl, ?_⟩
    refine xI rfl rfl rfl rfl rfl rfl rfl ?_
    refine wo_conv rfl rfl rfl rfl (b : Int) (wrap_u64n (by omega)) ?_
    repeat refine qG ?_
    refine ⟨rfl, _, rfl, ?_⟩
    repeat (first
      | (refine xC rfl rfl rfl rfl rfl ?_
         repeat (first | refine qG ?_ | refine qJ rfl rfl ?_)
         refine ⟨rfl, ?_⟩))
    refine xC rfl rfl rfl rfl rfl ?_
    refine wo_bin rfl rfl rfl (v := .int .i64 ((i % 8 : Nat) : Int)) (by rw [int_rem (by decide)]; rfl) ?_
    repeat refine qG ?_
    refine ⟨rfl, ?_⟩
    refine xC rfl rfl rfl rfl rfl ?_
    refine wo_bin rfl rfl rfl (v := .int .i64 ((8 * (i % 8) : Nat) : Int)) (by rw [int_mul, wrap_i64 (by omega) (by omega)]; rfl) ?_
    repeat refine qG ?_
    refine ⟨rfl, ?_⟩
    refine xC rfl rfl rfl rfl rfl ?_
    refine wo_bin rfl rfl rfl (shl8 (i := i % 8) (by omega)) ?_
    repeat refine qG ?_
    refine ⟨rfl, ?_⟩
    refine xC rfl rfl rfl rfl rfl ?_
    refine wo_bin rfl rfl rfl (v := .int .u64 ((n ||| (b * 2 ^ (8 * (i % 8)) % 18446744073709551616) : Nat) : Int)) (by rw [int_or]; exact congrArg (fun z => OpR.val (.int .u64 z) A1) (or64 hn64 (Nat.mod_lt _ (by decide)))) ?_
    repeat refine qG ?_
    refine ⟨rfl, ?_⟩
    refine xC rfl rfl rfl rfl rfl ?_
    refine wo_indexArrAddr (i / 8) rfl rfl rfl rfl rfl rfl rfl hd ?_
    repeat refine qG ?_
    refine ⟨rfl, ?_⟩
    have hput : putN (Nat.add 0 (Nat.mul (i / 8) 1)) [AV.int .u64 ((n ||| (b * 2 ^ (8 * (i % 8)) % 18446744073709551616) : Nat) : Int)] [AV.int .u64 ((leA bs (min i 8) : Nat) : Int), AV.int .u64 ((leA (bs.drop 8) (i - 8) : Nat) : Int)] =
        some [AV.int .u64 ((leA bs (min (i + 1) 8) : Nat) : Int), AV.int .u64 ((leA (bs.drop 8) (i + 1 - 8) : Nat) : Int)] := by
      rcases Nat.lt_or_ge i 8 with h8 | h8
      · have e : i / 8 = 0 := by omega
        rw [e, if_pos rfl] at hn
        have e1 : min (i + 1) 8 = min i 8 + 1 := by omega
        have e2 : i % 8 = min i 8 := by omega
        have e3 : i + 1 - 8 = i - 8 := by omega
        have e4 : bs.getD (min i 8) 0 = b := by rw [show min i 8 = i from by omega, List.getD_eq_getElem?_getD, hb]; rfl
        rw [e, e1, e3, ← hn, e2]
        show some _ = some _
        rw [← e4]
        rfl
      · have e : i / 8 = 1 := by omega
        rw [e, if_neg (by decide)] at hn
        have e1 : min (i + 1) 8 = min i 8 := by omega
        have e2 : i % 8 = i - 8 := by omega
        have e3 : i + 1 - 8 = (i - 8) + 1 := by omega
        have e4 : (bs.drop 8).getD (i - 8) 0 = b := by rw [List.getD_eq_getElem?_getD, List.getElem?_drop, show 8 + (i - 8) = i from by omega, hb]; rfl
        rw [e, e1, e3, ← hn, e2]
        show some _ = some _
        rw [← e4]
        rfl
    refine wd_act rfl rfl rfl ?_
    refine qZ rfl rfl rfl rfl rfl rfl hA1 hput ?_
    repeat refine qG ?_
    refine ⟨⟨.inl (by show bit 1048575 13 = true; rfl), .inl (by show bit 1048575 12 = true; rfl), .inl (by show bit 1048575 9 = true; rfl), .inl (by show bit 1048575 5 = true; rfl), trivial⟩, wd_nil ?_⟩
    repeat (first | refine xB ?_ | refine qA ?_ | refine qJ rfl rfl ?_)
    refine wo_add rfl rfl rfl (by omega) (by omega) ?_
    repeat (first | refine qG ?_ | refine qE rfl rfl ?_)
    refine xN ?_
    refine wg_le (.put 0 (.ptr fr 0 0) (.put 4 (.ptr A.nxt 0 0) (.put 5 (.int .i64 ((i + 1 : Nat) : Int)) .nil))) ?_ ⟨rfl, rfl, rfl, trivial⟩
    refine ih (i + 1) _ (by omega) ⟨hlt, ?_, by rw [AW.put_get, if_pos rfl]⟩
    have op := Only.put (x := .cells 0 false 1 [AV.int .u64 ((leA bs (min (i + 1) 8) : Nat) : Int), AV.int .u64 ((leA (bs.drop 8) (i + 1 - 8) : Nat) : Int)]) oA1.wf (oA1.wf _ _ hA1)
    exact ⟨op.wf, Nat.le_trans oA1.nxt op.nxt, fun g F hg hn => op.keep g F (oA1.keep g F hg hn) fun e => by
      have := hw g F hg
      cases e
      omega⟩
  · have hge : i = 16 := by
      have : ¬ (i : Int) < 16 := hge
      omega
    subst hge
    refine wg_exit rfl ?_
    repeat (first | refine qO ?_ | refine qA ?_ | refine qJ rfl rfl ?_ | refine qI rfl rfl rfl ?_ | refine qW rfl rfl ?_ | refine qP rfl rfl rfl rfl (by assumption) rfl ?_)
    refine wo_slice rfl rfl rfl rfl rfl (Full.drop (de := d5) (k := 16) rfl rfl rfl hr1.full h16) ?_
    rintro r ⟨hr2, hrs⟩
    have hr3 := Rd.dropped hr2
    have st := hr1.store oA1.wf hr3 hrs fun b hb => h.lt b (List.mem_of_mem_drop hb)
    have hne : ¬ one fr A.nxt := fun e => by
      have := hw _ _ h.cell
      cases e
      omega
    have hA2 := st.only.keep _ _ hA1 hne
    repeat (first | refine qI rfl rfl rfl ?_ | refine qW rfl rfl ?_)
    refine wo_storeV rfl rfl hr3.cells rfl rfl hc1 rfl ?_
    repeat (first | refine qO ?_ | refine qA ?_ | refine qG ?_)
    refine wo_indexArrAddr 0 rfl rfl rfl rfl rfl rfl rfl (by decide) ?_
    repeat refine qP rfl rfl rfl rfl (by assumption) rfl ?_
    refine wo_indexArrAddr 1 rfl rfl rfl rfl rfl rfl rfl (by decide) ?_
    repeat refine qP rfl rfl rfl rfl (by assumption) rfl ?_
    refine qU rfl rfl orc_cons rfl of_spec ?_
    rintro x A2 ⟨rfl, rfl⟩
    repeat (first | refine qG ?_ | refine qE rfl rfl ?_)
    refine qQ rfl ⟨rfl, r, ?_⟩
    exact ⟨st.rd, ⟨st.only.wf, Nat.le_trans oA1.nxt st.only.nxt, fun g F hg hn => st.only.keep g F (oA1.keep g F hg fun h => h) hn⟩, st.sub⟩
end Go.Proofs.YtiecclkgjcnaoaaGreat.Ae
