/-
  LEAST: the law's walk.
-/
import Derived.Test.YtokieeiohfcgdaaAiSyT9
namespace Go.Proofs.Ytokieeiohfcgdaa.Ae
open Go.AE
set_option linter.unusedVariables false
set_option maxRecDepth 100000

theorem short_spec {K : FuncId} {A : AW} {v : AV} {l : List Str} (h : Row A 1 v l.length (sts l)) (hn : l.length < 9223372036854775808) :
    CallP (ES K) 22 [v] A fun r A1 => (∃ b, r = .bool b) ∧ A1 = A := by
  refine call_of rfl rfl rfl ?_
  repeat (first | refine wg_seq ?_ | refine wg_block ?_ | refine wg_region ?_ | refine wo_nil ?_ | refine wo_assign rfl rfl ?_)
  refine wg_loop ?_
  refine wg_le (.put 0 v (.put 3 (.int .i64 ((0 : Nat) : Int)) .nil)) ?_ ⟨rfl, rfl, trivial⟩
  refine wg_ind (ι := Nat) (fun i => l.length - i) (fun i => .put 0 v (.put 3 (.int .i64 (i : Int)) .nil)) (fun i A1 => A1 = A ∧ i ≤ l.length) ?_ 0 A ⟨rfl, Nat.zero_le _⟩
  rintro i A1 ⟨rfl, hi⟩ ih
  repeat (first | refine wg_seq ?_ | refine wg_region ?_ | refine wo_move rfl rfl ?_)
  refine wo_len rfl rfl rfl h.lenV ?_
  repeat (first | refine wo_nil ?_ | refine wo_lss rfl rfl rfl ?_)
  refine wg_dec rfl (fun hlt => ?_) fun hge => ?_
  · have hlt : i < l.length := Int.ofNat_lt.1 hlt
    obtain ⟨s, hs⟩ : ∃ s, l[i]? = some s := ⟨l[i], List.getElem?_eq_getElem hlt⟩
    obtain ⟨f, t, o, c, ex, ro, all, e0, hh, _, hat⟩ := row_str h hs
    repeat (first | refine wg_seq ?_ | refine wg_skip ?_ | refine wg_block ?_ | refine wg_region ?_ | refine wo_move rfl rfl ?_)
    refine wo_indexAddr i rfl (congrArg some e0) rfl rfl rfl hlt ?_
    refine wo_load rfl rfl rfl rfl hh hat ?_
    repeat (first | refine wo_nil ?_ | refine wo_gtr rfl rfl rfl ?_ | refine wo_lenStr rfl rfl rfl ?_)
    refine wg_dec rfl (fun h40 => ?_) fun h40 => ?_
    · repeat (first | refine wg_seq ?_ | refine wg_region ?_ | refine wo_nil ?_ | refine wo_assign rfl rfl ?_)
      exact wg_ret rfl ⟨⟨_, rfl⟩, rfl⟩
    · repeat (first | refine wg_skip ?_ | refine wg_inBlock ?_ | refine wg_region ?_ | refine wo_move rfl rfl ?_)
      refine wo_add rfl rfl rfl (by omega) (by omega) ?_
      repeat (first | refine wo_nil ?_ | refine wo_assign rfl rfl ?_)
      refine wg_inLoop ?_
      refine wg_le (.put 0 v (.put 3 (.int .i64 ((i + 1 : Nat) : Int)) .nil)) ?_ ⟨rfl, rfl, trivial⟩
      exact ih (i + 1) A1 (by omega) ⟨rfl, hlt⟩
  · refine wg_exit rfl ?_
    repeat (first | refine wg_seq ?_ | refine wg_region ?_ | refine wo_move rfl rfl ?_)
    refine wo_len rfl rfl rfl h.lenV ?_
    repeat (first | refine wo_nil ?_ | refine wo_assign rfl rfl ?_ | refine wo_leq rfl rfl rfl ?_)
    exact wg_ret rfl ⟨⟨_, rfl⟩, rfl⟩
section
variable {E : Env} {C : FnE} {all rest : List Oper} {l : Kn} {A A1 : AW} {Q : Kn → AW → Prop} {d : Tmp} {ty : TypeId} {pos : String} {after : Array Edge}
theorem wo_binV {op : BinOp} {t t' : TypeId} {x y : Operand} {a b v : AV} (hd : Nat.blt d C.N = true) (hx : evO l x = some a) (hy : evO l y = some b) (hv : binA E op t a b A = .val v A) (h : WO E C all rest (.put d v l) A Q) :
    WO E C all (⟨some d, .binOp op t x y t', ty, pos, after, none⟩ :: rest) l A Q := by
  refine wo_val hd (fun F hF => ?_) h
  show liftR (binA E op t (ev F x) (ev F y) A) = _
  rw [hF.ev hx, hF.ev hy, hv]
  rfl
end
theorem stillLd {K : FuncId} {C : FnE} {l : Kn} {A : AW} {d : Option Tmp} {t : Tmp} {ty : TypeId} {pos : String} {after : Array Edge} {g : Option (Nat × Bool)} {f : Nat} {a : Int} {s : Str} (hl : l.find t = some (.ptr f 0 0)) (hf : A.heap.get f = some (.cells 0 false 2 [.int .i64 a, .str s])) :
    (∀ F, Kf C l F → execA (ES K) F ⟨d, .load 36 (.tmp t), ty, pos, after, g⟩ A = .val (.agg [.int .i64 a, .str s]) A) ∧ valEq (.agg [.int .i64 a, .str s]) (.agg [.int .i64 a, .str s]) = true := by
  refine ⟨fun F hF => ?_, ?_⟩
  · show liftR (loadA (ES K) 36 (ev F (.tmp t)) A) = _
    rw [hF.ev (x := .tmp t) (v := .ptr f 0 0) hl, loadN_eq (dt := d36) rfl rfl hf rfl]
    rfl
  · show (valEq (.int .i64 a) (.int .i64 a) && (strEq s s && true)) = true
    rw [stillInt, strEq_self]
    rfl
structure LI (A A1 : AW) (f7 f8 f9 f13 : Nat) (a b c m : Ty') : Prop where
  o : Only A A1 none'
  h7 : A1.heap.get f7 = some (.cells 0 false 2 [.int .i64 a.1, .str a.2])
  h8 : A1.heap.get f8 = some (.cells 0 false 2 [.int .i64 b.1, .str b.2])
  h9 : A1.heap.get f9 = some (.cells 0 false 2 [.int .i64 c.1, .str c.2])
  h13 : A1.heap.get f13 = some (.cells 0 false 2 [.int .i64 m.1, .str m.2])
theorem LI.keep {A A1 A2 : AW} {f7 f8 f9 f13 : Nat} {a b c m : Ty'} (h : LI A A1 f7 f8 f9 f13 a b c m) (k : Only A1 A2 none') : LI A A2 f7 f8 f9 f13 a b c m :=
  ⟨h.o.same k, k.keep _ _ h.h7 fun h => h, k.keep _ _ h.h8 fun h => h, k.keep _ _ h.h9 fun h => h, k.keep _ _ h.h13 fun h => h⟩
set_option maxHeartbeats 4000000 in
theorem least_spec {A : AW} {v0 v1 : AV} {ns ss : List Str} {a b c : Ty'} (hw : Wf A) (hr0 : Row A 1 v0 ns.length (sts ns)) (hr1 : Row A 1 v1 ss.length (sts ss)) (hl0 : ns.length < 9223372036854775808) (hl1 : ss.length < 9223372036854775808)
    (hsm : ∀ s ∈ ss, small s) (sa : small a.2) (sb : small b.2) (sc : small c.2) :
    CallP (ES 14) 7 [v0, v1, tv a, tv b, tv c] A fun r A1 => r = .bool true := by
  refine call_of rfl rfl rfl ?_
  unfold tv
  repeat (first | refine wg_seq ?_ | refine wg_region ?_)
  refine wo_box rfl rfl rfl rfl ?_
  refine wo_A (fun A1 => Only A A1 none' ∧ A1.heap.get A.nxt = some (.cells 0 false 2 [.int .i64 a.1, .str a.2])) ⟨Only.add hw _, by rw [AW.add_get, if_pos rfl]; rfl⟩ ?_
  rintro A1 ⟨o1, h7⟩
  generalize A.nxt = f7 at h7
  refine wo_box rfl rfl rfl rfl ?_
  refine wo_A (fun A2 => Only A1 A2 none' ∧ A2.heap.get A1.nxt = some (.cells 0 false 2 [.int .i64 b.1, .str b.2])) ⟨Only.add o1.wf _, by rw [AW.add_get, if_pos rfl]; rfl⟩ ?_
  rintro A2 ⟨o2, h8⟩
  generalize A1.nxt = f8 at h8
  have h7 := o2.keep _ _ h7 fun h => h
  have o12 := o1.same o2
  refine wo_box rfl rfl rfl rfl ?_
  refine wo_A (fun A3 => Only A2 A3 none' ∧ A3.heap.get A2.nxt = some (.cells 0 false 2 [.int .i64 c.1, .str c.2])) ⟨Only.add o12.wf _, by rw [AW.add_get, if_pos rfl]; rfl⟩ ?_
  rintro A3 ⟨o3, h9⟩
  generalize A2.nxt = f9 at h9
  have h7 := o3.keep _ _ h7 fun h => h
  have h8 := o3.keep _ _ h8 fun h => h
  have o13 := o12.same o3
  have hr0' := hr0.keep o13 fun _ _ h => h
  have hr1' := hr1.keep o13 fun _ _ h => h
  repeat (first | refine wg_seq ?_ | refine wg_region ?_ | refine wo_nil ?_ | refine wo_assign rfl rfl ?_)
  refine wo_orc rfl rfl rfl rfl ?_
  repeat (first | refine wo_nil ?_ | refine wo_not rfl rfl ?_)
  refine wg_false rfl ?_
  repeat (first | refine wg_seq ?_ | refine wg_skip ?_ | refine wg_region ?_ | refine wo_move rfl rfl ?_)
  refine wo_call rfl rfl orc_cons rfl (short_spec hr0' hl0) ?_
  rintro r A4 ⟨⟨b0, rfl⟩, e4⟩
  obtain rfl : A3 = A4 := e4.symm
  cases b0 with
  | false =>
    repeat (first | refine wg_seq ?_ | refine wg_region ?_ | refine wo_nil ?_ | refine wo_move rfl rfl ?_ | refine wo_assign rfl rfl ?_ | refine wo_not rfl rfl ?_ | refine wo_pick rfl rfl rfl ?_ | refine wo_off rfl rfl ?_ | refine wg_true rfl ?_)
    exact wg_ret rfl rfl
  | true =>
  repeat (first | refine wo_move rfl rfl ?_ | refine wo_not rfl rfl ?_ | refine wo_on rfl ?_)
  refine wo_call rfl rfl orc_cons rfl (short_spec hr1' hl1) ?_
  rintro r A4 ⟨⟨b0, rfl⟩, e4⟩
  obtain rfl : A3 = A4 := e4.symm
  cases b0 with
  | false =>
    repeat (first | refine wg_seq ?_ | refine wg_region ?_ | refine wo_nil ?_ | refine wo_move rfl rfl ?_ | refine wo_assign rfl rfl ?_ | refine wo_not rfl rfl ?_ | refine wo_pick rfl rfl rfl ?_ | refine wo_on rfl ?_ | refine wo_off rfl rfl ?_ | refine wg_true rfl ?_)
    exact wg_ret rfl rfl
  | true =>
  repeat (first | refine wo_move rfl rfl ?_ | refine wo_fieldAddr rfl rfl rfl ?_ | refine wo_load rfl rfl rfl rfl (by assumption) rfl ?_ | refine wo_gtr rfl rfl rfl ?_ | refine wo_not rfl rfl ?_ | refine wo_lenStr rfl rfl rfl ?_ | refine wo_pick rfl rfl rfl ?_ | refine wo_on rfl ?_)
  by_cases c1 : (40 : Int) < (a.2.length : Int)
  · refine wo_is 30 true rfl (decide_eq_true c1) ?_
    repeat (first | refine wg_seq ?_ | refine wg_region ?_ | refine wo_nil ?_ | refine wo_move rfl rfl ?_ | refine wo_assign rfl rfl ?_ | refine wo_pick rfl rfl rfl ?_ | refine wo_off rfl rfl ?_ | refine wg_true rfl ?_)
    exact wg_ret rfl rfl
  refine wo_is 30 false rfl (decide_eq_false c1) ?_
  repeat (first | refine wo_move rfl rfl ?_ | refine wo_fieldAddr rfl rfl rfl ?_ | refine wo_load rfl rfl rfl rfl (by assumption) rfl ?_ | refine wo_gtr rfl rfl rfl ?_ | refine wo_lenStr rfl rfl rfl ?_ | refine wo_pick rfl rfl rfl ?_ | refine wo_on rfl ?_)
  by_cases c2 : (40 : Int) < (b.2.length : Int)
  · refine wo_is 36 true rfl (decide_eq_true c2) ?_
    repeat (first | refine wg_seq ?_ | refine wg_region ?_ | refine wo_nil ?_ | refine wo_assign rfl rfl ?_ | refine wo_pick rfl rfl rfl ?_ | refine wo_off rfl rfl ?_ | refine wg_true rfl ?_)
    exact wg_ret rfl rfl
  refine wo_is 36 false rfl (decide_eq_false c2) ?_
  repeat (first | refine wo_nil ?_ | refine wo_fieldAddr rfl rfl rfl ?_ | refine wo_load rfl rfl rfl rfl (by assumption) rfl ?_ | refine wo_gtr rfl rfl rfl ?_ | refine wo_lenStr rfl rfl rfl ?_ | refine wo_pick rfl rfl rfl ?_ | refine wo_on rfl ?_)
  refine wg_dec rfl (fun c3 => ?_) fun c3 => ?_
  · repeat (first | refine wg_seq ?_ | refine wg_region ?_ | refine wo_nil ?_ | refine wo_assign rfl rfl ?_)
    exact wg_ret rfl rfl
  repeat (first | refine wg_seq ?_ | refine wg_skip ?_ | refine wg_region ?_ | refine wo_move rfl rfl ?_)
  refine wo_call rfl rfl orc_cons rfl (mk_spec o13.wf hr0' hr1') ?_
  rintro r A4 ⟨o4, ⟨he, rfl⟩ | ⟨he, fr, fm, vn, rfl, hi⟩⟩
  · repeat (first | refine wg_seq ?_ | refine wg_region ?_ | refine wo_nil ?_ | refine wo_move rfl rfl ?_ | refine wo_assign rfl rfl ?_ | refine wo_extract rfl rfl rfl ?_ | refine wo_neq rfl rfl rfl ?_)
    refine wg_dec rfl (fun _ => ?_) fun h => absurd he h
    repeat (first | refine wg_seq ?_ | refine wg_region ?_ | refine wo_move rfl rfl ?_)
    refine wo_binV (a := .nilp) (b := .nilp) (v := .bool true) rfl rfl rfl rfl ?_
    repeat (first | refine wo_nil ?_ | refine wo_assign rfl rfl ?_)
    exact wg_ret rfl rfl
  have o14 := o13.same o4
  have t : Tree (newT ns ss).1 := newT_tree (ns := ns) (ss := ss) (Prod.ext rfl he) hsm
  generalize (newT ns ss).1 = hs at hi t
  have h7 := o4.keep _ _ h7 fun h => h
  have h8 := o4.keep _ _ h8 fun h => h
  have h9 := o4.keep _ _ h9 fun h => h
  repeat (first | refine wg_seq ?_ | refine wg_region ?_ | refine wo_nil ?_ | refine wo_move rfl rfl ?_ | refine wo_assign rfl rfl ?_ | refine wo_extract rfl rfl rfl ?_ | refine wo_neq rfl rfl rfl ?_)
  refine wg_dec rfl (fun h => absurd rfl h) fun _ => ?_
  repeat (first | refine wg_seq ?_ | refine wg_skip ?_ | refine wg_region ?_ | refine wo_move rfl rfl ?_)
  refine wo_loadN rfl rfl rfl rfl h7 rfl ?_
  refine wo_call rfl rfl orc_cons rfl (real_spec (x := a) o14.wf hi) ?_
  rintro r A5 ⟨rfl, o5⟩
  have o15 := o14.same o5
  have hi5 := hi.keep o5
  have h7 := o5.keep _ _ h7 fun h => h
  have h8 := o5.keep _ _ h8 fun h => h
  have h9 := o5.keep _ _ h9 fun h => h
  repeat (first | refine wo_move rfl rfl ?_ | refine wo_not rfl rfl ?_)
  by_cases ra : realT hs a
  · refine wo_is 56 false rfl (by rw [decide_eq_true ra]; rfl) ?_
    repeat (first | refine wo_move rfl rfl ?_ | refine wo_on rfl ?_)
    refine wo_loadN rfl rfl rfl rfl h8 rfl ?_
    repeat refine wo_on rfl ?_
    refine wo_call rfl rfl orc_cons rfl (real_spec (x := b) o15.wf hi5) ?_
    rintro r A6 ⟨rfl, o6⟩
    have o16 := o15.same o6
    have hi6 := hi5.keep o6
    have h7 := o6.keep _ _ h7 fun h => h
    have h8 := o6.keep _ _ h8 fun h => h
    have h9 := o6.keep _ _ h9 fun h => h
    repeat (first | refine wo_move rfl rfl ?_ | refine wo_not rfl rfl ?_ | refine wo_pick rfl rfl rfl ?_ | refine wo_on rfl ?_)
    by_cases rb : realT hs b
    · refine wo_is 62 false rfl (by rw [decide_eq_true rb]; rfl) ?_
      repeat (first | refine wo_move rfl rfl ?_ | refine wo_on rfl ?_)
      refine wo_loadN rfl rfl rfl rfl h9 rfl ?_
      repeat refine wo_on rfl ?_
      refine wo_call rfl rfl orc_cons rfl (real_spec (x := c) o16.wf hi6) ?_
      rintro r A7 ⟨rfl, o7⟩
      have o17 := o16.same o7
      have hi7 := hi6.keep o7
      have h7 := o7.keep _ _ h7 fun h => h
      have h8 := o7.keep _ _ h8 fun h => h
      have h9 := o7.keep _ _ h9 fun h => h
      repeat (first | refine wo_nil ?_ | refine wo_not rfl rfl ?_ | refine wo_pick rfl rfl rfl ?_ | refine wo_on rfl ?_)
      refine wg_if rfl (fun hb => ?_) fun hb => ?_
      · repeat (first | refine wg_seq ?_ | refine wg_region ?_ | refine wo_nil ?_ | refine wo_assign rfl rfl ?_)
        exact wg_ret rfl rfl
      have rc : realT hs c := Decidable.byContradiction fun h => by
        have hb : (!decide (realT hs c)) = false := hb
        rw [decide_eq_false h] at hb
        cases hb
      have ta := tp_real ra
      have tb := tp_real rb
      have tc := tp_real rc
      repeat (first | refine wg_seq ?_ | refine wg_skip ?_ | refine wg_region ?_ | refine wo_move rfl rfl ?_)
      refine wo_loadN rfl rfl rfl rfl h7 rfl ?_
      refine wo_loadN rfl rfl rfl rfl h8 rfl ?_
      refine wo_call rfl rfl orc_cons rfl (merge_spec (x := a) (y := b) o17.wf hi7 t.good t.len sa sb) ?_
      rintro r A8 ⟨rfl, o8⟩
      have o18 := o17.same o8
      unfold tv
      refine wo_alloc rfl rfl rfl ?_
      refine wo_store rfl rfl rfl rfl rfl rfl (by rw [AW.add_get, if_pos rfl]) rfl ?_
      refine wo_A (fun A9 => Only A8 A9 none' ∧ A9.heap.get A8.nxt = some (.cells 0 false 2 [.int .i64 (mergeT hs a b).1, .str (mergeT hs a b).2])) ⟨made o18.wf, by rw [AW.put_get, if_pos rfl]; rfl⟩ ?_
      rintro A9 ⟨o9, h13⟩
      generalize A8.nxt = f13 at h13
      have o89 := o8.same o9
      have L : LI A A9 f7 f8 f9 f13 a b c (mergeT hs a b) := ⟨o17.same o89, o89.keep _ _ h7 fun h => h, o89.keep _ _ h8 fun h => h, o89.keep _ _ h9 fun h => h, h13⟩
      have hi9 := hi7.keep o89
      obtain ⟨p1, p2, p3, p4⟩ := merge_lub t ta tb
      obtain ⟨q1, q2, q3, q4⟩ := merge_lub t tb tc
      have sm := merge_small t sa sb
      have e1 := merge_comm t ta tb
      have e5 := merge_assoc t ta tb tc
      have f1 := (fits_le t ta p1).2 p2
      have f2 := (fits_le t tb p1).2 p3
      repeat (first | refine wg_seq ?_ | refine wo_nil ?_)
      refine wg_draw rfl ?_
      refine wd_read rfl rfl rfl rfl rfl rfl rfl ?_
      try refine wo_on rfl ?_
      refine wo_loadN rfl rfl rfl rfl L.h13 rfl ?_
      repeat refine wo_nil ?_
      refine ⟨rfl, _, rfl, ?_⟩
      repeat (first
        | (refine wd_pure rfl rfl rfl rfl rfl ?_
           repeat (first | refine wo_nil ?_ | refine wo_move rfl rfl ?_)
           refine ⟨rfl, ?_⟩))
      refine wd_read rfl rfl rfl rfl rfl rfl rfl ?_
      try refine wo_on rfl ?_
      refine wo_loadN rfl rfl rfl rfl L.h8 rfl ?_
      repeat refine wo_nil ?_
      refine ⟨rfl, _, rfl, ?_⟩
      refine wd_read rfl rfl rfl rfl rfl rfl rfl ?_
      try refine wo_on rfl ?_
      refine wo_loadN rfl rfl rfl rfl L.h7 rfl ?_
      repeat refine wo_nil ?_
      refine ⟨rfl, _, rfl, ?_⟩
      refine wd_act rfl rfl rfl ?_
      refine wo_call rfl rfl orc_cons rfl (merge_spec (x := b) (y := a) L.o.wf hi9 t.good t.len sb sa) ?_
      rintro r A10 ⟨rfl, o10⟩
      have L := L.keep o10
      have hi10 := hi9.keep o10
      repeat refine wo_nil ?_
      refine ⟨?_, ?_⟩
      · repeat (first | exact trivial | refine ⟨.inr (stillLd rfl L.h7), ?_⟩ | refine ⟨.inr (stillLd rfl L.h8), ?_⟩ | refine ⟨.inr (stillLd rfl L.h13), ?_⟩)
      refine wd_pure rfl rfl rfl rfl rfl ?_
      refine wo_tyNe (a := mergeT hs a b) (b := mergeT hs b a) rfl rfl rfl sm (merge_small t sb sa) ?_
      repeat refine wo_nil ?_
      refine ⟨rfl, ?_⟩
      repeat (first
        | (refine wd_pure rfl rfl rfl rfl rfl ?_
           repeat (first | refine wo_nil ?_ | refine wo_move rfl rfl ?_)
           refine ⟨rfl, ?_⟩))
      refine wd_is 78 false rfl (decide_eq_false fun h => h e1) ?_
      repeat (first
        | (refine wd_pure rfl rfl rfl rfl rfl ?_
           repeat (first | refine wo_nil ?_ | refine wo_move rfl rfl ?_ | refine wo_on rfl ?_)
           refine ⟨rfl, ?_⟩))
      refine wd_read rfl rfl rfl rfl rfl rfl rfl ?_
      try refine wo_on rfl ?_
      refine wo_loadN rfl rfl rfl rfl L.h7 rfl ?_
      repeat refine wo_nil ?_
      refine ⟨rfl, _, rfl, ?_⟩
      refine wd_read rfl rfl rfl rfl rfl rfl rfl ?_
      try refine wo_on rfl ?_
      refine wo_loadN rfl rfl rfl rfl L.h7 rfl ?_
      repeat refine wo_nil ?_
      refine ⟨rfl, _, rfl, ?_⟩
      refine wd_read rfl rfl rfl rfl rfl rfl rfl ?_
      try refine wo_on rfl ?_
      refine wo_loadN rfl rfl rfl rfl L.h7 rfl ?_
      repeat refine wo_nil ?_
      refine ⟨rfl, _, rfl, ?_⟩
      refine wd_act rfl rfl rfl ?_
      try refine wo_on rfl ?_
      refine wo_call rfl rfl orc_cons rfl (merge_spec (x := a) (y := a) L.o.wf hi10 t.good t.len sa sa) ?_
      rintro r A11 ⟨rfl, o11⟩
      have L := L.keep o11
      have hi11 := hi10.keep o11
      repeat refine wo_nil ?_
      refine ⟨?_, ?_⟩
      · repeat (first | exact trivial | refine ⟨.inr (stillLd rfl L.h7), ?_⟩ | refine ⟨.inr (stillLd rfl L.h8), ?_⟩ | refine ⟨.inr (stillLd rfl L.h13), ?_⟩)
      refine wd_pure rfl rfl rfl rfl rfl ?_
      refine wo_on rfl ?_
      refine wo_tyNe (a := mergeT hs a a) (b := a) rfl rfl rfl (merge_small t sa sa) sa ?_
      repeat refine wo_nil ?_
      refine ⟨rfl, ?_⟩
      repeat (first
        | (refine wd_pure rfl rfl rfl rfl rfl ?_
           repeat (first | refine wo_nil ?_ | refine wo_move rfl rfl ?_ | refine wo_pick rfl rfl rfl ?_)
           refine ⟨rfl, ?_⟩))
      refine wd_is 86 false rfl (decide_eq_false fun h => h (merge_self a)) ?_
      repeat (first
        | (refine wd_pure rfl rfl rfl rfl rfl ?_
           repeat (first | refine wo_nil ?_ | refine wo_move rfl rfl ?_ | refine wo_on rfl ?_)
           refine ⟨rfl, ?_⟩))
      refine wd_read rfl rfl rfl rfl rfl rfl rfl ?_
      try refine wo_on rfl ?_
      refine wo_loadN rfl rfl rfl rfl L.h7 rfl ?_
      repeat refine wo_nil ?_
      refine ⟨rfl, _, rfl, ?_⟩
      refine wd_read rfl rfl rfl rfl rfl rfl rfl ?_
      try refine wo_on rfl ?_
      refine wo_loadN rfl rfl rfl rfl L.h13 rfl ?_
      repeat refine wo_nil ?_
      refine ⟨rfl, _, rfl, ?_⟩
      refine wd_act rfl rfl rfl ?_
      try refine wo_on rfl ?_
      refine wo_call rfl rfl orc_cons rfl (fits_spec (x := a) (y := mergeT hs a b) L.o.wf hi11 t.good t.len) ?_
      rintro r A12 ⟨rfl, o12⟩
      have L := L.keep o12
      have hi12 := hi11.keep o12
      repeat refine wo_nil ?_
      refine ⟨?_, ?_⟩
      · repeat (first | exact trivial | refine ⟨.inr (stillLd rfl L.h7), ?_⟩ | refine ⟨.inr (stillLd rfl L.h8), ?_⟩ | refine ⟨.inr (stillLd rfl L.h13), ?_⟩)
      repeat (first
        | (refine wd_pure rfl rfl rfl rfl rfl ?_
           repeat (first | refine wo_nil ?_ | refine wo_move rfl rfl ?_ | refine wo_not rfl rfl ?_ | refine wo_pick rfl rfl rfl ?_ | refine wo_on rfl ?_)
           refine ⟨rfl, ?_⟩))
      refine wd_is 93 false rfl (by rw [decide_eq_true f1]; rfl) ?_
      repeat (first
        | (refine wd_pure rfl rfl rfl rfl rfl ?_
           repeat (first | refine wo_nil ?_ | refine wo_move rfl rfl ?_ | refine wo_on rfl ?_)
           refine ⟨rfl, ?_⟩))
      refine wd_read rfl rfl rfl rfl rfl rfl rfl ?_
      try refine wo_on rfl ?_
      refine wo_loadN rfl rfl rfl rfl L.h8 rfl ?_
      repeat refine wo_nil ?_
      refine ⟨rfl, _, rfl, ?_⟩
      refine wd_read rfl rfl rfl rfl rfl rfl rfl ?_
      try refine wo_on rfl ?_
      refine wo_loadN rfl rfl rfl rfl L.h13 rfl ?_
      repeat refine wo_nil ?_
      refine ⟨rfl, _, rfl, ?_⟩
      refine wd_act rfl rfl rfl ?_
      try refine wo_on rfl ?_
      refine wo_call rfl rfl orc_cons rfl (fits_spec (x := b) (y := mergeT hs a b) L.o.wf hi12 t.good t.len) ?_
      rintro r A13 ⟨rfl, o13⟩
      have L := L.keep o13
      have hi13 := hi12.keep o13
      repeat refine wo_nil ?_
      refine ⟨?_, ?_⟩
      · repeat (first | exact trivial | refine ⟨.inr (stillLd rfl L.h7), ?_⟩ | refine ⟨.inr (stillLd rfl L.h8), ?_⟩ | refine ⟨.inr (stillLd rfl L.h13), ?_⟩)
      repeat (first
        | (refine wd_pure rfl rfl rfl rfl rfl ?_
           repeat (first | refine wo_nil ?_ | refine wo_move rfl rfl ?_ | refine wo_not rfl rfl ?_ | refine wo_pick rfl rfl rfl ?_ | refine wo_on rfl ?_)
           refine ⟨rfl, ?_⟩))
      refine wd_is 100 false rfl (by rw [decide_eq_true f2]; rfl) ?_
      repeat (first
        | (refine wd_pure rfl rfl rfl rfl rfl ?_
           repeat (first | refine wo_nil ?_ | refine wo_move rfl rfl ?_ | refine wo_on rfl ?_)
           refine ⟨rfl, ?_⟩))
      refine wd_read rfl rfl rfl rfl rfl rfl rfl ?_
      try refine wo_on rfl ?_
      refine wo_loadN rfl rfl rfl rfl L.h7 rfl ?_
      repeat refine wo_nil ?_
      refine ⟨rfl, _, rfl, ?_⟩
      refine wd_read rfl rfl rfl rfl rfl rfl rfl ?_
      try refine wo_on rfl ?_
      refine wo_loadN rfl rfl rfl rfl L.h8 rfl ?_
      repeat refine wo_nil ?_
      refine ⟨rfl, _, rfl, ?_⟩
      refine wd_read rfl rfl rfl rfl rfl rfl rfl ?_
      try refine wo_on rfl ?_
      refine wo_loadN rfl rfl rfl rfl L.h9 rfl ?_
      repeat refine wo_nil ?_
      refine ⟨rfl, _, rfl, ?_⟩
      repeat (first
        | (refine wd_pure rfl rfl rfl rfl rfl ?_
           repeat (first | refine wo_nil ?_ | refine wo_move rfl rfl ?_ | refine wo_on rfl ?_)
           refine ⟨rfl, ?_⟩))
      refine wd_read rfl rfl rfl rfl rfl rfl rfl ?_
      try refine wo_on rfl ?_
      refine wo_loadN rfl rfl rfl rfl L.h7 rfl ?_
      repeat refine wo_nil ?_
      refine ⟨rfl, _, rfl, ?_⟩
      repeat (first
        | (refine wd_pure rfl rfl rfl rfl rfl ?_
           repeat (first | refine wo_nil ?_ | refine wo_move rfl rfl ?_ | refine wo_on rfl ?_)
           refine ⟨rfl, ?_⟩))
      refine wd_read rfl rfl rfl rfl rfl rfl rfl ?_
      try refine wo_on rfl ?_
      refine wo_loadN rfl rfl rfl rfl L.h8 rfl ?_
      repeat refine wo_nil ?_
      refine ⟨rfl, _, rfl, ?_⟩
      refine wd_read rfl rfl rfl rfl rfl rfl rfl ?_
      try refine wo_on rfl ?_
      refine wo_loadN rfl rfl rfl rfl L.h9 rfl ?_
      repeat refine wo_nil ?_
      refine ⟨rfl, _, rfl, ?_⟩
      refine wd_act rfl rfl rfl ?_
      try refine wo_on rfl ?_
      refine wo_call rfl rfl orc_cons rfl (merge_spec (x := a) (y := b) L.o.wf hi13 t.good t.len sa sb) ?_
      rintro r A14 ⟨rfl, o14⟩
      have L := L.keep o14
      have hi14 := hi13.keep o14
      repeat refine wo_nil ?_
      refine ⟨?_, ?_⟩
      · repeat (first | exact trivial | refine ⟨.inr (stillLd rfl L.h7), ?_⟩ | refine ⟨.inr (stillLd rfl L.h8), ?_⟩ | refine ⟨.inr (stillLd rfl L.h9), ?_⟩ | refine ⟨.inr (stillLd rfl L.h13), ?_⟩)
      refine wd_act rfl rfl rfl ?_
      try refine wo_on rfl ?_
      refine wo_call rfl rfl orc_cons rfl (merge_spec (x := mergeT hs a b) (y := c) L.o.wf hi14 t.good t.len sm sc) ?_
      rintro r A15 ⟨rfl, o15⟩
      have L := L.keep o15
      have hi15 := hi14.keep o15
      repeat refine wo_nil ?_
      refine ⟨?_, ?_⟩
      · repeat (first | exact trivial | refine ⟨.inr (stillLd rfl L.h7), ?_⟩ | refine ⟨.inr (stillLd rfl L.h8), ?_⟩ | refine ⟨.inr (stillLd rfl L.h9), ?_⟩ | refine ⟨.inr (stillLd rfl L.h13), ?_⟩)
      refine wd_act rfl rfl rfl ?_
      try refine wo_on rfl ?_
      refine wo_call rfl rfl orc_cons rfl (merge_spec (x := b) (y := c) L.o.wf hi15 t.good t.len sb sc) ?_
      rintro r A16 ⟨rfl, o16⟩
      have L := L.keep o16
      have hi16 := hi15.keep o16
      repeat refine wo_nil ?_
      refine ⟨?_, ?_⟩
      · repeat (first | exact trivial | refine ⟨.inr (stillLd rfl L.h7), ?_⟩ | refine ⟨.inr (stillLd rfl L.h8), ?_⟩ | refine ⟨.inr (stillLd rfl L.h9), ?_⟩ | refine ⟨.inr (stillLd rfl L.h13), ?_⟩)
      refine wd_act rfl rfl rfl ?_
      try refine wo_on rfl ?_
      refine wo_call rfl rfl orc_cons rfl (merge_spec (x := a) (y := mergeT hs b c) L.o.wf hi16 t.good t.len sa (merge_small t sb sc)) ?_
      rintro r A17 ⟨rfl, o17⟩
      have L := L.keep o17
      have hi17 := hi16.keep o17
      repeat refine wo_nil ?_
      refine ⟨?_, ?_⟩
      · repeat (first | exact trivial | refine ⟨.inr (stillLd rfl L.h7), ?_⟩ | refine ⟨.inr (stillLd rfl L.h8), ?_⟩ | refine ⟨.inr (stillLd rfl L.h9), ?_⟩ | refine ⟨.inr (stillLd rfl L.h13), ?_⟩)
      refine wd_pure rfl rfl rfl rfl rfl ?_
      refine wo_on rfl ?_
      refine wo_tyNe (a := mergeT hs (mergeT hs a b) c) (b := mergeT hs a (mergeT hs b c)) rfl rfl rfl (merge_small t sm sc) (merge_small t sa (merge_small t sb sc)) ?_
      repeat refine wo_nil ?_
      refine ⟨rfl, ?_⟩
      repeat (first
        | (refine wd_pure rfl rfl rfl rfl rfl ?_
           repeat (first | refine wo_nil ?_ | refine wo_pick rfl rfl rfl ?_)
           refine ⟨rfl, ?_⟩))
      refine wd_nil ?_
      refine wg_dec rfl (fun h => absurd e5 h) fun _ => ?_
      repeat (first | refine wg_seq ?_ | refine wg_skip ?_ | refine wg_region ?_ | refine wo_move rfl rfl ?_)
      refine wo_loadN rfl rfl rfl rfl L.h7 rfl ?_
      refine wo_loadN rfl rfl rfl rfl L.h9 rfl ?_
      refine wo_call rfl rfl orc_cons rfl (fits_spec (x := a) (y := c) L.o.wf hi17 t.good t.len) ?_
      rintro r A18 ⟨rfl, o18'⟩
      have L := L.keep o18'
      have hi18 := hi17.keep o18'
      repeat (first | refine wo_move rfl rfl ?_ | refine wo_not rfl rfl ?_)
      by_cases fac : fitsT hs a c
      · refine wo_is 122 false rfl (by rw [decide_eq_true fac]; rfl) ?_
        repeat (first | refine wo_move rfl rfl ?_ | refine wo_on rfl ?_)
        refine wo_loadN rfl rfl rfl rfl L.h8 rfl ?_
        repeat refine wo_on rfl ?_
        refine wo_loadN rfl rfl rfl rfl L.h9 rfl ?_
        repeat refine wo_on rfl ?_
        refine wo_call rfl rfl orc_cons rfl (fits_spec (x := b) (y := c) L.o.wf hi18 t.good t.len) ?_
        rintro r A19 ⟨rfl, o19⟩
        have L := L.keep o19
        have hi19 := hi18.keep o19
        repeat (first | refine wo_move rfl rfl ?_ | refine wo_not rfl rfl ?_ | refine wo_pick rfl rfl rfl ?_ | refine wo_on rfl ?_)
        by_cases fbc : fitsT hs b c
        · refine wo_is 129 false rfl (by rw [decide_eq_true fbc]; rfl) ?_
          repeat (first | refine wo_move rfl rfl ?_ | refine wo_on rfl ?_)
          refine wo_loadN rfl rfl rfl rfl L.h13 rfl ?_
          repeat refine wo_on rfl ?_
          refine wo_loadN rfl rfl rfl rfl L.h9 rfl ?_
          repeat refine wo_on rfl ?_
          refine wo_call rfl rfl orc_cons rfl (fits_spec (x := mergeT hs a b) (y := c) L.o.wf hi19 t.good t.len) ?_
          rintro r A20 ⟨rfl, o20⟩
          repeat (first | refine wo_nil ?_ | refine wo_assign rfl rfl ?_ | refine wo_pick rfl rfl rfl ?_)
          exact wg_ret rfl (congrArg AV.bool (decide_eq_true ((fits_le t p1 tc).2 (p4 c tc ((fits_le t ta tc).1 fac) ((fits_le t tb tc).1 fbc)))))
        · refine wo_is 129 true rfl (by rw [decide_eq_false fbc]; rfl) ?_
          repeat (first | refine wo_nil ?_ | refine wo_assign rfl rfl ?_ | refine wo_pick rfl rfl rfl ?_ | refine wo_off rfl rfl ?_)
          exact wg_ret rfl rfl
      · refine wo_is 122 true rfl (by rw [decide_eq_false fac]; rfl) ?_
        repeat (first | refine wo_nil ?_ | refine wo_move rfl rfl ?_ | refine wo_assign rfl rfl ?_ | refine wo_pick rfl rfl rfl ?_ | refine wo_off rfl rfl ?_)
        exact wg_ret rfl rfl
    · refine wo_is 62 true rfl (by rw [decide_eq_false rb]; rfl) ?_
      repeat (first | refine wg_seq ?_ | refine wg_region ?_ | refine wo_nil ?_ | refine wo_assign rfl rfl ?_ | refine wo_pick rfl rfl rfl ?_ | refine wo_off rfl rfl ?_ | refine wg_true rfl ?_)
      exact wg_ret rfl rfl
  · refine wo_is 56 true rfl (by rw [decide_eq_false ra]; rfl) ?_
    repeat (first | refine wg_seq ?_ | refine wg_region ?_ | refine wo_nil ?_ | refine wo_move rfl rfl ?_ | refine wo_assign rfl rfl ?_ | refine wo_pick rfl rfl rfl ?_ | refine wo_off rfl rfl ?_ | refine wg_true rfl ?_)
    exact wg_ret rfl rfl
end Go.Proofs.Ytokieeiohfcgdaa.Ae
