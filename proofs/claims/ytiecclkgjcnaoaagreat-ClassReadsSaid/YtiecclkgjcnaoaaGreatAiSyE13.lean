/-
  THE DOCUMENT'S READER OF CLASSES, by the rules: Decode.
-/
import Derived.Test.YtiecclkgjcnaoaaGreatAiSyC10
namespace Go.Proofs.YtiecclkgjcnaoaaGreat.Ae
open Go.AE
set_option linter.unusedVariables false
set_option maxRecDepth 100000
set_option maxHeartbeats 8000000 in
theorem rdecode_spec {A : AW} {v0 : AV} {bs : List Nat} (hw : Wf A) (hr : Row A 1 v0 bs.length (bys bs)) (hl : bs.length ≤ 3000) (hlt : ∀ b ∈ bs, b < 256) (hS : shC (qD (bs.drop 5)).1) (hI : ∀ x ∈ (qD (bs.drop 5)).1.pool, intR x.int) :
    CallP (ES 4) 6 [v0] A fun r A1 => Only A A1 none' ∧
      ((r = .tuple [.agg (clc [] [] .nils .nils .nils), .bool false] ∧ ¬ docOk bs) ∨ (∃ pv fv mv, r = .tuple [.agg (clc (qD (bs.drop 5)).1.name (qD (bs.drop 5)).1.super pv fv mv), .bool true] ∧ docOk bs ∧ ClR A1 A.nxt (qD (bs.drop 5)).1 pv fv mv)) := by
  refine call_of rfl rfl rfl ?_
  repeat (first | refine qO ?_ | refine qA ?_)
  refine wo_alloc rfl rfl rfl ?_
  refine wo_A (fun A1 => Only A A1 none' ∧ A1.heap.get A.nxt = some (.cells 0 false 5 (clc [] [] .nils .nils .nils)) ∧ A.nxt < A1.nxt) ⟨Only.add hw _, by rw [AW.add_get, if_pos rfl]; rfl, Nat.lt_succ_self _⟩ ?_
  rintro A1 ⟨o1, h2, s2⟩
  generalize hf2 : A.nxt = f2 at h2 s2
  have l2 : A.nxt ≤ f2 := by omega
  have hr1 := hr.keep o1 fun _ _ h => h
  have op2 : ∀ {B : AW}, Only A B none' → B.heap.get f2 = some (.cells 0 false 5 (clc [] [] .nils .nils .nils)) → Only A (B.put f2 (.cells 0 false 5 (clc [] [] .nils .nils .nils))) none' := fun o h => Only.fresh hw o (Only.put o.wf (o.wf _ _ h)) fun g hg => by cases hg; exact l2
  repeat (first | refine qO ?_ | refine qA ?_ | refine qG ?_ | refine qJ rfl rfl ?_ | refine qE rfl rfl ?_)
  refine xJ rfl rfl rfl hr1.lenV ?_
  repeat (first | refine qJ rfl rfl ?_ | refine xM rfl rfl rfl ?_)
  by_cases c5 : (bs.length : Int) < 5
  · refine xA 17 true rfl (decide_eq_true c5) ?_
    repeat (first | refine qO ?_ | refine qA ?_ | refine qG ?_ | refine qJ rfl rfl ?_ | refine wo_build rfl rfl rfl ?_ | refine qR rfl rfl rfl ?_ | refine xE rfl rfl ?_ | refine xH rfl ?_)
    refine qZ rfl rfl rfl rfl rfl rfl h2 rfl ?_
    repeat (first | refine qG ?_ | refine qE rfl rfl ?_)
    refine wg_ret2 rfl rfl rfl (loadN_eq rfl rfl (by rw [AW.put_get, if_pos rfl]) rfl) ?_
    exact ⟨op2 o1 h2, .inl ⟨rfl, fun ok => by have := ok.1.1; omega⟩⟩
  refine xA 17 false rfl (decide_eq_false c5) ?_
  repeat (first | refine qJ rfl rfl ?_ | refine qX rfl ?_)
  refine xJ rfl rfl rfl hr1.lenV ?_
  repeat (first | refine qJ rfl rfl ?_ | refine wo_gtr rfl rfl rfl ?_ | refine qR rfl rfl rfl ?_ | refine qX rfl ?_)
  refine xA 22 false rfl (decide_eq_false (by omega)) ?_
  repeat (first | refine qJ rfl rfl ?_ | refine qX rfl ?_)
  obtain ⟨y5, hs5, hy5, _⟩ := Full.take (E := ES 4) (t := 22) (d := d22) (e := 5) (de := d5) (k := 5) (kk := .i64) rfl rfl rfl hr1 (by omega)
  refine wo_slice (Q := fun r => r = y5) rfl rfl rfl rfl rfl ⟨y5, hs5, rfl⟩ ?_
  rintro r rfl
  have hy5 : Row A1 1 r 5 (bys (bs.take 5)) := by
    have : Row A1 1 r 5 ((bys bs).take (5 * 1)) := hy5
    unfold bys at this ⊢
    rw [List.map_take]
    exact this
  repeat refine qX rfl ?_
  refine wo_convert rfl rfl (toStr_row rfl rfl rfl rfl rfl hy5) ?_
  rw [mods_id fun b hb => hlt b (List.mem_of_mem_take hb)]
  repeat (first | refine qG ?_ | refine qR rfl rfl rfl ?_ | refine wo_strNe rfl rfl rfl ?_ | refine qX rfl ?_)
  refine qV rfl (fun hne => ?_) fun heq => ?_
  · have hne : bs.take 5 ≠ [76, 79, 79, 77, 1] := hne
    repeat (first | refine qO ?_ | refine qA ?_ | refine wo_build rfl rfl rfl ?_)
    refine qZ rfl rfl rfl rfl rfl rfl h2 rfl ?_
    repeat (first | refine qG ?_ | refine qE rfl rfl ?_)
    refine wg_ret2 rfl rfl rfl (loadN_eq rfl rfl (by rw [AW.put_get, if_pos rfl]) rfl) ?_
    exact ⟨op2 o1 h2, .inl ⟨rfl, fun ok => hne ok.1.2⟩⟩
  have htk : bs.take 5 = [76, 79, 79, 77, 1] := Decidable.byContradiction heq
  have h5 : 5 ≤ bs.length := by omega
  repeat (first | refine qO ?_ | refine qS ?_ | refine qA ?_ | refine qJ rfl rfl ?_)
  obtain ⟨y, hs, hy, hyf⟩ := Full.drop (E := ES 4) (t := 22) (d := d22) (e := 5) (de := d5) (k := 5) (kk := .i64) rfl rfl rfl hr1 h5
  refine wo_slice (Q := fun r => r = y) rfl rfl rfl rfl rfl ⟨y, hs, rfl⟩ ?_
  rintro v rfl
  have hv : Full A1 1 v (bs.drop 5).length (bys (bs.drop 5)) := by
    have : Row A1 1 v (bs.length - 5) ((bys bs).drop (5 * 1)) := hy
    rw [List.length_drop]
    unfold bys at this ⊢
    rw [List.map_drop]
    exact this
  refine wo_build (v := .agg [v]) rfl rfl ?_ ?_
  · rcases hv with ⟨rfl | ⟨z, rfl⟩, _, _⟩ | ⟨f, t, o, c, ex, ro, all, rfl, _⟩ <;> rfl
  refine wo_box rfl rfl rfl rfl ?_
  refine wo_A (fun A2 => Only A1 A2 none' ∧ Rd A2 A1.nxt v (bs.drop 5) ∧ A1.nxt < A2.nxt) ⟨Only.add o1.wf _, ⟨by rw [AW.add_get, if_pos rfl]; rfl, hv.keep (Only.add o1.wf _) fun _ _ h => h, fun e => Nat.lt_irrefl _ (hv.row.under o1.wf _ e), fun b hb => hlt b (List.mem_of_mem_drop hb)⟩, Nat.lt_succ_self _⟩ ?_
  rintro A2 ⟨o2, rd, sfr⟩
  have lfr : f2 < A1.nxt := s2
  generalize A1.nxt = fr at rd sfr lfr
  have h2 := o2.keep _ _ h2 fun h => h
  have o12 := o1.same o2
  repeat refine wo_build rfl rfl rfl ?_
  refine wo_box rfl rfl rfl rfl ?_
  refine wo_A (fun A3 => Only A2 A3 none' ∧ A3.heap.get A2.nxt = some (.cells 0 false 2 [.ptr fr 0 0, .bool false]) ∧ A2.nxt < A3.nxt) ⟨Only.add o12.wf _, by rw [AW.add_get, if_pos rfl]; rfl, Nat.lt_succ_self _⟩ ?_
  rintro A3 ⟨o3, hfc, sfc⟩
  have nfc : A2.nxt ≠ fr := by omega
  have nv : ¬ v.isFam A2.nxt := fun h => by
    have := rd.full.row.under o12.wf _ h
    omega
  have lfc := o2.nxt
  generalize A2.nxt = fc at hfc sfc nfc nv lfc sfr
  have h2 := o3.keep _ _ h2 fun h => h
  have o13 := o12.same o3
  have w3 := o13.wf
  have ps : QS A3 fc fr v false (bs.drop 5) := ⟨hfc, rd.keep o3 fun _ _ h => h, nfc, nv, by rw [List.length_drop]; omega⟩
  have n2 : f2 ≠ fc ∧ f2 ≠ fr := ⟨by omega, by omega⟩
  have hdoc : docOk bs ↔ (qD (bs.drop 5)).2 = false ∧ clsOk (qD (bs.drop 5)).1 ∧ mods (encC (qD (bs.drop 5)).1) = bs := ⟨fun h => h.2, fun h => ⟨⟨h5, htk⟩, h⟩⟩
  rw [hdoc]
  have hqd : qD (bs.drop 5) = qD5 (qT false (bs.drop 5)) (qT (qT false (bs.drop 5)).2.1 (qT false (bs.drop 5)).2.2) (qM qCo 128 (qT (qT false (bs.drop 5)).2.1 (qT false (bs.drop 5)).2.2).2.1 (qT (qT false (bs.drop 5)).2.1 (qT false (bs.drop 5)).2.2).2.2) _ _ := rfl
  rw [hqd] at hS hI ⊢
  clear hqd hdoc
  repeat (first | refine qO ?_ | refine qA ?_ | refine qG ?_ | refine qJ rfl rfl ?_ | refine qE rfl rfl ?_)
  refine qU rfl rfl orc_cons rfl (qtext_spec w3 ps) ?_
  rintro r B1 ⟨rfl, v1, st⟩
  have h2 := st.only.keep _ _ h2 fun hb => hb.elim n2.1 n2.2
  generalize qT false (bs.drop 5) = n at st hS hI
  obtain ⟨n, e1, b1⟩ := n
  have st : QStep A3 B1 fc fr v v1 e1 b1 := st
  simp only at hS hI ⊢
  repeat refine wo_build rfl rfl rfl ?_
  refine wo_alloc rfl rfl rfl ?_
  refine qZ rfl rfl rfl rfl rfl rfl (by rw [AW.add_get, if_pos rfl]) rfl ?_
  refine wo_A (fun A4 => Only B1 A4 none' ∧ A4.heap.get B1.nxt = some (.cells 0 false 5 (clc n [] .nils .nils .nils)) ∧ B1.nxt < A4.nxt) ⟨made st.only.wf, by rw [AW.put_get, if_pos rfl]; rfl, Nat.lt_succ_self _⟩ ?_
  rintro A4 ⟨o4, h6, s6⟩
  have h2' := st.only.wf _ _ h2
  have n26 : f2 ≠ B1.nxt := by omega
  have l6 := st.only.nxt
  generalize B1.nxt = f6 at h6 s6 n26 l6
  have h2 := o4.keep _ _ h2 fun h => h
  have st := st.quiet o4
  have l34 : A3.nxt ≤ A4.nxt := st.only.nxt
  have n6 : f6 ≠ fc ∧ f6 ≠ fr := ⟨by omega, by omega⟩
  have nilB : ∀ {A : AW} {es : Nat}, Buf A es .nils 0 [] := .inl ⟨rfl, rfl, rfl⟩
  have I : DQ A3 A4 fc fr v v1 e1 b1 f2 f6 A4.nxt ⟨n, [], [], [], []⟩ .nils .nils .nils := ⟨st, h2, h6, nilB, nilB, ⟨[], nilB, rfl⟩, fun g h => h.elim, fun g h => h.elim, fun g h => h.elim, Nat.le_refl _⟩
  have hcN : fc < A4.nxt ∧ fr < A4.nxt := ⟨by omega, by omega⟩
  have hAN : A.nxt ≤ A4.nxt := by omega
  have s2N : f2 < A4.nxt := by omega
  generalize A4.nxt = N at I s6 hcN l34 hAN s2N
  repeat (first | refine qO ?_ | refine qA ?_ | refine qG ?_ | refine qJ rfl rfl ?_)
  refine qU rfl rfl orc_cons rfl (qtext_spec I.st.only.wf I.st.ps) ?_
  rintro r B2 ⟨rfl, v2, st2⟩
  have I := I.read n2 n6 hcN st2
  generalize qT e1 b1 = su at I hS hI
  obtain ⟨su, e2, b2⟩ := su
  have I : DQ A3 B2 fc fr v v2 e2 b2 f2 f6 N ⟨n, [], [], [], []⟩ .nils .nils .nils := I
  simp only at hS hI ⊢
  obtain ⟨h6, D⟩ := I.put (c' := ⟨n, su, [], [], []⟩) (pv' := .nils) (fv' := .nils) (mv' := .nils) w3 ps l6 n26 s6 s2N l34 (Only.refl I.st.only.wf none') (fun g h => h.elim) I.p I.f I.m I.op I.of I.om
  repeat refine qI rfl rfl rfl ?_
  refine qZ rfl rfl rfl rfl rfl rfl h6 rfl ?_
  refine wo_A (fun A5 => DQ A3 A5 fc fr v v2 e2 b2 f2 f6 N ⟨n, su, [], [], []⟩ .nils .nils .nils) D ?_
  clear D h6
  intro A5 I
  repeat (first | refine qO ?_ | refine qA ?_ | refine qG ?_ | refine qJ rfl rfl ?_)
  refine qU rfl rfl orc_cons rfl (qnum_spec (m := 128) I.st.only.wf I.st.ps (by decide) (by decide)) ?_
  rintro r B4 ⟨rfl, v4, st4⟩
  have I := I.read n2 n6 hcN st4
  have hm1 := qC_most (m := 128) (b := e2) (bs := b2) (by decide)
  have hpoL := qM_len (p := qCo) (m := 128) (e := e2) (bs := b2) (by decide)
  unfold qM at hS hI hpoL ⊢
  generalize qC 128 e2 b2 = q at I hm1 hS hI hpoL
  obtain ⟨q, e4, b4⟩ := q
  have hm1 : (q : Int) ≤ 128 := hm1
  have I : DQ A3 B4 fc fr v v4 e4 b4 f2 f6 N ⟨n, su, [], [], []⟩ .nils .nils .nils := I
  simp only at hS hI hpoL ⊢
  repeat (first | refine qO ?_ | refine qY ?_ | refine qA ?_ | refine qG ?_ | refine qE rfl rfl ?_)
  refine wg_loop ?_
  refine wg_le (.put 0 v0 (.put 2 (.ptr f2 0 0) (.put 4 (.ptr fc 0 0) (.put 5 (.ptr f6 0 0) (.put 6 (.int .i64 (q : Int)) (.put 7 (.int .i64 ((0 : Nat) : Int)) .nil)))))) ?_ ⟨rfl, rfl, rfl, rfl, rfl, rfl, trivial⟩
  refine wg_ind (ι := List CoT × AV × AV × Bool × List Nat) (fun i => q - i.1.length) (fun i => .put 0 v0 (.put 2 (.ptr f2 0 0) (.put 4 (.ptr fc 0 0) (.put 5 (.ptr f6 0 0) (.put 6 (.int .i64 (q : Int)) (.put 7 (.int .i64 (i.1.length : Int)) .nil))))))
    (fun i A5 => DQ A3 A5 fc fr v i.2.2.1 i.2.2.2.1 i.2.2.2.2 f2 f6 N ⟨n, su, i.1, [], []⟩ i.2.1 .nils .nils ∧ i.1.length ≤ q ∧ i.1 ++ (qL qCo (q - i.1.length) i.2.2.2.1 i.2.2.2.2).1 = (qL qCo q e4 b4).1 ∧ (qL qCo (q - i.1.length) i.2.2.2.1 i.2.2.2.2).2 = (qL qCo q e4 b4).2) ?_ ([], .nils, v4, e4, b4) B4 ⟨I, Nat.zero_le _, rfl, rfl⟩
  rintro ⟨acc, pv, v5, e5, b5⟩ A5 ⟨I, hle, hx1, hx2⟩ ih
  have I : DQ A3 A5 fc fr v v5 e5 b5 f2 f6 N ⟨n, su, acc, [], []⟩ pv .nils .nils := I
  have hle : acc.length ≤ q := hle
  have hx1 : acc ++ (qL qCo (q - acc.length) e5 b5).1 = (qL qCo q e4 b4).1 := hx1
  have hx2 : (qL qCo (q - acc.length) e5 b5).2 = (qL qCo q e4 b4).2 := hx2
  have hc := I.st.ps.cell
  have done : qL qCo (q - acc.length) e5 b5 = ([], e5, b5) → DQ A3 A5 fc fr v v5 (qL qCo q e4 b4).2.1 (qL qCo q e4 b4).2.2 f2 f6 N ⟨n, su, (qL qCo q e4 b4).1, [], []⟩ pv .nils .nils := fun h0 => by
    rw [h0] at hx1 hx2
    rw [← hx1, ← hx2, List.append_nil]
    exact I
  repeat refine qO ?_
  refine wg_regionTo (.put 0 v0 (.put 2 (.ptr f2 0 0) (.put 4 (.ptr fc 0 0) (.put 5 (.ptr f6 0 0) (.put 6 (.int .i64 (q : Int)) (.put 7 (.int .i64 (acc.length : Int)) (.put 52 (.bool (decide ((acc.length : Int) < (q : Int) ∧ e5 = false))) .nil))))))) ?_ ?_
  · repeat (first | refine qJ rfl rfl ?_ | refine xM rfl rfl rfl ?_)
    by_cases hlq : (acc.length : Int) < (q : Int)
    · refine xA 46 true rfl (decide_eq_true hlq) ?_
      repeat (first | refine qG ?_ | refine qJ rfl rfl ?_ | refine qI rfl rfl rfl ?_ | refine qW rfl rfl ?_ | refine qP rfl rfl rfl rfl (by assumption) rfl ?_ | refine wo_not rfl rfl ?_ | refine qR rfl rfl rfl ?_ | refine qX rfl ?_)
      exact ⟨rfl, rfl, rfl, rfl, rfl, rfl, rfl, congrArg (fun x => some (AV.bool x)) (by cases e5 <;> simp [hlq]), trivial⟩
    · refine xA 46 false rfl (decide_eq_false hlq) ?_
      repeat (first | refine qG ?_ | refine qR rfl rfl rfl ?_ | refine xE rfl rfl ?_)
      exact ⟨rfl, rfl, rfl, rfl, rfl, rfl, rfl, congrArg (fun x => some (AV.bool x)) (by simp [hlq]), trivial⟩
  refine qV rfl (fun hgo => ?_) fun hgo => ?_
  · obtain ⟨hlq, hf⟩ := hgo
    have hk1 : q - acc.length = (q - (acc.length + 1)) + 1 := by omega
    subst hf
    rw [hk1, qL_next] at hx1 hx2
    clear done hS hI
    repeat (first | refine qO ?_ | refine qS ?_ | refine qY ?_)
    have h6 := I.h6
    unfold clc at h6
    refine wg_draw rfl ?_
    repeat (first
      | (refine xC rfl rfl rfl rfl rfl ?_
         repeat (first | refine qG ?_ | refine qJ rfl rfl ?_ | refine qI rfl rfl rfl ?_)
         refine ⟨rfl, ?_⟩)
      | (refine xI rfl rfl rfl rfl rfl rfl rfl ?_
         repeat (first | refine qG ?_ | refine qP rfl rfl rfl rfl (by assumption) rfl ?_)
         refine ⟨rfl, _, rfl, ?_⟩))
    refine wd_act rfl rfl rfl ?_
    refine qU rfl rfl orc_cons rfl (qconst_spec I.st.only.wf I.st.ps) ?_
    rintro r A6 ⟨rfl, v6, st6⟩
    have I := I.read n2 n6 hcN st6
    generalize qCo false b5 = y at I hx1 hx2
    obtain ⟨y, e6, b6⟩ := y
    have I : DQ A3 A6 fc fr v v6 e6 b6 f2 f6 N ⟨n, su, acc, [], []⟩ pv .nils .nils := I
    repeat refine qG ?_
    refine ⟨⟨.inr (stillG rfl rfl rfl I.h6 rfl (buf_still I.p)), trivial⟩, ?_⟩
    refine wd_make rfl rfl rfl rfl ?_
    refine wo_buildSlice rfl rfl rfl ?_
    repeat refine qG ?_
    refine wd_act rfl rfl rfl ?_
    refine wo_append rfl rfl rfl rfl rfl (append_one (n := acc.length) (de := d61) rfl rfl rfl rfl I.st.only.wf I.p rfl (by decide) (room_of (by omega) (by decide))) ?_
    intro pv' A7 g
    obtain ⟨h6, D⟩ := I.put (c' := ⟨n, su, acc ++ [y], [], []⟩) (pv' := pv') (fv' := .nils) (mv' := .nils) w3 ps l6 n26 s6 s2N l34 g.only I.op (by
      show Buf A7 5 pv' (acc ++ [y]).length ((acc ++ [y]).flatMap coc)
      rw [List.length_append, List.length_singleton, List.flatMap_append]
      exact g.buf) nilB ⟨[], nilB, rfl⟩ (fun k hk => (g.grow k hk).elim (I.op k) fun h => Nat.le_trans I.hn h) (fun g h => h.elim) fun g h => h.elim
    repeat refine qG ?_
    refine ⟨⟨.inl (by show bit 31 1 = true; rfl), trivial⟩, ?_⟩
    repeat (first
      | (refine xC rfl rfl rfl rfl rfl ?_
         repeat (first | refine qG ?_ | refine qI rfl rfl rfl ?_)
         refine ⟨rfl, ?_⟩))
    refine wd_act rfl rfl rfl ?_
    refine qZ rfl rfl g.buf.cells rfl rfl rfl h6 rfl ?_
    refine wo_A (fun A8 => DQ A3 A8 fc fr v v6 e6 b6 f2 f6 N ⟨n, su, acc ++ [y], [], []⟩ pv' .nils .nils) D ?_
    clear D h6
    intro A8 I
    repeat refine qG ?_
    refine ⟨⟨.inl (by show bit 127 1 = true; rfl), trivial⟩, wd_nil ?_⟩
    repeat (first | refine xB ?_ | refine qA ?_ | refine qJ rfl rfl ?_)
    refine wo_add rfl rfl rfl (by omega) (by omega) ?_
    repeat (first | refine qG ?_ | refine qE rfl rfl ?_)
    refine xN ?_
    refine wg_le (.put 0 v0 (.put 2 (.ptr f2 0 0) (.put 4 (.ptr fc 0 0) (.put 5 (.ptr f6 0 0) (.put 6 (.int .i64 (q : Int)) (.put 7 (.int .i64 ((acc ++ [y]).length : Int)) .nil)))))) ?_ ⟨rfl, rfl, rfl, rfl, rfl, by rw [List.length_append, List.length_singleton]; rfl, trivial⟩
    refine ih (acc ++ [y], pv', v6, e6, b6) A8 (by simp only [List.length_append, List.length_singleton]; omega) ⟨I, by simp only [List.length_append, List.length_singleton]; omega, ?_, ?_⟩
    · show (acc ++ [y]) ++ (qL qCo (q - (acc ++ [y]).length) e6 b6).1 = _
      rw [List.length_append, List.length_singleton, ← hx1, List.append_assoc]
      rfl
    · show (qL qCo (q - (acc ++ [y]).length) e6 b6).2 = _
      rw [List.length_append, List.length_singleton, ← hx2]
  have I := done (by
    by_cases hlq : (acc.length : Int) < (q : Int)
    · cases e5 with
      | true => exact qL_err qCo
      | false => exact absurd ⟨hlq, rfl⟩ hgo
    · rw [show q - acc.length = 0 from by omega]
      rfl)
  clear ih done hx1 hx2 hgo hle
  refine wg_exit rfl ?_
  generalize qL qCo q e4 b4 = po at I hS hI hpoL
  obtain ⟨po, e6, b6⟩ := po
  have I : DQ A3 A5 fc fr v v5 e6 b6 f2 f6 N ⟨n, su, po, [], []⟩ pv .nils .nils := I
  have hpoL : (po.length : Int) ≤ 128 := hpoL
  simp only at hS hI ⊢
  repeat (first | refine qO ?_ | refine qA ?_ | refine qJ rfl rfl ?_)
  refine qU rfl rfl orc_cons rfl (qnum_spec (m := 8) I.st.only.wf I.st.ps (by decide) (by decide)) ?_
  rintro r B7 ⟨rfl, v7, st7⟩
  have I := I.read n2 n6 hcN st7
  have hm2 := qC_most (m := 8) (b := e6) (bs := b6) (by decide)
  generalize qC 8 e6 b6 = q2 at I hm2 hS hI
  obtain ⟨q2, e7, b7⟩ := q2
  have hm2 : (q2 : Int) ≤ 8 := hm2
  have I : DQ A3 B7 fc fr v v7 e7 b7 f2 f6 N ⟨n, su, po, [], []⟩ pv .nils .nils := I
  simp only at hS hI ⊢
  repeat (first | refine qO ?_ | refine qY ?_ | refine qA ?_ | refine qG ?_ | refine qE rfl rfl ?_)
  refine wg_loop ?_
  refine wg_le (.put 0 v0 (.put 2 (.ptr f2 0 0) (.put 4 (.ptr fc 0 0) (.put 5 (.ptr f6 0 0) (.put 6 (.int .i64 (q2 : Int)) (.put 8 (.int .i64 ((0 : Nat) : Int)) .nil)))))) ?_ ⟨rfl, rfl, rfl, rfl, rfl, rfl, trivial⟩
  refine wg_ind (ι := List FiT × AV × AV × Bool × List Nat) (fun i => q2 - i.1.length) (fun i => .put 0 v0 (.put 2 (.ptr f2 0 0) (.put 4 (.ptr fc 0 0) (.put 5 (.ptr f6 0 0) (.put 6 (.int .i64 (q2 : Int)) (.put 8 (.int .i64 (i.1.length : Int)) .nil))))))
    (fun i A5 => DQ A3 A5 fc fr v i.2.2.1 i.2.2.2.1 i.2.2.2.2 f2 f6 N ⟨n, su, po, i.1, []⟩ pv i.2.1 .nils ∧ i.1.length ≤ q2 ∧ i.1 ++ (qL qF (q2 - i.1.length) i.2.2.2.1 i.2.2.2.2).1 = (qL qF q2 e7 b7).1 ∧ (qL qF (q2 - i.1.length) i.2.2.2.1 i.2.2.2.2).2 = (qL qF q2 e7 b7).2) ?_ ([], .nils, v7, e7, b7) B7 ⟨I, Nat.zero_le _, rfl, rfl⟩
  rintro ⟨acc, fv, v8, e8, b8⟩ A8 ⟨I, hle, hx1, hx2⟩ ih
  have I : DQ A3 A8 fc fr v v8 e8 b8 f2 f6 N ⟨n, su, po, acc, []⟩ pv fv .nils := I
  have hle : acc.length ≤ q2 := hle
  have hx1 : acc ++ (qL qF (q2 - acc.length) e8 b8).1 = (qL qF q2 e7 b7).1 := hx1
  have hx2 : (qL qF (q2 - acc.length) e8 b8).2 = (qL qF q2 e7 b7).2 := hx2
  have hc := I.st.ps.cell
  have done : qL qF (q2 - acc.length) e8 b8 = ([], e8, b8) → DQ A3 A8 fc fr v v8 (qL qF q2 e7 b7).2.1 (qL qF q2 e7 b7).2.2 f2 f6 N ⟨n, su, po, (qL qF q2 e7 b7).1, []⟩ pv fv .nils := fun h0 => by
    rw [h0] at hx1 hx2
    rw [← hx1, ← hx2, List.append_nil]
    exact I
  repeat refine qO ?_
  refine wg_regionTo (.put 0 v0 (.put 2 (.ptr f2 0 0) (.put 4 (.ptr fc 0 0) (.put 5 (.ptr f6 0 0) (.put 6 (.int .i64 (q2 : Int)) (.put 8 (.int .i64 (acc.length : Int)) (.put 73 (.bool (decide ((acc.length : Int) < (q2 : Int) ∧ e8 = false))) .nil))))))) ?_ ?_
  · repeat (first | refine qJ rfl rfl ?_ | refine xM rfl rfl rfl ?_)
    by_cases hlq : (acc.length : Int) < (q2 : Int)
    · refine xA 67 true rfl (decide_eq_true hlq) ?_
      repeat (first | refine qG ?_ | refine qJ rfl rfl ?_ | refine qI rfl rfl rfl ?_ | refine qW rfl rfl ?_ | refine qP rfl rfl rfl rfl (by assumption) rfl ?_ | refine wo_not rfl rfl ?_ | refine qR rfl rfl rfl ?_ | refine qX rfl ?_)
      exact ⟨rfl, rfl, rfl, rfl, rfl, rfl, rfl, congrArg (fun x => some (AV.bool x)) (by cases e8 <;> simp [hlq]), trivial⟩
    · refine xA 67 false rfl (decide_eq_false hlq) ?_
      repeat (first | refine qG ?_ | refine qR rfl rfl rfl ?_ | refine xE rfl rfl ?_)
      exact ⟨rfl, rfl, rfl, rfl, rfl, rfl, rfl, congrArg (fun x => some (AV.bool x)) (by simp [hlq]), trivial⟩
  refine qV rfl (fun hgo => ?_) fun hgo => ?_
  · obtain ⟨hlq, hf⟩ := hgo
    have hk1 : q2 - acc.length = (q2 - (acc.length + 1)) + 1 := by omega
    subst hf
    rw [hk1, qL_next] at hx1 hx2
    clear done hS hI
    have hqf : qF false b8 = qF3 (qT false b8) (qK (qT false b8).2.1 (qT false b8).2.2) (qB (qK (qT false b8).2.1 (qT false b8).2.2).2.1 (qK (qT false b8).2.1 (qT false b8).2.2).2.2) := rfl
    rw [hqf] at hx1 hx2
    clear hqf
    repeat (first | refine qO ?_ | refine qS ?_ | refine qY ?_ | refine qA ?_ | refine qJ rfl rfl ?_)
    refine qU rfl rfl orc_cons rfl (qtext_spec I.st.only.wf I.st.ps) ?_
    rintro r P0 ⟨rfl, x0, stx⟩
    have I := I.read n2 n6 hcN stx
    generalize qT false b8 = y0 at I hx1 hx2
    obtain ⟨a0, d0, g0⟩ := y0
    have I : DQ A3 P0 fc fr v x0 d0 g0 f2 f6 N ⟨n, su, po, acc, []⟩ pv fv .nils := I
    try simp only at hx1 hx2
    repeat refine wo_build rfl rfl rfl ?_
    refine wo_alloc rfl rfl rfl ?_
    refine qZ rfl rfl rfl rfl rfl rfl (by rw [AW.add_get, if_pos rfl]) rfl ?_
    refine wo_A (fun Q0 => Only P0 Q0 none' ∧ Q0.heap.get P0.nxt = some (.cells 0 false 4 (fic ⟨a0, (0, []), false⟩))) ⟨made I.st.only.wf, by rw [AW.put_get, if_pos rfl]; rfl⟩ ?_
    rintro Q0 ⟨oq, h9⟩
    have n9 : N ≤ P0.nxt ∧ (P0.nxt ≠ f2 ∧ P0.nxt ≠ f6) ∧ ¬ pv.isFam P0.nxt ∧ ¬ fv.isFam P0.nxt ∧ ¬ AV.nils.isFam P0.nxt := by
      have w := I.st.only.wf
      have u1 := w _ _ I.h2
      have u2 := w _ _ I.h6
      refine ⟨I.hn, ⟨by omega, by omega⟩, fun k => ?_, fun k => ?_, fun k => k⟩
      · have := I.p.row.under w _ k; omega
      · have := I.f.row.under w _ k; omega
    generalize P0.nxt = f9 at h9 n9
    have l9 := n9.1
    have n9' : A3.nxt ≤ f9 ∧ (f9 ≠ f2 ∧ f9 ≠ f6) ∧ ¬ pv.isFam f9 ∧ ¬ fv.isFam f9 ∧ ¬ AV.nils.isFam f9 := ⟨by omega, n9.2⟩
    have I := I.quiet oq
    repeat (first | refine qO ?_ | refine qA ?_ | refine qG ?_ | refine qJ rfl rfl ?_)
    refine qU rfl rfl orc_cons rfl (qtyp_spec I.st.only.wf I.st.ps) ?_
    rintro r P1 ⟨rfl, x1, stx⟩
    have I := I.read n2 n6 hcN stx
    have h9 := stx.hold hcN h9 l9
    generalize qK d0 g0 = y1 at I hx1 hx2
    obtain ⟨a1, d1, g1⟩ := y1
    have I : DQ A3 P1 fc fr v x1 d1 g1 f2 f6 N ⟨n, su, po, acc, []⟩ pv fv .nils := I
    try simp only at hx1 hx2
    unfold fic at h9
    repeat refine qI rfl rfl rfl ?_
    refine qZ rfl rfl rfl rfl rfl rfl h9 rfl ?_
    refine wo_A (fun Q1 => DQ A3 Q1 fc fr v x1 d1 g1 f2 f6 N ⟨n, su, po, acc, []⟩ pv fv .nils ∧ Q1.heap.get f9 = some (.cells 0 false 4 (fic ⟨a0, a1, false⟩))) ⟨I.keep w3 ps rfl (Only.put I.st.only.wf (I.st.only.wf _ _ h9)) fun g hg => by cases hg; exact n9', by rw [AW.put_get, if_pos rfl]; rfl⟩ ?_
    rintro Q1 ⟨I, h9⟩
    repeat (first | refine qO ?_ | refine qA ?_ | refine qG ?_ | refine qJ rfl rfl ?_)
    refine qU rfl rfl orc_cons rfl (qbyt_spec I.st.only.wf I.st.ps) ?_
    rintro r P2 ⟨rfl, x2, stx⟩
    have I := I.read n2 n6 hcN stx
    have h9 := stx.hold hcN h9 l9
    generalize qB d1 g1 = y2 at I hx1 hx2
    obtain ⟨a2, d2, g2⟩ := y2
    have I : DQ A3 P2 fc fr v x2 d2 g2 f2 f6 N ⟨n, su, po, acc, []⟩ pv fv .nils := I
    try simp only at hx1 hx2
    have hc := I.st.ps.cell
    repeat (first | refine qG ?_ | refine qE rfl rfl ?_)
    repeat refine qO ?_
    refine wg_cut (fun l1 A' => (Kn.put 0 v0 (.put 2 (.ptr f2 0 0) (.put 4 (.ptr fc 0 0) (.put 5 (.ptr f6 0 0) (.put 6 (.int .i64 (q2 : Int)) (.put 8 (.int .i64 (acc.length : Int)) (.put 9 (.ptr f9 0 0) (.put 10 (.int .u8 (a2 : Int)) .nil)))))))).le l1 ∧ A' = P2.put fc (.cells 0 false 2 [.ptr fr 0 0, .bool (d2 || decide ((1 : Int) < (a2 : Int)))])) (fun k' hk => ?_) ?_
    · cases d2 with
      | true =>
        repeat (first | refine qA ?_ | refine qJ rfl rfl ?_ | refine qI rfl rfl rfl ?_ | refine qW rfl rfl ?_ | refine qP rfl rfl rfl rfl (by assumption) rfl ?_ | refine qR rfl rfl rfl ?_ | refine xE rfl rfl ?_)
        refine qZ rfl rfl rfl rfl rfl rfl hc rfl ?_
        repeat refine qG ?_
        exact hk _ _ ⟨⟨rfl, rfl, rfl, rfl, rfl, rfl, rfl, rfl, trivial⟩, rfl⟩
      | false =>
        repeat (first | refine qA ?_ | refine qJ rfl rfl ?_ | refine qI rfl rfl rfl ?_ | refine qW rfl rfl ?_ | refine qP rfl rfl rfl rfl (by assumption) rfl ?_ | refine wo_gtr rfl rfl rfl ?_ | refine qR rfl rfl rfl ?_ | refine qX rfl ?_)
        refine qZ rfl rfl rfl rfl rfl rfl hc rfl ?_
        repeat refine qG ?_
        exact hk _ _ ⟨⟨rfl, rfl, rfl, rfl, rfl, rfl, rfl, rfl, trivial⟩, rfl⟩
    rintro l3 Q2 ⟨hl3, e3⟩
    refine wg_le _ ?_ hl3
    have hq := QStep.err (e1 := d2 || decide ((1 : Int) < (a2 : Int))) I.st.only.wf I.st.ps
    rw [← e3] at hq
    clear e3
    have I := I.read n2 n6 hcN hq
    have h9 := hq.hold hcN h9 l9
    clear hq hc
    unfold fic at h9
    repeat (first | refine qO ?_ | refine qA ?_ | refine qJ rfl rfl ?_ | refine qI rfl rfl rfl ?_ | refine xD rfl rfl rfl ?_)
    refine qZ rfl rfl rfl rfl rfl rfl h9 rfl ?_
    refine wo_A (fun Q3 => DQ A3 Q3 fc fr v x2 (d2 || decide ((1 : Int) < (a2 : Int))) g2 f2 f6 N ⟨n, su, po, acc, []⟩ pv fv .nils ∧ Q3.heap.get f9 = some (.cells 0 false 4 (fic ⟨a0, a1, decide ((a2 : Int) = 1)⟩))) ⟨I.keep w3 ps rfl (Only.put I.st.only.wf (I.st.only.wf _ _ h9)) fun g hg => by cases hg; exact n9', by rw [AW.put_get, if_pos rfl]; rfl⟩ ?_
    rintro Q3 ⟨I, h9⟩
    have h6 := I.h6
    unfold clc at h6
    repeat (first | refine qA ?_ | refine qG ?_ | refine qI rfl rfl rfl ?_ | refine qP rfl rfl rfl rfl (by assumption) rfl ?_)
    refine xG (vs := fic ⟨a0, a1, decide ((a2 : Int) = 1)⟩) rfl rfl rfl rfl h9 rfl ?_
    refine wo_buildSlice rfl rfl rfl ?_
    have hy : (qF3 (a0, d0, g0) (a1, d1, g1) (a2, d2, g2)) = ((⟨a0, a1, decide ((a2 : Int) = 1)⟩ : FiT), d2 || decide ((1 : Int) < (a2 : Int)), g2) := rfl
    rw [hy] at hx1 hx2
    clear hy
    generalize (d2 || decide ((1 : Int) < (a2 : Int))) = e9 at I hx1 hx2
    generalize (⟨a0, a1, decide ((a2 : Int) = 1)⟩ : FiT) = y at hx1 hx2 ⊢
    try simp only at hx1 hx2
    refine wo_append rfl rfl rfl rfl rfl (append_one (n := acc.length) (de := d65) rfl rfl rfl rfl I.st.only.wf I.f rfl (by decide) (room_of2 (by omega) (by decide))) ?_
    intro fv' A7 g
    obtain ⟨h6, D⟩ := I.put (c' := ⟨n, su, po, acc ++ [y], []⟩) (pv' := pv) (fv' := fv') (mv' := .nils) w3 ps l6 n26 s6 s2N l34 g.only I.of (I.p.keep g.only (es_ne (by decide) I.p.row I.f.row)) (by
      show Buf A7 4 fv' (acc ++ [y]).length ((acc ++ [y]).flatMap fic)
      rw [List.length_append, List.length_singleton, List.flatMap_append]
      exact g.buf) ⟨[], nilB, rfl⟩ I.op (fun k hk => (g.grow k hk).elim (I.of k) fun h => Nat.le_trans I.hn h) fun g h => h.elim
    repeat refine qI rfl rfl rfl ?_
    refine qZ rfl rfl g.buf.cells rfl rfl rfl h6 rfl ?_
    refine wo_A (fun A8 => DQ A3 A8 fc fr v x2 e9 g2 f2 f6 N ⟨n, su, po, acc ++ [y], []⟩ pv fv' .nils) D ?_
    clear D h6
    intro A8 I
    repeat (first | refine xB ?_ | refine qA ?_ | refine qG ?_ | refine qJ rfl rfl ?_)
    refine wo_add rfl rfl rfl (by omega) (by omega) ?_
    repeat (first | refine qG ?_ | refine qE rfl rfl ?_)
    refine xN ?_
    refine wg_le (.put 0 v0 (.put 2 (.ptr f2 0 0) (.put 4 (.ptr fc 0 0) (.put 5 (.ptr f6 0 0) (.put 6 (.int .i64 (q2 : Int)) (.put 8 (.int .i64 ((acc ++ [y]).length : Int)) .nil)))))) ?_ ⟨rfl, rfl, rfl, rfl, rfl, by rw [List.length_append, List.length_singleton]; rfl, trivial⟩
    refine ih (acc ++ [y], fv', x2, e9, g2) A8 (by simp only [List.length_append, List.length_singleton]; omega) ⟨I, by simp only [List.length_append, List.length_singleton]; omega, ?_, ?_⟩
    · show (acc ++ [y]) ++ (qL qF (q2 - (acc ++ [y]).length) e9 g2).1 = _
      rw [List.length_append, List.length_singleton, ← hx1, List.append_assoc]
      rfl
    · show (qL qF (q2 - (acc ++ [y]).length) e9 g2).2 = _
      rw [List.length_append, List.length_singleton, ← hx2]
  have I := done (by
    by_cases hlq : (acc.length : Int) < (q2 : Int)
    · cases e8 with
      | true => exact qL_err qF
      | false => exact absurd ⟨hlq, rfl⟩ hgo
    · rw [show q2 - acc.length = 0 from by omega]
      rfl)
  clear ih done hx1 hx2 hgo hle
  refine wg_exit rfl ?_
  generalize qL qF q2 e7 b7 = fi at I hS hI
  obtain ⟨fi, e9, b9⟩ := fi
  have I : DQ A3 A8 fc fr v v8 e9 b9 f2 f6 N ⟨n, su, po, fi, []⟩ pv fv .nils := I
  simp only at hS hI ⊢
  repeat (first | refine qO ?_ | refine qA ?_ | refine qJ rfl rfl ?_)
  refine qU rfl rfl orc_cons rfl (qnum_spec (m := 12) I.st.only.wf I.st.ps (by decide) (by decide)) ?_
  rintro r B9 ⟨rfl, v9, st9⟩
  have I := I.read n2 n6 hcN st9
  have hm3 := qC_most (m := 12) (b := e9) (bs := b9) (by decide)
  generalize qC 12 e9 b9 = q3 at I hm3 hS hI
  obtain ⟨q3, e10, b10⟩ := q3
  have hm3 : (q3 : Int) ≤ 12 := hm3
  have I : DQ A3 B9 fc fr v v9 e10 b10 f2 f6 N ⟨n, su, po, fi, []⟩ pv fv .nils := I
  simp only at hS hI ⊢
  repeat (first | refine qO ?_ | refine qY ?_ | refine qA ?_ | refine qG ?_ | refine qE rfl rfl ?_)
  refine wg_loop ?_
  refine wg_le (.put 0 v0 (.put 2 (.ptr f2 0 0) (.put 4 (.ptr fc 0 0) (.put 5 (.ptr f6 0 0) (.put 6 (.int .i64 (q3 : Int)) (.put 11 (.int .i64 ((0 : Nat) : Int)) .nil)))))) ?_ ⟨rfl, rfl, rfl, rfl, rfl, rfl, trivial⟩
  refine wg_ind (ι := List MeT × AV × AV × Bool × List Nat) (fun i => q3 - i.1.length) (fun i => .put 0 v0 (.put 2 (.ptr f2 0 0) (.put 4 (.ptr fc 0 0) (.put 5 (.ptr f6 0 0) (.put 6 (.int .i64 (q3 : Int)) (.put 11 (.int .i64 (i.1.length : Int)) .nil))))))
    (fun i A5 => DQ A3 A5 fc fr v i.2.2.1 i.2.2.2.1 i.2.2.2.2 f2 f6 N ⟨n, su, po, fi, i.1⟩ pv fv i.2.1 ∧ i.1.length ≤ q3 ∧ i.1 ++ (qL qMe (q3 - i.1.length) i.2.2.2.1 i.2.2.2.2).1 = (qL qMe q3 e10 b10).1 ∧ (qL qMe (q3 - i.1.length) i.2.2.2.1 i.2.2.2.2).2 = (qL qMe q3 e10 b10).2) ?_ ([], .nils, v9, e10, b10) B9 ⟨I, Nat.zero_le _, rfl, rfl⟩
  rintro ⟨acc, mv, v11, e11, b11⟩ A11 ⟨I, hle, hx1, hx2⟩ ih
  have I : DQ A3 A11 fc fr v v11 e11 b11 f2 f6 N ⟨n, su, po, fi, acc⟩ pv fv mv := I
  have hle : acc.length ≤ q3 := hle
  have hx1 : acc ++ (qL qMe (q3 - acc.length) e11 b11).1 = (qL qMe q3 e10 b10).1 := hx1
  have hx2 : (qL qMe (q3 - acc.length) e11 b11).2 = (qL qMe q3 e10 b10).2 := hx2
  have hc := I.st.ps.cell
  have done : qL qMe (q3 - acc.length) e11 b11 = ([], e11, b11) → DQ A3 A11 fc fr v v11 (qL qMe q3 e10 b10).2.1 (qL qMe q3 e10 b10).2.2 f2 f6 N ⟨n, su, po, fi, (qL qMe q3 e10 b10).1⟩ pv fv mv := fun h0 => by
    rw [h0] at hx1 hx2
    rw [← hx1, ← hx2, List.append_nil]
    exact I
  repeat refine qO ?_
  refine wg_regionTo (.put 0 v0 (.put 2 (.ptr f2 0 0) (.put 4 (.ptr fc 0 0) (.put 5 (.ptr f6 0 0) (.put 6 (.int .i64 (q3 : Int)) (.put 11 (.int .i64 (acc.length : Int)) (.put 115 (.bool (decide ((acc.length : Int) < (q3 : Int) ∧ e11 = false))) .nil))))))) ?_ ?_
  · repeat (first | refine qJ rfl rfl ?_ | refine xM rfl rfl rfl ?_)
    by_cases hlq : (acc.length : Int) < (q3 : Int)
    · refine xA 109 true rfl (decide_eq_true hlq) ?_
      repeat (first | refine qG ?_ | refine qJ rfl rfl ?_ | refine qI rfl rfl rfl ?_ | refine qW rfl rfl ?_ | refine qP rfl rfl rfl rfl (by assumption) rfl ?_ | refine wo_not rfl rfl ?_ | refine qR rfl rfl rfl ?_ | refine qX rfl ?_)
      exact ⟨rfl, rfl, rfl, rfl, rfl, rfl, rfl, congrArg (fun x => some (AV.bool x)) (by cases e11 <;> simp [hlq]), trivial⟩
    · refine xA 109 false rfl (decide_eq_false hlq) ?_
      repeat (first | refine qG ?_ | refine qR rfl rfl rfl ?_ | refine xE rfl rfl ?_)
      exact ⟨rfl, rfl, rfl, rfl, rfl, rfl, rfl, congrArg (fun x => some (AV.bool x)) (by simp [hlq]), trivial⟩
  refine qV rfl (fun hgo => ?_) fun hgo => ?_
  · obtain ⟨hlq, hf⟩ := hgo
    have hk1 : q3 - acc.length = (q3 - (acc.length + 1)) + 1 := by omega
    subst hf
    rw [hk1, qL_next] at hx1 hx2
    clear done hS hI
    repeat (first | refine qO ?_ | refine qS ?_ | refine qY ?_)
    have h6 := I.h6
    unfold clc at h6
    refine wg_draw rfl ?_
    repeat (first
      | (refine xC rfl rfl rfl rfl rfl ?_
         repeat (first | refine qG ?_ | refine qJ rfl rfl ?_ | refine qI rfl rfl rfl ?_)
         refine ⟨rfl, ?_⟩)
      | (refine xI rfl rfl rfl rfl rfl rfl rfl ?_
         repeat (first | refine qG ?_ | refine qP rfl rfl rfl rfl (by assumption) rfl ?_)
         refine ⟨rfl, _, rfl, ?_⟩))
    refine wd_act rfl rfl rfl ?_
    refine qU rfl rfl orc_cons rfl (qmethod_spec I.st.only.wf I.st.ps) ?_
    rintro r A12 ⟨⟨xp, xc, xh, rfl, hR⟩, v12, st12⟩
    have hR : MeR A12 N _ xp xc xh := ⟨hR.p, hR.c, hR.h, fun g hg => Nat.le_trans I.hn (hR.op g hg), fun g hg => Nat.le_trans I.hn (hR.oc g hg), fun g hg => Nat.le_trans I.hn (hR.oh g hg)⟩
    have I := I.read n2 n6 hcN st12
    generalize qMe false b11 = y at I hx1 hx2 hR
    obtain ⟨y, e12, b12⟩ := y
    have hR : MeR A12 N y xp xc xh := hR
    have I : DQ A3 A12 fc fr v v12 e12 b12 f2 f6 N ⟨n, su, po, fi, acc⟩ pv fv mv := I
    obtain ⟨cs, hM, hML⟩ := I.m
    repeat refine qG ?_
    refine ⟨⟨.inr (stillG rfl rfl rfl I.h6 rfl (buf_still hM)), trivial⟩, ?_⟩
    refine wd_make rfl rfl rfl rfl ?_
    refine wo_buildSlice rfl rfl rfl ?_
    repeat refine qG ?_
    refine wd_act rfl rfl rfl ?_
    refine wo_append rfl rfl rfl rfl rfl (append_one (n := acc.length) (de := d47) rfl rfl rfl rfl I.st.only.wf hM rfl (by decide) (room_of2 (by omega) (by decide))) ?_
    intro mv' A13 g
    have hT8 : ∀ k, mv.isFam k → k < N ∨ ∃ t cs', A12.heap.get k = some (.cells t false 8 cs') := fun k hk => .inr (buf_es hM hk)
    obtain ⟨h6, D⟩ := I.put (c' := ⟨n, su, po, fi, acc ++ [y]⟩) (pv' := pv) (fv' := fv) (mv' := mv') w3 ps l6 n26 s6 s2N l34 g.only I.om (I.p.keep g.only (es_ne (by decide) I.p.row hM.row)) (I.f.keep g.only (es_ne (by decide) I.f.row hM.row))
      ⟨_, (by
        show Buf A13 8 mv' (acc ++ [y]).length (cs ++ mec y xp xc xh)
        rw [List.length_append, List.length_singleton]
        exact g.buf), MeL.snoc (hR.keep g.only hT8) (hML.keep g.only hT8)⟩ I.op I.of fun k hk => (g.grow k hk).elim (I.om k) fun h => Nat.le_trans I.hn h
    repeat refine qG ?_
    refine ⟨⟨.inl (by show bit 31 1 = true; rfl), trivial⟩, ?_⟩
    repeat (first
      | (refine xC rfl rfl rfl rfl rfl ?_
         repeat (first | refine qG ?_ | refine qI rfl rfl rfl ?_)
         refine ⟨rfl, ?_⟩))
    refine wd_act rfl rfl rfl ?_
    refine qZ rfl rfl g.buf.cells rfl rfl rfl h6 rfl ?_
    refine wo_A (fun A8 => DQ A3 A8 fc fr v v12 e12 b12 f2 f6 N ⟨n, su, po, fi, acc ++ [y]⟩ pv fv mv') D ?_
    clear D h6
    intro A14 I
    repeat refine qG ?_
    refine ⟨⟨.inl (by show bit 127 1 = true; rfl), trivial⟩, wd_nil ?_⟩
    repeat (first | refine xB ?_ | refine qA ?_ | refine qJ rfl rfl ?_)
    refine wo_add rfl rfl rfl (by omega) (by omega) ?_
    repeat (first | refine qG ?_ | refine qE rfl rfl ?_)
    refine xN ?_
    refine wg_le (.put 0 v0 (.put 2 (.ptr f2 0 0) (.put 4 (.ptr fc 0 0) (.put 5 (.ptr f6 0 0) (.put 6 (.int .i64 (q3 : Int)) (.put 11 (.int .i64 ((acc ++ [y]).length : Int)) .nil)))))) ?_ ⟨rfl, rfl, rfl, rfl, rfl, by rw [List.length_append, List.length_singleton]; rfl, trivial⟩
    refine ih (acc ++ [y], mv', v12, e12, b12) A14 (by simp only [List.length_append, List.length_singleton]; omega) ⟨I, by simp only [List.length_append, List.length_singleton]; omega, ?_, ?_⟩
    · show (acc ++ [y]) ++ (qL qMe (q3 - (acc ++ [y]).length) e12 b12).1 = _
      rw [List.length_append, List.length_singleton, ← hx1, List.append_assoc]
      rfl
    · show (qL qMe (q3 - (acc ++ [y]).length) e12 b12).2 = _
      rw [List.length_append, List.length_singleton, ← hx2]
  have I := done (by
    by_cases hlq : (acc.length : Int) < (q3 : Int)
    · cases e11 with
      | true => exact qL_err qMe
      | false => exact absurd ⟨hlq, rfl⟩ hgo
    · rw [show q3 - acc.length = 0 from by omega]
      rfl)
  clear ih done hx1 hx2 hgo hle
  refine wg_exit rfl ?_
  generalize qL qMe q3 e10 b10 = me at I hS hI
  obtain ⟨me, e13, b13⟩ := me
  have I : DQ A3 A11 fc fr v v11 e13 b13 f2 f6 N ⟨n, su, po, fi, me⟩ pv fv mv := I
  unfold qD5 at hS hI ⊢
  simp only at hS hI ⊢
  have hc := I.st.ps.cell
  have hrc := I.st.ps.rd.cell
  have only : ∀ {A' : AW} {e' : Bool} {b' : List Nat} {v' : AV}, QStep A3 A' fc fr v v' e' b' → Only A A' none' := fun k => Only.fresh hw o13 k.only fun g hg => by rcases hg with hg | hg <;> cases hg <;> omega
  repeat refine qO ?_
  refine wg_regionTo (.put 0 v0 (.put 2 (.ptr f2 0 0) (.put 5 (.ptr f6 0 0) (.put 139 (.bool (e13 || decide ((0 : Int) < (b13.length : Int)))) .nil)))) ?_ ?_
  · cases e13 with
    | true =>
      repeat (first | refine qG ?_ | refine qJ rfl rfl ?_ | refine qI rfl rfl rfl ?_ | refine qW rfl rfl ?_ | refine qP rfl rfl rfl rfl (by assumption) rfl ?_ | refine qR rfl rfl rfl ?_ | refine xE rfl rfl ?_)
      exact ⟨rfl, rfl, rfl, rfl, rfl, trivial⟩
    | false =>
      repeat (first | refine qJ rfl rfl ?_ | refine qI rfl rfl rfl ?_ | refine qW rfl rfl ?_ | refine qP rfl rfl rfl rfl (by assumption) rfl ?_ | refine qX rfl ?_)
      refine xJ rfl rfl rfl I.st.ps.rd.full.row.lenV ?_
      repeat (first | refine qG ?_ | refine wo_gtr rfl rfl rfl ?_ | refine qR rfl rfl rfl ?_ | refine qX rfl ?_)
      exact ⟨rfl, rfl, rfl, rfl, rfl, trivial⟩
  refine wg_if rfl (fun hb => ?_) fun hb => ?_
  · repeat (first | refine qO ?_ | refine qA ?_ | refine wo_build rfl rfl rfl ?_)
    refine qZ rfl rfl rfl rfl rfl rfl I.h2 rfl ?_
    repeat (first | refine qG ?_ | refine qE rfl rfl ?_)
    refine wg_ret2 rfl rfl rfl (loadN_eq rfl rfl (by rw [AW.put_get, if_pos rfl]) rfl) ?_
    exact ⟨op2 (only I.st) I.h2, .inl ⟨rfl, fun ok => by rw [ok.1] at hb; cases hb⟩⟩
  repeat (first | refine qO ?_ | refine qS ?_ | refine qA ?_)
  refine xG (vs := clc n su pv fv mv) rfl rfl rfl rfl I.h6 rfl ?_
  refine qU rfl rfl orc_cons rfl (rencode_spec (c := ⟨n, su, po, fi, me⟩) I.st.only.wf I.R (by show po.length < 1000000; omega) hS hI) ?_
  rintro r A15 ⟨hres, o15⟩
  have I : DQ A3 A15 fc fr v v11 e13 b13 f2 f6 N ⟨n, su, po, fi, me⟩ pv fv mv := I.quiet o15
  rcases hres with ⟨e, rfl, hne, hbad⟩ | ⟨vb, rfl, hB, hok, hsz⟩
  · repeat (first | refine qO ?_ | refine qA ?_ | refine qG ?_ | refine qJ rfl rfl ?_ | refine qE rfl rfl ?_ | refine xK rfl rfl rfl ?_ | refine xL rfl rfl rfl ?_)
    refine xA 148 true rfl (decide_eq_true hne) ?_
    repeat (first | refine qO ?_ | refine qA ?_ | refine qG ?_ | refine wo_build rfl rfl rfl ?_ | refine qR rfl rfl rfl ?_ | refine xE rfl rfl ?_ | refine xH rfl ?_)
    refine qZ rfl rfl rfl rfl rfl rfl I.h2 rfl ?_
    repeat (first | refine qG ?_ | refine qE rfl rfl ?_)
    refine wg_ret2 rfl rfl rfl (loadN_eq rfl rfl (by rw [AW.put_get, if_pos rfl]) rfl) ?_
    refine ⟨op2 (only I.st) I.h2, .inl ⟨rfl, fun ok => hbad ⟨ok.2.1, ?_⟩⟩⟩
    have h3 := congrArg List.length ok.2.2
    unfold mods at h3
    rw [List.length_map] at h3
    omega
  · repeat (first | refine qO ?_ | refine qA ?_ | refine qG ?_ | refine qJ rfl rfl ?_ | refine qE rfl rfl ?_ | refine xK rfl rfl rfl ?_ | refine xL rfl rfl rfl ?_ | refine qX rfl ?_)
    refine xA 148 false rfl (decide_eq_false fun h => h rfl) ?_
    refine wo_convert rfl rfl (toStr_row rfl rfl rfl rfl rfl hB.row) ?_
    have hr15 := hr.keep (only I.st) fun _ _ h => h
    repeat (first | refine qJ rfl rfl ?_ | refine qX rfl ?_)
    refine wo_convert rfl rfl (toStr_row rfl rfl rfl rfl rfl hr15) ?_
    rw [mods_id hlt]
    repeat (first | refine qG ?_ | refine qR rfl rfl rfl ?_ | refine wo_strNe rfl rfl rfl ?_ | refine qX rfl ?_)
    refine qV rfl (fun hne => ?_) fun heq => ?_
    · repeat (first | refine qO ?_ | refine qA ?_ | refine wo_build rfl rfl rfl ?_)
      refine qZ rfl rfl rfl rfl rfl rfl I.h2 rfl ?_
      repeat (first | refine qG ?_ | refine qE rfl rfl ?_)
      refine wg_ret2 rfl rfl rfl (loadN_eq rfl rfl (by rw [AW.put_get, if_pos rfl]) rfl) ?_
      exact ⟨op2 (only I.st) I.h2, .inl ⟨rfl, fun ok => hne ok.2.2⟩⟩
    · have heq : mods (encC ⟨n, su, po, fi, me⟩) = bs := Decidable.byContradiction heq
      repeat (first | refine qO ?_ | refine qS ?_ | refine qA ?_)
      refine xG (vs := clc n su pv fv mv) rfl rfl rfl rfl I.h6 rfl ?_
      refine qZ rfl rfl rfl rfl rfl rfl I.h2 rfl ?_
      repeat (first | refine qG ?_ | refine qE rfl rfl ?_)
      refine wg_ret2 rfl rfl rfl (loadN_eq rfl rfl (by rw [AW.put_get, if_pos rfl]) rfl) ?_
      have o2' := Only.put (x := .cells 0 false 5 (clc n su pv fv mv)) I.st.only.wf (I.st.only.wf _ _ I.h2)
      refine ⟨Only.fresh hw (only I.st) o2' fun g hg => by cases hg; exact l2, .inr ⟨pv, fv, mv, rfl, ⟨hb, hok, heq⟩, ?_⟩⟩
      exact (I.R.keep2 I.op I.of I.om o2' fun g hg => by cases hg; exact s2N).mono (by omega)
end Go.Proofs.YtiecclkgjcnaoaaGreat.Ae
