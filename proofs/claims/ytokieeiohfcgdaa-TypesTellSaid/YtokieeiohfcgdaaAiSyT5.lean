/-
  MERGE, by the rules.
-/
import Derived.Test.YtokieeiohfcgdaaAiSyT4
namespace Go.Proofs.Ytokieeiohfcgdaa.Ae
open Go.AE
set_option linter.unusedVariables false
set_option maxRecDepth 100000

structure MI (A A1 : AW) (f4 f5 f6 f7 : Nat) (a : Int) (s : Str) (b : Int) (t : Str) : Prop where
  o : Only A A1 none'
  h4 : A1.heap.get f4 = some (.cells 0 false 2 [.int .i64 a, .str s])
  h5 : A1.heap.get f5 = some (.cells 0 false 2 [.int .i64 b, .str t])
  h6 : A1.heap.get f6 = some (.cells 0 false 2 [.int .i64 0, .str []])
  h7 : A1.heap.get f7 = some (.cells 0 false 2 [.int .i64 6, .str []])
  n6 : A.nxt ≤ f6
theorem MI.keep {A A1 A2 : AW} {f4 f5 f6 f7 : Nat} {a b : Int} {s t : Str} (h : MI A A1 f4 f5 f6 f7 a s b t) (k : Only A1 A2 none') : MI A A2 f4 f5 f6 f7 a s b t :=
  ⟨h.o.same k, k.keep _ _ h.h4 fun h => h, k.keep _ _ h.h5 fun h => h, k.keep _ _ h.h6 fun h => h, k.keep _ _ h.h7 fun h => h, h.n6⟩
theorem MI.done {A A1 : AW} {f4 f5 f6 f7 : Nat} {a b : Int} {s t : Str} {x : AFam} (hw : Wf A) (h : MI A A1 f4 f5 f6 f7 a s b t) : Only A (A1.put f6 x) none' :=
  Only.fresh hw h.o (Only.put h.o.wf (h.o.wf _ _ h.h6)) fun g hg => by cases hg; exact h.n6
theorem made {A : AW} {es : Nat} {cs cs' : List AV} (hw : Wf A) : Only A ((A.add (.cells 0 false es cs)).put A.nxt (.cells 0 false es cs')) none' := by
  have oa : Only A (A.add (.cells 0 false es cs)) none' := Only.add hw _
  have op := Only.put (x := .cells 0 false es cs') oa.wf (f := A.nxt) (Nat.lt_succ_self _)
  exact ⟨op.wf, Nat.le_trans oa.nxt op.nxt, fun g F hg hn => op.keep g F (oa.keep g F hg hn) fun e => by
    have := hw g F hg
    cases e
    omega⟩
theorem merge_spec {K : FuncId} {A : AW} {fr fm : Nat} {vn : AV} {hs : Hs} {x y : Ty'} (hw : Wf A) (h : Hi A fr fm vn hs) (hg : Good hs) (hn : hs.length ≤ 100) (sx : small x.2) (sy : small y.2) :
    CallP (ES K) 24 [.ptr fr 0 0, tv x, tv y] A fun r A1 => r = tv (mergeT hs x y) ∧ Only A A1 none' := by
  obtain ⟨a, s⟩ := x
  obtain ⟨b, t⟩ := y
  refine call_of rfl rfl rfl ?_
  unfold tv
  repeat (first | refine wg_seq ?_ | refine wg_region ?_)
  refine wo_box rfl rfl rfl rfl ?_
  refine wo_A (fun A1 => Only A A1 none' ∧ A1.heap.get A.nxt = some (.cells 0 false 2 [.int .i64 a, .str s])) ⟨Only.add hw _, by rw [AW.add_get, if_pos rfl]; rfl⟩ ?_
  rintro A1 ⟨o1, h4⟩
  generalize A.nxt = f4 at h4
  refine wo_box rfl rfl rfl rfl ?_
  refine wo_A (fun A2 => Only A1 A2 none' ∧ A2.heap.get A1.nxt = some (.cells 0 false 2 [.int .i64 b, .str t])) ⟨Only.add o1.wf _, by rw [AW.add_get, if_pos rfl]; rfl⟩ ?_
  rintro A2 ⟨o2, h5⟩
  generalize A1.nxt = f5 at h5
  have h4 := o2.keep _ _ h4 fun h => h
  have o12 := o1.same o2
  refine wo_alloc rfl rfl rfl ?_
  refine wo_A (fun A3 => Only A2 A3 none' ∧ A3.heap.get A2.nxt = some (.cells 0 false 2 [.int .i64 0, .str []])) ⟨Only.add o12.wf _, by rw [AW.add_get, if_pos rfl]; rfl⟩ ?_
  rintro A3 ⟨o3, h6⟩
  have n6 := o12.nxt
  generalize A2.nxt = f6 at h6 n6
  have h4 := o3.keep _ _ h4 fun h => h
  have h5 := o3.keep _ _ h5 fun h => h
  have o13 := o12.same o3
  repeat (first | refine wg_seq ?_ | refine wg_region ?_ | refine wo_nil ?_ | refine wo_build rfl rfl rfl ?_)
  refine wo_alloc rfl rfl rfl ?_
  refine wo_store rfl rfl rfl rfl rfl rfl (by rw [AW.add_get, if_pos rfl]) rfl ?_
  refine wo_A (fun A4 => Only A3 A4 none' ∧ A4.heap.get A3.nxt = some (.cells 0 false 2 [.int .i64 6, .str []])) ⟨made o13.wf, by rw [AW.put_get, if_pos rfl]; rfl⟩ ?_
  rintro A4 ⟨o4, h7⟩
  generalize A3.nxt = f7 at h7
  have inv : MI A A4 f4 f5 f6 f7 a s b t := ⟨o13.same o4, o4.keep _ _ h4 fun h => h, o4.keep _ _ h5 fun h => h, o4.keep _ _ h6 fun h => h, h7, n6⟩
  unfold mergeT
  repeat (first | refine wg_seq ?_ | refine wg_block ?_ | refine wg_region ?_ | refine wo_nil ?_)
  refine wo_loadN rfl rfl rfl rfl inv.h4 rfl ?_
  refine wo_loadN rfl rfl rfl rfl inv.h5 rfl ?_
  refine wo_tyEq (a := (a, s)) (b := (b, t)) rfl rfl rfl sx sy ?_
  repeat (first | refine wo_nil ?_ | refine wo_assign rfl rfl ?_)
  refine wg_dec rfl (fun he => ?_) fun he => ?_
  · rw [if_pos he]
    repeat (first | refine wg_seq ?_ | refine wg_region ?_)
    refine wo_loadN rfl rfl rfl rfl inv.h4 rfl ?_
    refine wo_store rfl rfl rfl rfl rfl rfl inv.h6 rfl ?_
    repeat refine wo_nil ?_
    refine wg_ret1 rfl rfl (loadN_eq rfl rfl (by rw [AW.put_get, if_pos rfl]) rfl) ?_
    exact ⟨rfl, inv.done hw⟩
  rw [if_neg he]
  repeat refine wg_seq ?_
  refine wg_cut (fun l1 A1 => (Kn.put 0 (.ptr fr 0 0) (.put 4 (.ptr f4 0 0) (.put 5 (.ptr f5 0 0) (.put 6 (.ptr f6 0 0) (.put 7 (.ptr f7 0 0) (.put 15 (.bool (decide (a = 5 ∧ refersT (b, t)))) .nil)))))).le l1 ∧ MI A A1 f4 f5 f6 f7 a s b t) (fun k' hk => ?_) ?_
  · have h4 := inv.h4
    repeat (first | refine wg_region ?_ | refine wo_move rfl rfl ?_ | refine wo_fieldAddr rfl rfl rfl ?_ | refine wo_load rfl rfl rfl rfl (by assumption) rfl ?_ | refine wo_eql rfl rfl rfl ?_)
    by_cases c1 : a = 5
    · refine wo_is 19 true rfl (decide_eq_true c1) ?_
      repeat refine wo_on rfl ?_
      refine wo_loadN rfl rfl rfl rfl inv.h5 rfl ?_
      repeat refine wo_on rfl ?_
      refine wo_call rfl rfl orc_cons rfl (refers_spec (x := (b, t)) inv.o.wf) ?_
      rintro r A5 ⟨rfl, o5⟩
      repeat (first | refine wo_nil ?_ | refine wo_assign rfl rfl ?_ | refine wo_pick rfl rfl rfl ?_)
      exact hk _ _ ⟨⟨rfl, rfl, rfl, rfl, rfl, congrArg (fun x => some (AV.bool x)) (decide_eq_decide.2 ⟨fun h => ⟨c1, h⟩, fun h => h.2⟩), trivial⟩, inv.keep o5⟩
    · refine wo_is 19 false rfl (decide_eq_false c1) ?_
      repeat (first | refine wo_nil ?_ | refine wo_assign rfl rfl ?_ | refine wo_pick rfl rfl rfl ?_ | refine wo_off rfl rfl ?_)
      exact hk _ _ ⟨⟨rfl, rfl, rfl, rfl, rfl, congrArg (fun x => some (AV.bool x)) (decide_eq_false fun h => c1 h.1).symm, trivial⟩, inv⟩
  rintro l1 A4 ⟨hl, inv⟩
  refine wg_le _ ?_ hl
  refine wg_dec rfl (fun h1 => ?_) fun h1 => ?_
  · rw [if_pos h1]
    repeat (first | refine wg_seq ?_ | refine wg_region ?_)
    refine wo_loadN rfl rfl rfl rfl inv.h5 rfl ?_
    refine wo_store rfl rfl rfl rfl rfl rfl inv.h6 rfl ?_
    repeat refine wo_nil ?_
    refine wg_ret1 rfl rfl (loadN_eq rfl rfl (by rw [AW.put_get, if_pos rfl]) rfl) ?_
    exact ⟨rfl, inv.done hw⟩
  rw [if_neg h1]
  repeat refine wg_seq ?_
  refine wg_cut (fun l1 A1 => (Kn.put 0 (.ptr fr 0 0) (.put 4 (.ptr f4 0 0) (.put 5 (.ptr f5 0 0) (.put 6 (.ptr f6 0 0) (.put 7 (.ptr f7 0 0) (.put 24 (.bool (decide (b = 5 ∧ refersT (a, s)))) .nil)))))).le l1 ∧ MI A A1 f4 f5 f6 f7 a s b t) (fun k' hk => ?_) ?_
  · have h5 := inv.h5
    repeat (first | refine wg_region ?_ | refine wo_move rfl rfl ?_ | refine wo_fieldAddr rfl rfl rfl ?_ | refine wo_load rfl rfl rfl rfl (by assumption) rfl ?_ | refine wo_eql rfl rfl rfl ?_)
    by_cases c1 : b = 5
    · refine wo_is 28 true rfl (decide_eq_true c1) ?_
      repeat refine wo_on rfl ?_
      refine wo_loadN rfl rfl rfl rfl inv.h4 rfl ?_
      repeat refine wo_on rfl ?_
      refine wo_call rfl rfl orc_cons rfl (refers_spec (x := (a, s)) inv.o.wf) ?_
      rintro r A5 ⟨rfl, o5⟩
      repeat (first | refine wo_nil ?_ | refine wo_assign rfl rfl ?_ | refine wo_pick rfl rfl rfl ?_)
      exact hk _ _ ⟨⟨rfl, rfl, rfl, rfl, rfl, congrArg (fun x => some (AV.bool x)) (decide_eq_decide.2 ⟨fun h => ⟨c1, h⟩, fun h => h.2⟩), trivial⟩, inv.keep o5⟩
    · refine wo_is 28 false rfl (decide_eq_false c1) ?_
      repeat (first | refine wo_nil ?_ | refine wo_assign rfl rfl ?_ | refine wo_pick rfl rfl rfl ?_ | refine wo_off rfl rfl ?_)
      exact hk _ _ ⟨⟨rfl, rfl, rfl, rfl, rfl, congrArg (fun x => some (AV.bool x)) (decide_eq_false fun h => c1 h.1).symm, trivial⟩, inv⟩
  rintro l1 A4 ⟨hl, inv⟩
  refine wg_le _ ?_ hl
  refine wg_dec rfl (fun h2 => ?_) fun h2 => ?_
  · rw [if_pos h2]
    repeat (first | refine wg_seq ?_ | refine wg_region ?_)
    refine wo_loadN rfl rfl rfl rfl inv.h4 rfl ?_
    refine wo_store rfl rfl rfl rfl rfl rfl inv.h6 rfl ?_
    repeat refine wo_nil ?_
    refine wg_ret1 rfl rfl (loadN_eq rfl rfl (by rw [AW.put_get, if_pos rfl]) rfl) ?_
    exact ⟨rfl, inv.done hw⟩
  rw [if_neg h2]
  have h4 := inv.h4
  have h5 := inv.h5
  repeat refine wg_seq ?_
  refine wg_regionTo (.put 0 (.ptr fr 0 0) (.put 4 (.ptr f4 0 0) (.put 5 (.ptr f5 0 0) (.put 6 (.ptr f6 0 0) (.put 7 (.ptr f7 0 0) (.put 33 (.bool (decide (a ≠ 4 ∨ b ≠ 4))) .nil)))))) ?_ ?_
  · repeat (first | refine wo_move rfl rfl ?_ | refine wo_fieldAddr rfl rfl rfl ?_ | refine wo_load rfl rfl rfl rfl (by assumption) rfl ?_ | refine wo_neq rfl rfl rfl ?_)
    by_cases c1 : a = 4
    · refine wo_is 37 false rfl (decide_eq_false fun h => h c1) ?_
      repeat (first | refine wo_nil ?_ | refine wo_assign rfl rfl ?_ | refine wo_fieldAddr rfl rfl rfl ?_ | refine wo_load rfl rfl rfl rfl (by assumption) rfl ?_ | refine wo_neq rfl rfl rfl ?_ | refine wo_pick rfl rfl rfl ?_ | refine wo_on rfl ?_)
      exact ⟨rfl, rfl, rfl, rfl, rfl, rfl, congrArg (fun x => some (AV.bool x)) (decide_eq_decide.2 ⟨fun h => .inr h, fun h => h.resolve_left fun h => h c1⟩), trivial⟩
    · refine wo_is 37 true rfl (decide_eq_true c1) ?_
      repeat (first | refine wo_nil ?_ | refine wo_assign rfl rfl ?_ | refine wo_pick rfl rfl rfl ?_ | refine wo_off rfl rfl ?_)
      exact ⟨rfl, rfl, rfl, rfl, rfl, rfl, congrArg (fun x => some (AV.bool x)) (decide_eq_true (.inl c1)).symm, trivial⟩
  refine wg_dec rfl (fun h3 => ?_) fun h3 => ?_
  · rw [if_pos h3]
    repeat (first | refine wg_seq ?_ | refine wg_region ?_)
    refine wo_loadN rfl rfl rfl rfl inv.h7 rfl ?_
    refine wo_store rfl rfl rfl rfl rfl rfl inv.h6 rfl ?_
    repeat refine wo_nil ?_
    refine wg_ret1 rfl rfl (loadN_eq rfl rfl (by rw [AW.put_get, if_pos rfl]) rfl) ?_
    exact ⟨rfl, inv.done hw⟩
  rw [if_neg h3]
  repeat (first | refine wg_seq ?_ | refine wg_skip ?_ | refine wg_inBlock ?_ | refine wg_region ?_ | refine wo_move rfl rfl ?_ | refine wo_fieldAddr rfl rfl rfl ?_ | refine wo_load rfl rfl rfl rfl (by assumption) rfl ?_)
  refine wo_call rfl rfl orc_cons rfl (com_spec inv.o.wf (h.keep inv.o) hg hn) ?_
  rintro r A5 ⟨rfl, o5⟩
  have inv := inv.keep o5
  repeat (first | refine wg_seq ?_ | refine wg_region ?_ | refine wo_nil ?_ | refine wo_move rfl rfl ?_ | refine wo_assign rfl rfl ?_ | refine wo_strNe rfl rfl rfl ?_)
  refine wg_dec rfl (fun h0 => ?_) fun h0 => ?_
  · have h0 : com hs s t ≠ [] := h0
    rw [if_pos h0]
    repeat (first | refine wg_seq ?_ | refine wg_region ?_ | refine wo_move rfl rfl ?_ | refine wo_build rfl rfl rfl ?_)
    refine wo_store rfl rfl rfl rfl rfl rfl inv.h6 rfl ?_
    repeat refine wo_nil ?_
    refine wg_ret1 rfl rfl (loadN_eq rfl rfl (by rw [AW.put_get, if_pos rfl]) rfl) ?_
    exact ⟨rfl, inv.done hw⟩
  · have h0 : ¬ com hs s t ≠ [] := h0
    rw [if_neg h0]
    repeat (first | refine wg_seq ?_ | refine wg_skip ?_ | refine wg_region ?_)
    refine wo_loadN rfl rfl rfl rfl inv.h7 rfl ?_
    refine wo_store rfl rfl rfl rfl rfl rfl inv.h6 rfl ?_
    repeat refine wo_nil ?_
    refine wg_ret1 rfl rfl (loadN_eq rfl rfl (by rw [AW.put_get, if_pos rfl]) rfl) ?_
    exact ⟨rfl, inv.done hw⟩
end Go.Proofs.Ytokieeiohfcgdaa.Ae
