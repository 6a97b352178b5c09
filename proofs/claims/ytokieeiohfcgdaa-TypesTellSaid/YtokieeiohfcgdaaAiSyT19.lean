/-
  THE DOCUMENT'S MERGE, by the rules.
-/
import Derived.Test.YtokieeiohfcgdaaAiSyT18
import Derived.Test.YtokieeiohfcgdaaAiSyT9
namespace Go.Proofs.Ytokieeiohfcgdaa.Ae
open Go.AE
set_option linter.unusedVariables false
set_option maxRecDepth 100000

theorem stillF {K : FuncId} {C : FnE} {l : Kn} {A : AW} {d : Option Tmp} {t : Tmp} {ty : TypeId} {pos : String} {after : Array Edge} {g : Option (Nat × Bool)} {f : Nat} {a : Int} {s : Str} (hl : l.find t = some (.ptr f 0 0)) (hf : A.heap.get f = some (.cells 0 false 2 [.int .i64 a, .str s])) :
    (∀ F, Kf C l F → execA (ES K) F ⟨d, .load 3 (.tmp t), ty, pos, after, g⟩ A = .val (.int .i64 a) A) ∧ valEq (.int .i64 a) (.int .i64 a) = true := by
  refine ⟨fun F hF => ?_, stillInt⟩
  show liftR (loadA (ES K) 3 (ev F (.tmp t)) A) = _
  rw [hF.ev (x := .tmp t) (v := .ptr f 0 0) hl, loadA_eq (dt := d3) rfl rfl hf rfl]
  rfl
theorem com_some {hs : Hs} (t : Tree hs) (a b : Str) : com hs a b ≠ [] ↔ has hs a = true ∧ has hs b = true := by
  have hnil : ∀ l : List Str, fstIn l [] = [] := fun l => by
    induction l with
    | nil => rfl
    | cons x l ih => unfold fstIn; rw [if_neg List.not_mem_nil]; exact ih
  refine ⟨fun h => ?_, fun ⟨ha, hb⟩ h => ?_⟩
  · cases ha : has hs a with
    | false =>
      refine absurd ?_ h
      unfold com
      have : anc hs a = [] := by unfold anc; rw [if_neg (by rw [ha]; decide)]
      rw [this]
      rfl
    | true =>
      cases hb : has hs b with
      | true => exact ⟨rfl, rfl⟩
      | false =>
        refine absurd ?_ h
        unfold com
        have : anc hs b = [] := by unfold anc; rw [if_neg (by rw [hb]; decide)]
        rw [this]
        exact hnil _
  · have := anc_has t a ha _ (com_lub t hb a ha).1
    rw [h, t.nz] at this
    cases this
structure MR (A A1 : AW) (f4 f5 f6 : Nat) (a : Int) (s : Str) (b : Int) (t : Str) : Prop where
  o : Only A A1 none'
  h4 : A1.heap.get f4 = some (.cells 0 false 2 [.int .i64 a, .str s])
  h5 : A1.heap.get f5 = some (.cells 0 false 2 [.int .i64 b, .str t])
  h6 : A1.heap.get f6 = some (.cells 0 false 2 [.int .i64 0, .str []])
  n6 : A.nxt ≤ f6
theorem MR.keep {A A1 A2 : AW} {f4 f5 f6 : Nat} {a b : Int} {s t : Str} (h : MR A A1 f4 f5 f6 a s b t) (k : Only A1 A2 none') : MR A A2 f4 f5 f6 a s b t :=
  ⟨h.o.same k, k.keep _ _ h.h4 fun h => h, k.keep _ _ h.h5 fun h => h, k.keep _ _ h.h6 fun h => h, h.n6⟩
theorem MR.done {A A1 : AW} {f4 f5 f6 : Nat} {a b : Int} {s t : Str} {x : AFam} (hw : Wf A) (h : MR A A1 f4 f5 f6 a s b t) : Only A (A1.put f6 x) none' :=
  Only.fresh hw h.o (Only.put h.o.wf (h.o.wf _ _ h.h6)) fun g hg => by cases hg; exact h.n6
set_option maxHeartbeats 4000000 in
theorem rmerge_spec {K : FuncId} {A : AW} {fr : Nat} {vn vs : AV} {hs : Hs} {x y : Ty'} (hw : Wf A) (h : Ri A fr vn vs hs) (ht : Tree hs) (hd : Hd hs) (sx : small x.2) (sy : small y.2) :
    CallP (ES K) 33 [.ptr fr 0 0, tv x, tv y] A fun r A1 => r = tv (mergeT hs x y) ∧ Only A A1 none' := by
  obtain ⟨a, s⟩ := x
  obtain ⟨b, t⟩ := y
  refine call_of rfl rfl rfl ?_
  unfold tv
  repeat (first | refine wg_seq ?_ | refine wg_region ?_)
  refine wo_box rfl rfl rfl rfl ?_
  refine wo_A (fun A1 => Only A A1 none' ∧ A1.heap.get A.nxt = some (.cells 0 false 2 [.int .i64 a, .str s])) ⟨Only.add hw _, by rw [AW.add_get, if_pos rfl]; rfl⟩ ?_
  rintro A1 ⟨o1, h4⟩
  generalize A.nxt = f4 at h4
  refine wo_box rfl rfl rfl rfl ?_
  refine wo_A (fun A2 => Only A1 A2 none' ∧ A2.heap.get A1.nxt = some (.cells 0 false 2 [.int .i64 b, .str t])) ⟨Only.add o1.wf _, by rw [AW.add_get, if_pos rfl]; rfl⟩ ?_
  rintro A2 ⟨o2, h5⟩
  generalize A1.nxt = f5 at h5
  have h4 := o2.keep _ _ h4 fun h => h
  have o12 := o1.same o2
  refine wo_alloc rfl rfl rfl ?_
  refine wo_A (fun A3 => Only A2 A3 none' ∧ A3.heap.get A2.nxt = some (.cells 0 false 2 [.int .i64 0, .str []])) ⟨Only.add o12.wf _, by rw [AW.add_get, if_pos rfl]; rfl⟩ ?_
  rintro A3 ⟨o3, h6⟩
  have n6 := o12.nxt
  generalize A2.nxt = f6 at h6 n6
  have h4 := o3.keep _ _ h4 fun h => h
  have h5 := o3.keep _ _ h5 fun h => h
  have o13 := o12.same o3
  repeat refine wo_nil ?_
  repeat refine wg_seq ?_
  refine wg_cut (fun l1 A1 => (Kn.put 0 (.ptr fr 0 0) (.put 4 (.ptr f4 0 0) (.put 5 (.ptr f5 0 0) (.put 6 (.ptr f6 0 0) (.put 7 (.bool (decide (refersT (a, s)))) (.put 8 (.bool (decide (refersT (b, t)))) .nil)))))).le l1 ∧ A1 = A3) (fun k' hk => ?_) ?_
  · refine wg_draw rfl ?_
    repeat (first
      | (refine wd_pure rfl rfl rfl rfl rfl ?_
         repeat (first | refine wo_nil ?_ | refine wo_move rfl rfl ?_ | refine wo_fieldAddr rfl rfl rfl ?_ | refine wo_eql rfl rfl rfl ?_)
         refine ⟨rfl, ?_⟩)
      | (refine wd_read rfl rfl rfl rfl rfl rfl rfl ?_
         repeat (first | refine wo_nil ?_ | refine wo_load rfl rfl rfl rfl (by assumption) rfl ?_)
         refine ⟨rfl, _, rfl, ?_⟩))
    by_cases c1 : a = 3
    · refine wd_is 12 true rfl (decide_eq_true c1) ?_
      have e1 : decide (refersT (a, s)) = true := decide_eq_true (.inl c1)
      repeat (first
        | (refine wd_pure rfl rfl rfl rfl rfl ?_
           repeat (first | refine wo_nil ?_ | refine wo_off rfl rfl ?_)
           refine ⟨rfl, ?_⟩))
      refine wd_off rfl rfl rfl rfl rfl ?_
      repeat (first | refine wo_nil ?_ | refine wo_off rfl rfl ?_)
      refine ⟨rfl, ?_⟩
      repeat (first
        | (refine wd_pure rfl rfl rfl rfl rfl ?_
           repeat (first | refine wo_nil ?_ | refine wo_move rfl rfl ?_ | refine wo_fieldAddr rfl rfl rfl ?_ | refine wo_eql rfl rfl rfl ?_ | refine wo_pick rfl rfl rfl ?_ | refine wo_off rfl rfl ?_)
           refine ⟨rfl, ?_⟩)
        | (refine wd_read rfl rfl rfl rfl rfl rfl rfl ?_
           repeat (first | refine wo_nil ?_ | refine wo_load rfl rfl rfl rfl (by assumption) rfl ?_)
           refine ⟨rfl, _, rfl, ?_⟩))
      by_cases c2 : b = 3
      · refine wd_is 20 true rfl (decide_eq_true c2) ?_
        have e2 : decide (refersT (b, t)) = true := decide_eq_true (.inl c2)
        repeat (first
          | (refine wd_pure rfl rfl rfl rfl rfl ?_
             repeat (first | refine wo_nil ?_ | refine wo_off rfl rfl ?_)
             refine ⟨rfl, ?_⟩))
        refine wd_off rfl rfl rfl rfl rfl ?_
        repeat (first | refine wo_nil ?_ | refine wo_off rfl rfl ?_)
        refine ⟨rfl, ?_⟩
        repeat (first
          | (refine wd_pure rfl rfl rfl rfl rfl ?_
             repeat (first | refine wo_nil ?_ | refine wo_pick rfl rfl rfl ?_ | refine wo_off rfl rfl ?_)
             refine ⟨rfl, ?_⟩))
        refine wd_act rfl rfl rfl ?_
        repeat (first | refine wo_nil ?_ | refine wo_assign rfl rfl ?_)
        refine ⟨?_, ?_⟩
        · repeat (first | exact trivial | refine ⟨.inr (stillF rfl h5), ?_⟩ | refine ⟨.inr (stillF rfl h4), ?_⟩)
        refine wd_act rfl rfl rfl ?_
        repeat (first | refine wo_nil ?_ | refine wo_assign rfl rfl ?_)
        refine ⟨?_, wd_nil ?_⟩
        · repeat (first | exact trivial | refine ⟨.inr (stillF rfl h5), ?_⟩ | refine ⟨.inr (stillF rfl h4), ?_⟩)
        exact hk _ _ ⟨⟨rfl, rfl, rfl, rfl, by rw [e1]; rfl, by rw [e2]; rfl, trivial⟩, rfl⟩
      · refine wd_is 20 false rfl (decide_eq_false c2) ?_
        have e2 : decide (refersT (b, t)) = decide (b = 4) := decide_eq_decide.2 ⟨fun h => h.resolve_left c2, .inr⟩
        repeat (first
          | (refine wd_pure rfl rfl rfl rfl rfl ?_
             repeat (first | refine wo_nil ?_ | refine wo_fieldAddr rfl rfl rfl ?_ | refine wo_eql rfl rfl rfl ?_ | refine wo_pick rfl rfl rfl ?_ | refine wo_on rfl ?_)
             refine ⟨rfl, ?_⟩)
          | (refine wd_read rfl rfl rfl rfl rfl rfl rfl ?_
             repeat (first | refine wo_nil ?_ | refine wo_load rfl rfl rfl rfl (by assumption) rfl ?_ | refine wo_on rfl ?_)
             refine ⟨rfl, _, rfl, ?_⟩))
        refine wd_act rfl rfl rfl ?_
        repeat (first | refine wo_nil ?_ | refine wo_assign rfl rfl ?_)
        refine ⟨?_, ?_⟩
        · repeat (first | exact trivial | refine ⟨.inr (stillF rfl h5), ?_⟩ | refine ⟨.inr (stillF rfl h4), ?_⟩)
        refine wd_act rfl rfl rfl ?_
        repeat (first | refine wo_nil ?_ | refine wo_assign rfl rfl ?_)
        refine ⟨?_, wd_nil ?_⟩
        · repeat (first | exact trivial | refine ⟨.inr (stillF rfl h5), ?_⟩ | refine ⟨.inr (stillF rfl h4), ?_⟩)
        exact hk _ _ ⟨⟨rfl, rfl, rfl, rfl, by rw [e1]; rfl, by rw [e2]; rfl, trivial⟩, rfl⟩
    · refine wd_is 12 false rfl (decide_eq_false c1) ?_
      have e1 : decide (refersT (a, s)) = decide (a = 4) := decide_eq_decide.2 ⟨fun h => h.resolve_left c1, .inr⟩
      repeat (first
        | (refine wd_pure rfl rfl rfl rfl rfl ?_
           repeat (first | refine wo_nil ?_ | refine wo_move rfl rfl ?_ | refine wo_fieldAddr rfl rfl rfl ?_ | refine wo_eql rfl rfl rfl ?_ | refine wo_pick rfl rfl rfl ?_ | refine wo_on rfl ?_)
           refine ⟨rfl, ?_⟩)
        | (refine wd_read rfl rfl rfl rfl rfl rfl rfl ?_
           repeat (first | refine wo_nil ?_ | refine wo_load rfl rfl rfl rfl (by assumption) rfl ?_ | refine wo_on rfl ?_)
           refine ⟨rfl, _, rfl, ?_⟩))
      by_cases c2 : b = 3
      · refine wd_is 20 true rfl (decide_eq_true c2) ?_
        have e2 : decide (refersT (b, t)) = true := decide_eq_true (.inl c2)
        repeat (first
          | (refine wd_pure rfl rfl rfl rfl rfl ?_
             repeat (first | refine wo_nil ?_ | refine wo_off rfl rfl ?_)
             refine ⟨rfl, ?_⟩))
        refine wd_off rfl rfl rfl rfl rfl ?_
        repeat (first | refine wo_nil ?_ | refine wo_off rfl rfl ?_)
        refine ⟨rfl, ?_⟩
        repeat (first
          | (refine wd_pure rfl rfl rfl rfl rfl ?_
             repeat (first | refine wo_nil ?_ | refine wo_pick rfl rfl rfl ?_ | refine wo_off rfl rfl ?_)
             refine ⟨rfl, ?_⟩))
        refine wd_act rfl rfl rfl ?_
        repeat (first | refine wo_nil ?_ | refine wo_assign rfl rfl ?_)
        refine ⟨?_, ?_⟩
        · repeat (first | exact trivial | refine ⟨.inr (stillF rfl h5), ?_⟩ | refine ⟨.inr (stillF rfl h4), ?_⟩)
        refine wd_act rfl rfl rfl ?_
        repeat (first | refine wo_nil ?_ | refine wo_assign rfl rfl ?_)
        refine ⟨?_, wd_nil ?_⟩
        · repeat (first | exact trivial | refine ⟨.inr (stillF rfl h5), ?_⟩ | refine ⟨.inr (stillF rfl h4), ?_⟩)
        exact hk _ _ ⟨⟨rfl, rfl, rfl, rfl, by rw [e1]; rfl, by rw [e2]; rfl, trivial⟩, rfl⟩
      · refine wd_is 20 false rfl (decide_eq_false c2) ?_
        have e2 : decide (refersT (b, t)) = decide (b = 4) := decide_eq_decide.2 ⟨fun h => h.resolve_left c2, .inr⟩
        repeat (first
          | (refine wd_pure rfl rfl rfl rfl rfl ?_
             repeat (first | refine wo_nil ?_ | refine wo_fieldAddr rfl rfl rfl ?_ | refine wo_eql rfl rfl rfl ?_ | refine wo_pick rfl rfl rfl ?_ | refine wo_on rfl ?_)
             refine ⟨rfl, ?_⟩)
          | (refine wd_read rfl rfl rfl rfl rfl rfl rfl ?_
             repeat (first | refine wo_nil ?_ | refine wo_load rfl rfl rfl rfl (by assumption) rfl ?_ | refine wo_on rfl ?_)
             refine ⟨rfl, _, rfl, ?_⟩))
        refine wd_act rfl rfl rfl ?_
        repeat (first | refine wo_nil ?_ | refine wo_assign rfl rfl ?_)
        refine ⟨?_, ?_⟩
        · repeat (first | exact trivial | refine ⟨.inr (stillF rfl h5), ?_⟩ | refine ⟨.inr (stillF rfl h4), ?_⟩)
        refine wd_act rfl rfl rfl ?_
        repeat (first | refine wo_nil ?_ | refine wo_assign rfl rfl ?_)
        refine ⟨?_, wd_nil ?_⟩
        · repeat (first | exact trivial | refine ⟨.inr (stillF rfl h5), ?_⟩ | refine ⟨.inr (stillF rfl h4), ?_⟩)
        exact hk _ _ ⟨⟨rfl, rfl, rfl, rfl, by rw [e1]; rfl, by rw [e2]; rfl, trivial⟩, rfl⟩
  rintro l1 A4 ⟨hl, e4⟩
  subst e4
  refine wg_le _ ?_ hl
  have inv : MR A A4 f4 f5 f6 a s b t := ⟨o13, h4, h5, h6, n6⟩
  unfold mergeT
  repeat (first | refine wg_seq ?_ | refine wg_block ?_ | refine wg_region ?_)
  refine wo_loadN rfl rfl rfl rfl inv.h4 rfl ?_
  refine wo_loadN rfl rfl rfl rfl inv.h5 rfl ?_
  refine wo_tyEq (a := (a, s)) (b := (b, t)) rfl rfl rfl sx sy ?_
  repeat (first | refine wo_nil ?_ | refine wo_assign rfl rfl ?_)
  refine wg_dec rfl (fun he => ?_) fun he => ?_
  · rw [if_pos he]
    repeat (first | refine wg_seq ?_ | refine wg_region ?_)
    refine wo_loadN rfl rfl rfl rfl inv.h4 rfl ?_
    refine wo_store rfl rfl rfl rfl rfl rfl inv.h6 rfl ?_
    repeat refine wo_nil ?_
    refine wg_ret1 rfl rfl (loadN_eq rfl rfl (by rw [AW.put_get, if_pos rfl]) rfl) ?_
    exact ⟨rfl, inv.done hw⟩
  rw [if_neg he]
  repeat refine wg_seq ?_
  refine wg_regionTo (.put 0 (.ptr fr 0 0) (.put 4 (.ptr f4 0 0) (.put 5 (.ptr f5 0 0) (.put 6 (.ptr f6 0 0) (.put 7 (.bool (decide (refersT (a, s)))) (.put 30 (.bool (decide (a = 5 ∧ refersT (b, t)))) .nil)))))) ?_ ?_
  · repeat (first | refine wo_move rfl rfl ?_ | refine wo_fieldAddr rfl rfl rfl ?_ | refine wo_load rfl rfl rfl rfl (by assumption) rfl ?_ | refine wo_eql rfl rfl rfl ?_)
    by_cases c1 : a = 5
    · refine wo_is 34 true rfl (decide_eq_true c1) ?_
      repeat (first | refine wo_nil ?_ | refine wo_move rfl rfl ?_ | refine wo_assign rfl rfl ?_ | refine wo_pick rfl rfl rfl ?_ | refine wo_on rfl ?_)
      exact ⟨rfl, rfl, rfl, rfl, rfl, rfl, congrArg (fun x => some (AV.bool x)) (decide_eq_decide.2 ⟨fun h => ⟨c1, h⟩, fun h => h.2⟩), trivial⟩
    · refine wo_is 34 false rfl (decide_eq_false c1) ?_
      repeat (first | refine wo_nil ?_ | refine wo_assign rfl rfl ?_ | refine wo_pick rfl rfl rfl ?_ | refine wo_off rfl rfl ?_)
      exact ⟨rfl, rfl, rfl, rfl, rfl, rfl, congrArg (fun x => some (AV.bool x)) (decide_eq_false fun h => c1 h.1).symm, trivial⟩
  refine wg_dec rfl (fun h1 => ?_) fun h1 => ?_
  · rw [if_pos h1]
    repeat (first | refine wg_seq ?_ | refine wg_region ?_)
    refine wo_loadN rfl rfl rfl rfl inv.h5 rfl ?_
    refine wo_store rfl rfl rfl rfl rfl rfl inv.h6 rfl ?_
    repeat refine wo_nil ?_
    refine wg_ret1 rfl rfl (loadN_eq rfl rfl (by rw [AW.put_get, if_pos rfl]) rfl) ?_
    exact ⟨rfl, inv.done hw⟩
  rw [if_neg h1]
  repeat refine wg_seq ?_
  refine wg_regionTo (.put 0 (.ptr fr 0 0) (.put 4 (.ptr f4 0 0) (.put 5 (.ptr f5 0 0) (.put 6 (.ptr f6 0 0) (.put 38 (.bool (decide (b = 5 ∧ refersT (a, s)))) .nil))))) ?_ ?_
  · repeat (first | refine wo_move rfl rfl ?_ | refine wo_fieldAddr rfl rfl rfl ?_ | refine wo_load rfl rfl rfl rfl (by assumption) rfl ?_ | refine wo_eql rfl rfl rfl ?_)
    by_cases c1 : b = 5
    · refine wo_is 42 true rfl (decide_eq_true c1) ?_
      repeat (first | refine wo_nil ?_ | refine wo_move rfl rfl ?_ | refine wo_assign rfl rfl ?_ | refine wo_pick rfl rfl rfl ?_ | refine wo_on rfl ?_)
      exact ⟨rfl, rfl, rfl, rfl, rfl, congrArg (fun x => some (AV.bool x)) (decide_eq_decide.2 ⟨fun h => ⟨c1, h⟩, fun h => h.2⟩), trivial⟩
    · refine wo_is 42 false rfl (decide_eq_false c1) ?_
      repeat (first | refine wo_nil ?_ | refine wo_assign rfl rfl ?_ | refine wo_pick rfl rfl rfl ?_ | refine wo_off rfl rfl ?_)
      exact ⟨rfl, rfl, rfl, rfl, rfl, congrArg (fun x => some (AV.bool x)) (decide_eq_false fun h => c1 h.1).symm, trivial⟩
  refine wg_dec rfl (fun h2 => ?_) fun h2 => ?_
  · rw [if_pos h2]
    repeat (first | refine wg_seq ?_ | refine wg_region ?_)
    refine wo_loadN rfl rfl rfl rfl inv.h4 rfl ?_
    refine wo_store rfl rfl rfl rfl rfl rfl inv.h6 rfl ?_
    repeat refine wo_nil ?_
    refine wg_ret1 rfl rfl (loadN_eq rfl rfl (by rw [AW.put_get, if_pos rfl]) rfl) ?_
    exact ⟨rfl, inv.done hw⟩
  rw [if_neg h2]
  have e0 : (if a ≠ 4 ∨ b ≠ 4 then ((6, []) : Ty') else if com hs s t ≠ [] then (4, com hs s t) else (6, [])) = if a = 4 ∧ b = 4 ∧ has hs s = true ∧ has hs t = true then (4, com hs s t) else (6, []) := by
    by_cases c1 : a = 4 ∧ b = 4
    · rw [if_neg (fun h => h.elim (fun h => h c1.1) fun h => h c1.2)]
      by_cases c2 : com hs s t ≠ []
      · rw [if_pos c2, if_pos ⟨c1.1, c1.2, (com_some ht s t).1 c2⟩]
      · rw [if_neg c2, if_neg fun h => c2 ((com_some ht s t).2 h.2.2)]
    · rw [if_pos (Decidable.byContradiction fun h => c1 ⟨Decidable.byContradiction fun h' => h (.inl h'), Decidable.byContradiction fun h' => h (.inr h')⟩), if_neg fun h => c1 ⟨h.1, h.2.1⟩]
  show WG _ _ _ _ _ fun r A1 => r = tv (if a ≠ 4 ∨ b ≠ 4 then ((6, []) : Ty') else if com hs s t ≠ [] then (4, com hs s t) else (6, [])) ∧ Only A A1 none'
  rw [e0]
  repeat refine wg_seq ?_
  refine wg_cut (fun l1 A1 => (Kn.put 0 (.ptr fr 0 0) (.put 4 (.ptr f4 0 0) (.put 5 (.ptr f5 0 0) (.put 6 (.ptr f6 0 0) (.put 46 (.bool (decide (a = 4 ∧ b = 4 ∧ has hs s = true ∧ has hs t = true))) .nil))))).le l1 ∧ MR A A1 f4 f5 f6 a s b t) (fun k' hk => ?_) ?_
  · repeat (first | refine wg_region ?_ | refine wo_move rfl rfl ?_ | refine wo_fieldAddr rfl rfl rfl ?_ | refine wo_load rfl rfl rfl rfl (by assumption) rfl ?_ | refine wo_eql rfl rfl rfl ?_)
    by_cases c1 : a = 4
    · refine wo_is 50 true rfl (decide_eq_true c1) ?_
      repeat (first | refine wo_move rfl rfl ?_ | refine wo_fieldAddr rfl rfl rfl ?_ | refine wo_load rfl rfl rfl rfl (by assumption) rfl ?_ | refine wo_eql rfl rfl rfl ?_ | refine wo_pick rfl rfl rfl ?_ | refine wo_on rfl ?_)
      by_cases c2 : b = 4
      · refine wo_is 55 true rfl (decide_eq_true c2) ?_
        repeat (first | refine wo_move rfl rfl ?_ | refine wo_fieldAddr rfl rfl rfl ?_ | refine wo_load rfl rfl rfl rfl (by assumption) rfl ?_ | refine wo_on rfl ?_)
        refine wo_call rfl rfl orc_cons rfl (at_spec (h.keep inv.o) ht.len) ?_
        rintro r A5 ⟨rfl, e5⟩
        obtain rfl : A4 = A5 := e5.symm
        repeat (first | refine wo_move rfl rfl ?_ | refine wo_geq rfl rfl rfl ?_ | refine wo_pick rfl rfl rfl ?_ | refine wo_on rfl ?_)
        by_cases c3 : has hs s = true
        · refine wo_is 62 true rfl (decide_eq_true ((ix_has hs s).2 c3)) ?_
          repeat (first | refine wo_move rfl rfl ?_ | refine wo_fieldAddr rfl rfl rfl ?_ | refine wo_load rfl rfl rfl rfl (by assumption) rfl ?_ | refine wo_on rfl ?_)
          refine wo_call rfl rfl orc_cons rfl (at_spec (h.keep inv.o) ht.len) ?_
          rintro r A5 ⟨rfl, e5⟩
          obtain rfl : A4 = A5 := e5.symm
          repeat (first | refine wo_nil ?_ | refine wo_assign rfl rfl ?_ | refine wo_geq rfl rfl rfl ?_ | refine wo_pick rfl rfl rfl ?_ | refine wo_on rfl ?_)
          exact hk _ _ ⟨⟨rfl, rfl, rfl, rfl, congrArg (fun x => some (AV.bool x)) (decide_eq_decide.2 ⟨fun h => ⟨c1, c2, c3, (ix_has hs t).1 h⟩, fun h => (ix_has hs t).2 h.2.2.2⟩), trivial⟩, inv⟩
        · refine wo_is 62 false rfl (decide_eq_false fun h => c3 ((ix_has hs s).1 h)) ?_
          repeat (first | refine wo_nil ?_ | refine wo_assign rfl rfl ?_ | refine wo_pick rfl rfl rfl ?_ | refine wo_off rfl rfl ?_)
          exact hk _ _ ⟨⟨rfl, rfl, rfl, rfl, congrArg (fun x => some (AV.bool x)) (decide_eq_false fun h => c3 h.2.2.1).symm, trivial⟩, inv⟩
      · refine wo_is 55 false rfl (decide_eq_false c2) ?_
        repeat (first | refine wo_nil ?_ | refine wo_move rfl rfl ?_ | refine wo_assign rfl rfl ?_ | refine wo_pick rfl rfl rfl ?_ | refine wo_off rfl rfl ?_)
        exact hk _ _ ⟨⟨rfl, rfl, rfl, rfl, congrArg (fun x => some (AV.bool x)) (decide_eq_false fun h => c2 h.2.1).symm, trivial⟩, inv⟩
    · refine wo_is 50 false rfl (decide_eq_false c1) ?_
      repeat (first | refine wo_nil ?_ | refine wo_move rfl rfl ?_ | refine wo_assign rfl rfl ?_ | refine wo_pick rfl rfl rfl ?_ | refine wo_off rfl rfl ?_)
      exact hk _ _ ⟨⟨rfl, rfl, rfl, rfl, congrArg (fun x => some (AV.bool x)) (decide_eq_false fun h => c1 h.1).symm, trivial⟩, inv⟩
  rintro l1 A5 ⟨hl, inv⟩
  refine wg_le _ ?_ hl
  have h4 := inv.h4
  have h5 := inv.h5
  refine wg_dec rfl (fun h0 => ?_) fun h0 => ?_
  · rw [if_pos h0]
    repeat (first | refine wg_seq ?_ | refine wg_region ?_ | refine wo_move rfl rfl ?_ | refine wo_fieldAddr rfl rfl rfl ?_ | refine wo_load rfl rfl rfl rfl (by assumption) rfl ?_)
    refine wo_call rfl rfl orc_cons rfl (rcom_spec inv.o.wf (h.keep inv.o) ht.good ht.ups hd ht.len) ?_
    rintro r A6 ⟨rfl, o6⟩
    have inv := inv.keep o6
    repeat refine wo_build rfl rfl rfl ?_
    refine wo_store rfl rfl rfl rfl rfl rfl inv.h6 rfl ?_
    repeat refine wo_nil ?_
    refine wg_ret1 rfl rfl (loadN_eq rfl rfl (by rw [AW.put_get, if_pos rfl]) rfl) ?_
    exact ⟨rfl, inv.done hw⟩
  · rw [if_neg h0]
    repeat (first | refine wg_seq ?_ | refine wg_skip ?_ | refine wg_inBlock ?_ | refine wg_region ?_ | refine wo_build rfl rfl rfl ?_)
    refine wo_store rfl rfl rfl rfl rfl rfl inv.h6 rfl ?_
    repeat refine wo_nil ?_
    refine wg_ret1 rfl rfl (loadN_eq rfl rfl (by rw [AW.put_get, if_pos rfl]) rfl) ?_
    exact ⟨rfl, inv.done hw⟩
end Go.Proofs.Ytokieeiohfcgdaa.Ae
