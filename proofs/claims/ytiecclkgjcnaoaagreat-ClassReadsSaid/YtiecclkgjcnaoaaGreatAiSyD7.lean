/-
  THE READER OF CLASSES, by the rules: many.
-/
import Derived.Test.YtiecclkgjcnaoaaGreatAiSyD6
namespace Go.Proofs.YtiecclkgjcnaoaaGreat.Ae
open Go.AE
set_option linter.unusedVariables false
set_option maxRecDepth 100000
section
variable {α : Type} (p : Int → List Nat → α × Int × List Nat)
def pL : Nat → Int → List Nat → List α × Int × List Nat
  | 0, e, bs => ([], e, bs)
  | n + 1, e, bs => if e ≠ 0 then ([], e, bs) else ((p e bs).1 :: (pL n (p e bs).2.1 (p e bs).2.2).1, (pL n (p e bs).2.1 (p e bs).2.2).2)
def pM (m : Int) (e : Int) (bs : List Nat) : List α × Int × List Nat := pL p (pC m e bs).1 (pC m e bs).2.1 (pC m e bs).2.2
theorem pL_err {n : Nat} {e : Int} {bs : List Nat} (h : e ≠ 0) : pL p n e bs = ([], e, bs) := by
  cases n with
  | zero => rfl
  | succ n => unfold pL; rw [if_pos h]
theorem pL_next {n : Nat} {bs : List Nat} : pL p (n + 1) 0 bs = ((p 0 bs).1 :: (pL p n (p 0 bs).2.1 (p 0 bs).2.2).1, (pL p n (p 0 bs).2.1 (p 0 bs).2.2).2) := by
  conv => lhs; unfold pL
  rw [if_neg fun h => h rfl]
end
theorem manyT_spec {K : FuncId} {A : AW} {fc fr : Nat} {v : AV} {e m : Int} {bs : List Nat} {g : FuncId} {first cap : List AV} {p : Int → List Nat → Ty' × Int × List Nat} (hw : Wf A) (h : PS A fc fr v e bs) (m0 : 0 ≤ m) (m1 : m ≤ 1000)
    (ho : (ES K).orc g (first ++ cap) = none) (hb : R.hasB (ES K) g = true)
    (hr : ∀ A1 v1 e1 b1, PStep A A1 fc fr v v1 e1 b1 → CallP (ES K) g (first ++ cap) A1 fun r A2 => r = .agg (tyc (p e1 b1).1) ∧ ∃ v2, PStep A1 A2 fc fr v1 v2 (p e1 b1).2.1 (p e1 b1).2.2) :
    CallP (ES K) 66 [.ptr fc 0 0, .int .i64 m, .func g first cap] A fun r A1 => (Buf A1 2 r (pM p m e bs).1.length ((pM p m e bs).1.flatMap tyc) ∧ ∀ k, r.isFam k → A.nxt ≤ k) ∧ ∃ v', PStep A A1 fc fr v v' (pM p m e bs).2.1 (pM p m e bs).2.2 := by
  refine call_of rfl rfl rfl ?_
  have hlt := h.lt hw
  unfold pM
  repeat (first | refine qO ?_ | refine wg_scope ?_ | refine qA ?_ | refine qG ?_ | refine qJ rfl rfl ?_ | refine qE rfl rfl ?_)
  refine qU rfl rfl orc_cons rfl (ccount_spec (m := m) hw h (by omega) (by omega)) ?_
  rintro r A1 ⟨rfl, v1, st⟩
  have hm := pC_most (m := m) (e := e) (bs := bs) m0
  generalize pC m e bs = n at st hm
  obtain ⟨n, e0, b0⟩ := n
  have hm : (n : Int) ≤ m := hm
  have st : PStep A A1 fc fr v v1 e0 b0 := st
  repeat (first | refine qO ?_ | refine qA ?_ | refine qG ?_ | refine qE rfl rfl ?_)
  refine wg_label ?_
  refine wg_le (.put 0 (.ptr fc 0 0) (.put 2 (.func g first cap) (.put 7 (.int .i64 (n : Int)) (.put 8 .nils .nil)))) ?_ ⟨rfl, rfl, rfl, rfl, trivial⟩
  refine wg_ind (ι := List Ty' × AV × AV × Int × List Nat) (fun i => n - i.1.length) (fun i => .put 0 (.ptr fc 0 0) (.put 2 (.func g first cap) (.put 7 (.int .i64 (n : Int)) (.put 8 i.2.1 .nil))))
    (fun i A2 => PStep A A2 fc fr v i.2.2.1 i.2.2.2.1 i.2.2.2.2 ∧ Buf A2 2 i.2.1 i.1.length (i.1.flatMap tyc) ∧ (∀ k, i.2.1.isFam k → A.nxt ≤ k) ∧ i.1.length ≤ n ∧ i.1 ++ (pL p (n - i.1.length) i.2.2.2.1 i.2.2.2.2).1 = (pL p n e0 b0).1 ∧ (pL p (n - i.1.length) i.2.2.2.1 i.2.2.2.2).2 = (pL p n e0 b0).2) ?_
    ([], .nils, v1, e0, b0) A1 ⟨st, .inl ⟨rfl, rfl, rfl⟩, fun k h => h.elim, Nat.zero_le _, rfl, rfl⟩
  rintro ⟨acc, vb, v2, e1, b1⟩ A2 ⟨st, hbuf, hown, hle, hx1, hx2⟩ ih
  have st : PStep A A2 fc fr v v2 e1 b1 := st
  have hbuf : Buf A2 2 vb acc.length (acc.flatMap tyc) := hbuf
  have hown : ∀ k, vb.isFam k → A.nxt ≤ k := hown
  have hle : acc.length ≤ n := hle
  have hx1 : acc ++ (pL p (n - acc.length) e1 b1).1 = (pL p n e0 b0).1 := hx1
  have hx2 : (pL p (n - acc.length) e1 b1).2 = (pL p n e0 b0).2 := hx2
  have hc := st.ps.cell
  repeat (first | refine qO ?_ | refine qA ?_ | refine qJ rfl rfl ?_ | refine qI rfl rfl rfl ?_ | refine qW rfl rfl ?_ | refine qP rfl rfl rfl rfl (by assumption) rfl ?_ | refine xD rfl rfl rfl ?_)
  by_cases he : e1 = 0
  · subst he
    refine xA 17 true rfl (decide_eq_true rfl) ?_
    repeat (first | refine qJ rfl rfl ?_ | refine qX rfl ?_)
    refine xJ rfl rfl rfl hbuf.lenV ?_
    repeat (first | refine qG ?_ | refine qJ rfl rfl ?_ | refine xM rfl rfl rfl ?_ | refine qR rfl rfl rfl ?_ | refine qX rfl ?_)
    refine qV rfl (fun hx => ?_) fun hx => ?_
    · have hx : acc.length < n := Int.ofNat_lt.1 hx
      have hk : n - acc.length = (n - (acc.length + 1)) + 1 := by omega
      rw [hk, pL_next] at hx1 hx2
      repeat (first | refine qO ?_ | refine qA ?_ | refine qJ rfl rfl ?_)
      refine wo_callV (vs := []) (ws := first ++ cap) rfl rfl rfl (by rw [List.append_nil]) ho hb (hr _ _ _ _ st) ?_
      rintro r A3 ⟨rfl, v3, st3⟩
      have hbuf := hbuf.keep st3.only fun k hk hb => by
        have := hown k hk
        rcases hb with hb | hb <;> cases hb <;> omega
      have st := st.trans st3
      generalize p 0 b1 = y at st st3 hx1 hx2
      obtain ⟨x, e2, b2⟩ := y
      repeat refine wo_buildSlice rfl rfl rfl ?_
      refine wo_append rfl rfl rfl rfl rfl (append_one (n := acc.length) (de := d43) rfl rfl rfl rfl st.only.wf hbuf rfl (by decide) (room_of (by omega) (by decide))) ?_
      intro vb' A4 gr
      have st4 : PStep A A4 fc fr v v3 e2 b2 := st.fresh hw h gr.only hown
      repeat (first | refine qG ?_ | refine qE rfl rfl ?_)
      refine wg_goto rfl (qO (qS ?_))
      refine wg_le (.put 0 (.ptr fc 0 0) (.put 2 (.func g first cap) (.put 7 (.int .i64 (n : Int)) (.put 8 vb' .nil)))) ?_ ⟨rfl, rfl, rfl, rfl, trivial⟩
      refine ih (acc ++ [x], vb', v3, e2, b2) A4 (by simp only [List.length_append, List.length_singleton]; omega) ⟨st4, ?_, fun k hk => (gr.grow k hk).elim (hown k) fun h => Nat.le_trans st.only.nxt h, by simp only [List.length_append, List.length_singleton]; omega, ?_, ?_⟩
      · have := gr.buf
        show Buf A4 2 vb' (acc ++ [x]).length ((acc ++ [x]).flatMap tyc)
        rw [List.length_append, List.length_singleton, List.flatMap_append]
        exact this
      · show (acc ++ [x]) ++ (pL p (n - (acc ++ [x]).length) e2 b2).1 = _
        rw [List.length_append, List.length_singleton, ← hx1, List.append_assoc]
        rfl
      · show (pL p (n - (acc ++ [x]).length) e2 b2).2 = _
        rw [List.length_append, List.length_singleton, ← hx2]
    · have hx : acc.length = n := by
        have hx : ¬ (acc.length : Int) < (n : Int) := hx
        omega
      rw [hx, Nat.sub_self] at hx1 hx2
      have hx1 : acc ++ [] = (pL p n e0 b0).1 := hx1
      rw [List.append_nil] at hx1
      repeat (first | refine qO ?_ | refine qS ?_ | refine qA ?_ | refine qG ?_ | refine qJ rfl rfl ?_ | refine qE rfl rfl ?_)
      refine qQ rfl ⟨⟨?_, hown⟩, v2, ?_⟩
      · show Buf A2 2 vb (pL p n e0 b0).1.length ((pL p n e0 b0).1.flatMap tyc)
        rw [← hx1]
        exact hbuf
      · show PStep A A2 fc fr v v2 (pL p n e0 b0).2.1 (pL p n e0 b0).2.2
        rw [← hx2]
        exact st
  · rw [pL_err p he] at hx1 hx2
    have hx1 : acc ++ [] = (pL p n e0 b0).1 := hx1
    rw [List.append_nil] at hx1
    refine xA 17 false rfl (decide_eq_false he) ?_
    repeat (first | refine qG ?_ | refine qR rfl rfl rfl ?_ | refine xE rfl rfl ?_)
    refine wg_false rfl ?_
    repeat (first | refine qO ?_ | refine qS ?_ | refine qA ?_ | refine qG ?_ | refine qJ rfl rfl ?_ | refine qE rfl rfl ?_)
    refine qQ rfl ⟨⟨?_, hown⟩, v2, ?_⟩
    · show Buf A2 2 vb (pL p n e0 b0).1.length ((pL p n e0 b0).1.flatMap tyc)
      rw [← hx1]
      exact hbuf
    · show PStep A A2 fc fr v v2 (pL p n e0 b0).2.1 (pL p n e0 b0).2.2
      rw [← hx2]
      exact st
theorem manyC_spec {K : FuncId} {A : AW} {fc fr : Nat} {v : AV} {e m : Int} {bs : List Nat} {g : FuncId} {first cap : List AV} {p : Int → List Nat → CoT × Int × List Nat} (hw : Wf A) (h : PS A fc fr v e bs) (m0 : 0 ≤ m) (m1 : m ≤ 1000)
    (ho : (ES K).orc g (first ++ cap) = none) (hb : R.hasB (ES K) g = true)
    (hr : ∀ A1 v1 e1 b1, PStep A A1 fc fr v v1 e1 b1 → CallP (ES K) g (first ++ cap) A1 fun r A2 => r = .agg (coc (p e1 b1).1) ∧ ∃ v2, PStep A1 A2 fc fr v1 v2 (p e1 b1).2.1 (p e1 b1).2.2) :
    CallP (ES K) 17 [.ptr fc 0 0, .int .i64 m, .func g first cap] A fun r A1 => (Buf A1 5 r (pM p m e bs).1.length ((pM p m e bs).1.flatMap coc) ∧ ∀ k, r.isFam k → A.nxt ≤ k) ∧ ∃ v', PStep A A1 fc fr v v' (pM p m e bs).2.1 (pM p m e bs).2.2 := by
  refine call_of rfl rfl rfl ?_
  have hlt := h.lt hw
  unfold pM
  repeat (first | refine qO ?_ | refine wg_scope ?_ | refine qA ?_ | refine qG ?_ | refine qJ rfl rfl ?_ | refine qE rfl rfl ?_)
  refine qU rfl rfl orc_cons rfl (ccount_spec (m := m) hw h (by omega) (by omega)) ?_
  rintro r A1 ⟨rfl, v1, st⟩
  have hm := pC_most (m := m) (e := e) (bs := bs) m0
  generalize pC m e bs = n at st hm
  obtain ⟨n, e0, b0⟩ := n
  have hm : (n : Int) ≤ m := hm
  have st : PStep A A1 fc fr v v1 e0 b0 := st
  repeat (first | refine qO ?_ | refine qA ?_ | refine qG ?_ | refine qE rfl rfl ?_)
  refine wg_label ?_
  refine wg_le (.put 0 (.ptr fc 0 0) (.put 2 (.func g first cap) (.put 7 (.int .i64 (n : Int)) (.put 8 .nils .nil)))) ?_ ⟨rfl, rfl, rfl, rfl, trivial⟩
  refine wg_ind (ι := List CoT × AV × AV × Int × List Nat) (fun i => n - i.1.length) (fun i => .put 0 (.ptr fc 0 0) (.put 2 (.func g first cap) (.put 7 (.int .i64 (n : Int)) (.put 8 i.2.1 .nil))))
    (fun i A2 => PStep A A2 fc fr v i.2.2.1 i.2.2.2.1 i.2.2.2.2 ∧ Buf A2 5 i.2.1 i.1.length (i.1.flatMap coc) ∧ (∀ k, i.2.1.isFam k → A.nxt ≤ k) ∧ i.1.length ≤ n ∧ i.1 ++ (pL p (n - i.1.length) i.2.2.2.1 i.2.2.2.2).1 = (pL p n e0 b0).1 ∧ (pL p (n - i.1.length) i.2.2.2.1 i.2.2.2.2).2 = (pL p n e0 b0).2) ?_
    ([], .nils, v1, e0, b0) A1 ⟨st, .inl ⟨rfl, rfl, rfl⟩, fun k h => h.elim, Nat.zero_le _, rfl, rfl⟩
  rintro ⟨acc, vb, v2, e1, b1⟩ A2 ⟨st, hbuf, hown, hle, hx1, hx2⟩ ih
  have st : PStep A A2 fc fr v v2 e1 b1 := st
  have hbuf : Buf A2 5 vb acc.length (acc.flatMap coc) := hbuf
  have hown : ∀ k, vb.isFam k → A.nxt ≤ k := hown
  have hle : acc.length ≤ n := hle
  have hx1 : acc ++ (pL p (n - acc.length) e1 b1).1 = (pL p n e0 b0).1 := hx1
  have hx2 : (pL p (n - acc.length) e1 b1).2 = (pL p n e0 b0).2 := hx2
  have hc := st.ps.cell
  repeat (first | refine qO ?_ | refine qA ?_ | refine qJ rfl rfl ?_ | refine qI rfl rfl rfl ?_ | refine qW rfl rfl ?_ | refine qP rfl rfl rfl rfl (by assumption) rfl ?_ | refine xD rfl rfl rfl ?_)
  by_cases he : e1 = 0
  · subst he
    refine xA 17 true rfl (decide_eq_true rfl) ?_
    repeat (first | refine qJ rfl rfl ?_ | refine qX rfl ?_)
    refine xJ rfl rfl rfl hbuf.lenV ?_
    repeat (first | refine qG ?_ | refine qJ rfl rfl ?_ | refine xM rfl rfl rfl ?_ | refine qR rfl rfl rfl ?_ | refine qX rfl ?_)
    refine qV rfl (fun hx => ?_) fun hx => ?_
    · have hx : acc.length < n := Int.ofNat_lt.1 hx
      have hk : n - acc.length = (n - (acc.length + 1)) + 1 := by omega
      rw [hk, pL_next] at hx1 hx2
      repeat (first | refine qO ?_ | refine qA ?_ | refine qJ rfl rfl ?_)
      refine wo_callV (vs := []) (ws := first ++ cap) rfl rfl rfl (by rw [List.append_nil]) ho hb (hr _ _ _ _ st) ?_
      rintro r A3 ⟨rfl, v3, st3⟩
      have hbuf := hbuf.keep st3.only fun k hk hb => by
        have := hown k hk
        rcases hb with hb | hb <;> cases hb <;> omega
      have st := st.trans st3
      generalize p 0 b1 = y at st st3 hx1 hx2
      obtain ⟨x, e2, b2⟩ := y
      repeat refine wo_buildSlice rfl rfl rfl ?_
      refine wo_append rfl rfl rfl rfl rfl (append_one (n := acc.length) (de := d61) rfl rfl rfl rfl st.only.wf hbuf rfl (by decide) (room_of (by omega) (by decide))) ?_
      intro vb' A4 gr
      have st4 : PStep A A4 fc fr v v3 e2 b2 := st.fresh hw h gr.only hown
      repeat (first | refine qG ?_ | refine qE rfl rfl ?_)
      refine wg_goto rfl (qO (qS ?_))
      refine wg_le (.put 0 (.ptr fc 0 0) (.put 2 (.func g first cap) (.put 7 (.int .i64 (n : Int)) (.put 8 vb' .nil)))) ?_ ⟨rfl, rfl, rfl, rfl, trivial⟩
      refine ih (acc ++ [x], vb', v3, e2, b2) A4 (by simp only [List.length_append, List.length_singleton]; omega) ⟨st4, ?_, fun k hk => (gr.grow k hk).elim (hown k) fun h => Nat.le_trans st.only.nxt h, by simp only [List.length_append, List.length_singleton]; omega, ?_, ?_⟩
      · have := gr.buf
        show Buf A4 5 vb' (acc ++ [x]).length ((acc ++ [x]).flatMap coc)
        rw [List.length_append, List.length_singleton, List.flatMap_append]
        exact this
      · show (acc ++ [x]) ++ (pL p (n - (acc ++ [x]).length) e2 b2).1 = _
        rw [List.length_append, List.length_singleton, ← hx1, List.append_assoc]
        rfl
      · show (pL p (n - (acc ++ [x]).length) e2 b2).2 = _
        rw [List.length_append, List.length_singleton, ← hx2]
    · have hx : acc.length = n := by
        have hx : ¬ (acc.length : Int) < (n : Int) := hx
        omega
      rw [hx, Nat.sub_self] at hx1 hx2
      have hx1 : acc ++ [] = (pL p n e0 b0).1 := hx1
      rw [List.append_nil] at hx1
      repeat (first | refine qO ?_ | refine qS ?_ | refine qA ?_ | refine qG ?_ | refine qJ rfl rfl ?_ | refine qE rfl rfl ?_)
      refine qQ rfl ⟨⟨?_, hown⟩, v2, ?_⟩
      · show Buf A2 5 vb (pL p n e0 b0).1.length ((pL p n e0 b0).1.flatMap coc)
        rw [← hx1]
        exact hbuf
      · show PStep A A2 fc fr v v2 (pL p n e0 b0).2.1 (pL p n e0 b0).2.2
        rw [← hx2]
        exact st
  · rw [pL_err p he] at hx1 hx2
    have hx1 : acc ++ [] = (pL p n e0 b0).1 := hx1
    rw [List.append_nil] at hx1
    refine xA 17 false rfl (decide_eq_false he) ?_
    repeat (first | refine qG ?_ | refine qR rfl rfl rfl ?_ | refine xE rfl rfl ?_)
    refine wg_false rfl ?_
    repeat (first | refine qO ?_ | refine qS ?_ | refine qA ?_ | refine qG ?_ | refine qJ rfl rfl ?_ | refine qE rfl rfl ?_)
    refine qQ rfl ⟨⟨?_, hown⟩, v2, ?_⟩
    · show Buf A2 5 vb (pL p n e0 b0).1.length ((pL p n e0 b0).1.flatMap coc)
      rw [← hx1]
      exact hbuf
    · show PStep A A2 fc fr v v2 (pL p n e0 b0).2.1 (pL p n e0 b0).2.2
      rw [← hx2]
      exact st
theorem manyF_spec {K : FuncId} {A : AW} {fc fr : Nat} {v : AV} {e m : Int} {bs : List Nat} {g : FuncId} {first cap : List AV} {p : Int → List Nat → FiT × Int × List Nat} (hw : Wf A) (h : PS A fc fr v e bs) (m0 : 0 ≤ m) (m1 : m ≤ 1000)
    (ho : (ES K).orc g (first ++ cap) = none) (hb : R.hasB (ES K) g = true)
    (hr : ∀ A1 v1 e1 b1, PStep A A1 fc fr v v1 e1 b1 → CallP (ES K) g (first ++ cap) A1 fun r A2 => r = .agg (fic (p e1 b1).1) ∧ ∃ v2, PStep A1 A2 fc fr v1 v2 (p e1 b1).2.1 (p e1 b1).2.2) :
    CallP (ES K) 19 [.ptr fc 0 0, .int .i64 m, .func g first cap] A fun r A1 => (Buf A1 4 r (pM p m e bs).1.length ((pM p m e bs).1.flatMap fic) ∧ ∀ k, r.isFam k → A.nxt ≤ k) ∧ ∃ v', PStep A A1 fc fr v v' (pM p m e bs).2.1 (pM p m e bs).2.2 := by
  refine call_of rfl rfl rfl ?_
  have hlt := h.lt hw
  unfold pM
  repeat (first | refine qO ?_ | refine wg_scope ?_ | refine qA ?_ | refine qG ?_ | refine qJ rfl rfl ?_ | refine qE rfl rfl ?_)
  refine qU rfl rfl orc_cons rfl (ccount_spec (m := m) hw h (by omega) (by omega)) ?_
  rintro r A1 ⟨rfl, v1, st⟩
  have hm := pC_most (m := m) (e := e) (bs := bs) m0
  generalize pC m e bs = n at st hm
  obtain ⟨n, e0, b0⟩ := n
  have hm : (n : Int) ≤ m := hm
  have st : PStep A A1 fc fr v v1 e0 b0 := st
  repeat (first | refine qO ?_ | refine qA ?_ | refine qG ?_ | refine qE rfl rfl ?_)
  refine wg_label ?_
  refine wg_le (.put 0 (.ptr fc 0 0) (.put 2 (.func g first cap) (.put 7 (.int .i64 (n : Int)) (.put 8 .nils .nil)))) ?_ ⟨rfl, rfl, rfl, rfl, trivial⟩
  refine wg_ind (ι := List FiT × AV × AV × Int × List Nat) (fun i => n - i.1.length) (fun i => .put 0 (.ptr fc 0 0) (.put 2 (.func g first cap) (.put 7 (.int .i64 (n : Int)) (.put 8 i.2.1 .nil))))
    (fun i A2 => PStep A A2 fc fr v i.2.2.1 i.2.2.2.1 i.2.2.2.2 ∧ Buf A2 4 i.2.1 i.1.length (i.1.flatMap fic) ∧ (∀ k, i.2.1.isFam k → A.nxt ≤ k) ∧ i.1.length ≤ n ∧ i.1 ++ (pL p (n - i.1.length) i.2.2.2.1 i.2.2.2.2).1 = (pL p n e0 b0).1 ∧ (pL p (n - i.1.length) i.2.2.2.1 i.2.2.2.2).2 = (pL p n e0 b0).2) ?_
    ([], .nils, v1, e0, b0) A1 ⟨st, .inl ⟨rfl, rfl, rfl⟩, fun k h => h.elim, Nat.zero_le _, rfl, rfl⟩
  rintro ⟨acc, vb, v2, e1, b1⟩ A2 ⟨st, hbuf, hown, hle, hx1, hx2⟩ ih
  have st : PStep A A2 fc fr v v2 e1 b1 := st
  have hbuf : Buf A2 4 vb acc.length (acc.flatMap fic) := hbuf
  have hown : ∀ k, vb.isFam k → A.nxt ≤ k := hown
  have hle : acc.length ≤ n := hle
  have hx1 : acc ++ (pL p (n - acc.length) e1 b1).1 = (pL p n e0 b0).1 := hx1
  have hx2 : (pL p (n - acc.length) e1 b1).2 = (pL p n e0 b0).2 := hx2
  have hc := st.ps.cell
  repeat (first | refine qO ?_ | refine qA ?_ | refine qJ rfl rfl ?_ | refine qI rfl rfl rfl ?_ | refine qW rfl rfl ?_ | refine qP rfl rfl rfl rfl (by assumption) rfl ?_ | refine xD rfl rfl rfl ?_)
  by_cases he : e1 = 0
  · subst he
    refine xA 17 true rfl (decide_eq_true rfl) ?_
    repeat (first | refine qJ rfl rfl ?_ | refine qX rfl ?_)
    refine xJ rfl rfl rfl hbuf.lenV ?_
    repeat (first | refine qG ?_ | refine qJ rfl rfl ?_ | refine xM rfl rfl rfl ?_ | refine qR rfl rfl rfl ?_ | refine qX rfl ?_)
    refine qV rfl (fun hx => ?_) fun hx => ?_
    · have hx : acc.length < n := Int.ofNat_lt.1 hx
      have hk : n - acc.length = (n - (acc.length + 1)) + 1 := by omega
      rw [hk, pL_next] at hx1 hx2
      repeat (first | refine qO ?_ | refine qA ?_ | refine qJ rfl rfl ?_)
      refine wo_callV (vs := []) (ws := first ++ cap) rfl rfl rfl (by rw [List.append_nil]) ho hb (hr _ _ _ _ st) ?_
      rintro r A3 ⟨rfl, v3, st3⟩
      have hbuf := hbuf.keep st3.only fun k hk hb => by
        have := hown k hk
        rcases hb with hb | hb <;> cases hb <;> omega
      have st := st.trans st3
      generalize p 0 b1 = y at st st3 hx1 hx2
      obtain ⟨x, e2, b2⟩ := y
      repeat refine wo_buildSlice rfl rfl rfl ?_
      refine wo_append rfl rfl rfl rfl rfl (append_one (n := acc.length) (de := d65) rfl rfl rfl rfl st.only.wf hbuf rfl (by decide) (room_of (by omega) (by decide))) ?_
      intro vb' A4 gr
      have st4 : PStep A A4 fc fr v v3 e2 b2 := st.fresh hw h gr.only hown
      repeat (first | refine qG ?_ | refine qE rfl rfl ?_)
      refine wg_goto rfl (qO (qS ?_))
      refine wg_le (.put 0 (.ptr fc 0 0) (.put 2 (.func g first cap) (.put 7 (.int .i64 (n : Int)) (.put 8 vb' .nil)))) ?_ ⟨rfl, rfl, rfl, rfl, trivial⟩
      refine ih (acc ++ [x], vb', v3, e2, b2) A4 (by simp only [List.length_append, List.length_singleton]; omega) ⟨st4, ?_, fun k hk => (gr.grow k hk).elim (hown k) fun h => Nat.le_trans st.only.nxt h, by simp only [List.length_append, List.length_singleton]; omega, ?_, ?_⟩
      · have := gr.buf
        show Buf A4 4 vb' (acc ++ [x]).length ((acc ++ [x]).flatMap fic)
        rw [List.length_append, List.length_singleton, List.flatMap_append]
        exact this
      · show (acc ++ [x]) ++ (pL p (n - (acc ++ [x]).length) e2 b2).1 = _
        rw [List.length_append, List.length_singleton, ← hx1, List.append_assoc]
        rfl
      · show (pL p (n - (acc ++ [x]).length) e2 b2).2 = _
        rw [List.length_append, List.length_singleton, ← hx2]
    · have hx : acc.length = n := by
        have hx : ¬ (acc.length : Int) < (n : Int) := hx
        omega
      rw [hx, Nat.sub_self] at hx1 hx2
      have hx1 : acc ++ [] = (pL p n e0 b0).1 := hx1
      rw [List.append_nil] at hx1
      repeat (first | refine qO ?_ | refine qS ?_ | refine qA ?_ | refine qG ?_ | refine qJ rfl rfl ?_ | refine qE rfl rfl ?_)
      refine qQ rfl ⟨⟨?_, hown⟩, v2, ?_⟩
      · show Buf A2 4 vb (pL p n e0 b0).1.length ((pL p n e0 b0).1.flatMap fic)
        rw [← hx1]
        exact hbuf
      · show PStep A A2 fc fr v v2 (pL p n e0 b0).2.1 (pL p n e0 b0).2.2
        rw [← hx2]
        exact st
  · rw [pL_err p he] at hx1 hx2
    have hx1 : acc ++ [] = (pL p n e0 b0).1 := hx1
    rw [List.append_nil] at hx1
    refine xA 17 false rfl (decide_eq_false he) ?_
    repeat (first | refine qG ?_ | refine qR rfl rfl rfl ?_ | refine xE rfl rfl ?_)
    refine wg_false rfl ?_
    repeat (first | refine qO ?_ | refine qS ?_ | refine qA ?_ | refine qG ?_ | refine qJ rfl rfl ?_ | refine qE rfl rfl ?_)
    refine qQ rfl ⟨⟨?_, hown⟩, v2, ?_⟩
    · show Buf A2 4 vb (pL p n e0 b0).1.length ((pL p n e0 b0).1.flatMap fic)
      rw [← hx1]
      exact hbuf
    · show PStep A A2 fc fr v v2 (pL p n e0 b0).2.1 (pL p n e0 b0).2.2
      rw [← hx2]
      exact st
theorem manyH_spec {K : FuncId} {A : AW} {fc fr : Nat} {v : AV} {e m : Int} {bs : List Nat} {g : FuncId} {first cap : List AV} {p : Int → List Nat → HaT × Int × List Nat} (hw : Wf A) (h : PS A fc fr v e bs) (m0 : 0 ≤ m) (m1 : m ≤ 1000)
    (ho : (ES K).orc g (first ++ cap) = none) (hb : R.hasB (ES K) g = true)
    (hr : ∀ A1 v1 e1 b1, PStep A A1 fc fr v v1 e1 b1 → CallP (ES K) g (first ++ cap) A1 fun r A2 => r = .agg (hac (p e1 b1).1) ∧ ∃ v2, PStep A1 A2 fc fr v1 v2 (p e1 b1).2.1 (p e1 b1).2.2) :
    CallP (ES K) 69 [.ptr fc 0 0, .int .i64 m, .func g first cap] A fun r A1 => (Buf A1 5 r (pM p m e bs).1.length ((pM p m e bs).1.flatMap hac) ∧ ∀ k, r.isFam k → A.nxt ≤ k) ∧ ∃ v', PStep A A1 fc fr v v' (pM p m e bs).2.1 (pM p m e bs).2.2 := by
  refine call_of rfl rfl rfl ?_
  have hlt := h.lt hw
  unfold pM
  repeat (first | refine qO ?_ | refine wg_scope ?_ | refine qA ?_ | refine qG ?_ | refine qJ rfl rfl ?_ | refine qE rfl rfl ?_)
  refine qU rfl rfl orc_cons rfl (ccount_spec (m := m) hw h (by omega) (by omega)) ?_
  rintro r A1 ⟨rfl, v1, st⟩
  have hm := pC_most (m := m) (e := e) (bs := bs) m0
  generalize pC m e bs = n at st hm
  obtain ⟨n, e0, b0⟩ := n
  have hm : (n : Int) ≤ m := hm
  have st : PStep A A1 fc fr v v1 e0 b0 := st
  repeat (first | refine qO ?_ | refine qA ?_ | refine qG ?_ | refine qE rfl rfl ?_)
  refine wg_label ?_
  refine wg_le (.put 0 (.ptr fc 0 0) (.put 2 (.func g first cap) (.put 7 (.int .i64 (n : Int)) (.put 8 .nils .nil)))) ?_ ⟨rfl, rfl, rfl, rfl, trivial⟩
  refine wg_ind (ι := List HaT × AV × AV × Int × List Nat) (fun i => n - i.1.length) (fun i => .put 0 (.ptr fc 0 0) (.put 2 (.func g first cap) (.put 7 (.int .i64 (n : Int)) (.put 8 i.2.1 .nil))))
    (fun i A2 => PStep A A2 fc fr v i.2.2.1 i.2.2.2.1 i.2.2.2.2 ∧ Buf A2 5 i.2.1 i.1.length (i.1.flatMap hac) ∧ (∀ k, i.2.1.isFam k → A.nxt ≤ k) ∧ i.1.length ≤ n ∧ i.1 ++ (pL p (n - i.1.length) i.2.2.2.1 i.2.2.2.2).1 = (pL p n e0 b0).1 ∧ (pL p (n - i.1.length) i.2.2.2.1 i.2.2.2.2).2 = (pL p n e0 b0).2) ?_
    ([], .nils, v1, e0, b0) A1 ⟨st, .inl ⟨rfl, rfl, rfl⟩, fun k h => h.elim, Nat.zero_le _, rfl, rfl⟩
  rintro ⟨acc, vb, v2, e1, b1⟩ A2 ⟨st, hbuf, hown, hle, hx1, hx2⟩ ih
  have st : PStep A A2 fc fr v v2 e1 b1 := st
  have hbuf : Buf A2 5 vb acc.length (acc.flatMap hac) := hbuf
  have hown : ∀ k, vb.isFam k → A.nxt ≤ k := hown
  have hle : acc.length ≤ n := hle
  have hx1 : acc ++ (pL p (n - acc.length) e1 b1).1 = (pL p n e0 b0).1 := hx1
  have hx2 : (pL p (n - acc.length) e1 b1).2 = (pL p n e0 b0).2 := hx2
  have hc := st.ps.cell
  repeat (first | refine qO ?_ | refine qA ?_ | refine qJ rfl rfl ?_ | refine qI rfl rfl rfl ?_ | refine qW rfl rfl ?_ | refine qP rfl rfl rfl rfl (by assumption) rfl ?_ | refine xD rfl rfl rfl ?_)
  by_cases he : e1 = 0
  · subst he
    refine xA 17 true rfl (decide_eq_true rfl) ?_
    repeat (first | refine qJ rfl rfl ?_ | refine qX rfl ?_)
    refine xJ rfl rfl rfl hbuf.lenV ?_
    repeat (first | refine qG ?_ | refine qJ rfl rfl ?_ | refine xM rfl rfl rfl ?_ | refine qR rfl rfl rfl ?_ | refine qX rfl ?_)
    refine qV rfl (fun hx => ?_) fun hx => ?_
    · have hx : acc.length < n := Int.ofNat_lt.1 hx
      have hk : n - acc.length = (n - (acc.length + 1)) + 1 := by omega
      rw [hk, pL_next] at hx1 hx2
      repeat (first | refine qO ?_ | refine qA ?_ | refine qJ rfl rfl ?_)
      refine wo_callV (vs := []) (ws := first ++ cap) rfl rfl rfl (by rw [List.append_nil]) ho hb (hr _ _ _ _ st) ?_
      rintro r A3 ⟨rfl, v3, st3⟩
      have hbuf := hbuf.keep st3.only fun k hk hb => by
        have := hown k hk
        rcases hb with hb | hb <;> cases hb <;> omega
      have st := st.trans st3
      generalize p 0 b1 = y at st st3 hx1 hx2
      obtain ⟨x, e2, b2⟩ := y
      repeat refine wo_buildSlice rfl rfl rfl ?_
      refine wo_append rfl rfl rfl rfl rfl (append_one (n := acc.length) (de := d88) rfl rfl rfl rfl st.only.wf hbuf rfl (by decide) (room_of (by omega) (by decide))) ?_
      intro vb' A4 gr
      have st4 : PStep A A4 fc fr v v3 e2 b2 := st.fresh hw h gr.only hown
      repeat (first | refine qG ?_ | refine qE rfl rfl ?_)
      refine wg_goto rfl (qO (qS ?_))
      refine wg_le (.put 0 (.ptr fc 0 0) (.put 2 (.func g first cap) (.put 7 (.int .i64 (n : Int)) (.put 8 vb' .nil)))) ?_ ⟨rfl, rfl, rfl, rfl, trivial⟩
      refine ih (acc ++ [x], vb', v3, e2, b2) A4 (by simp only [List.length_append, List.length_singleton]; omega) ⟨st4, ?_, fun k hk => (gr.grow k hk).elim (hown k) fun h => Nat.le_trans st.only.nxt h, by simp only [List.length_append, List.length_singleton]; omega, ?_, ?_⟩
      · have := gr.buf
        show Buf A4 5 vb' (acc ++ [x]).length ((acc ++ [x]).flatMap hac)
        rw [List.length_append, List.length_singleton, List.flatMap_append]
        exact this
      · show (acc ++ [x]) ++ (pL p (n - (acc ++ [x]).length) e2 b2).1 = _
        rw [List.length_append, List.length_singleton, ← hx1, List.append_assoc]
        rfl
      · show (pL p (n - (acc ++ [x]).length) e2 b2).2 = _
        rw [List.length_append, List.length_singleton, ← hx2]
    · have hx : acc.length = n := by
        have hx : ¬ (acc.length : Int) < (n : Int) := hx
        omega
      rw [hx, Nat.sub_self] at hx1 hx2
      have hx1 : acc ++ [] = (pL p n e0 b0).1 := hx1
      rw [List.append_nil] at hx1
      repeat (first | refine qO ?_ | refine qS ?_ | refine qA ?_ | refine qG ?_ | refine qJ rfl rfl ?_ | refine qE rfl rfl ?_)
      refine qQ rfl ⟨⟨?_, hown⟩, v2, ?_⟩
      · show Buf A2 5 vb (pL p n e0 b0).1.length ((pL p n e0 b0).1.flatMap hac)
        rw [← hx1]
        exact hbuf
      · show PStep A A2 fc fr v v2 (pL p n e0 b0).2.1 (pL p n e0 b0).2.2
        rw [← hx2]
        exact st
  · rw [pL_err p he] at hx1 hx2
    have hx1 : acc ++ [] = (pL p n e0 b0).1 := hx1
    rw [List.append_nil] at hx1
    refine xA 17 false rfl (decide_eq_false he) ?_
    repeat (first | refine qG ?_ | refine qR rfl rfl rfl ?_ | refine xE rfl rfl ?_)
    refine wg_false rfl ?_
    repeat (first | refine qO ?_ | refine qS ?_ | refine qA ?_ | refine qG ?_ | refine qJ rfl rfl ?_ | refine qE rfl rfl ?_)
    refine qQ rfl ⟨⟨?_, hown⟩, v2, ?_⟩
    · show Buf A2 5 vb (pL p n e0 b0).1.length ((pL p n e0 b0).1.flatMap hac)
      rw [← hx1]
      exact hbuf
    · show PStep A A2 fc fr v v2 (pL p n e0 b0).2.1 (pL p n e0 b0).2.2
      rw [← hx2]
      exact st
end Go.Proofs.YtiecclkgjcnaoaaGreat.Ae
