/-
  THE DOCUMENT'S WRITING, by the rules: Encode.
-/
import Derived.Test.YtiecclkgjcnaoaaGreatAiSyE10
import Derived.Test.YtiecclkgjcnaoaaGreatAiSyE7
namespace Go.Proofs.YtiecclkgjcnaoaaGreat.Ae
open Go.AE
set_option linter.unusedVariables false
set_option maxRecDepth 100000
set_option maxHeartbeats 8000000 in
theorem rencode_spec {A : AW} {n0 : Nat} {c : ClT} {pv fv mv : AV} (hw : Wf A) (h : ClR A n0 c pv fv mv) (hl1 : c.pool.length < 1000000) (hsh : shC c) (hin : ∀ x ∈ c.pool, intR x.int) :
    CallP (ES 4) 30 [.agg (clc c.name c.super pv fv mv)] A fun r A1 =>
      ((∃ e : Int, r = .tuple [.nils, .int .i64 e] ∧ e ≠ 0 ∧ ¬ (clsOk c ∧ (encC c).length ≤ 20000)) ∨ (∃ vb, r = .tuple [vb, .int .i64 0] ∧ Buf A1 1 vb (encC c).length (bys (encC c)) ∧ clsOk c ∧ (encC c).length ≤ 20000)) ∧ Only A A1 none' := by
  refine call_of rfl rfl rfl ?_
  unfold clc
  repeat (first | refine qO ?_ | refine qA ?_)
  refine wo_box rfl rfl rfl rfl ?_
  refine wo_A (fun A1 => Only A A1 none' ∧ A1.heap.get A.nxt = some (.cells 0 false 5 [.str c.name, .str c.super, pv, fv, mv])) ⟨Only.add hw _, by rw [AW.add_get, if_pos rfl]; rfl⟩ ?_
  rintro A1 ⟨o1, h1⟩
  generalize A.nxt = f1 at h1
  have H := h.keep o1
  repeat (first | refine qO ?_ | refine qA ?_ | refine qG ?_ | refine qE rfl rfl ?_)
  refine xG (vs := clc c.name c.super pv fv mv) rfl rfl rfl rfl h1 rfl ?_
  refine qU rfl rfl orc_cons rfl (rcheck_spec (c := c) o1.wf H hl1 hsh) ?_
  rintro r B ⟨⟨e, rfl, he⟩, o2⟩
  have oB := o1.same o2
  have h1 := o2.keep _ _ h1 fun h => h
  have H := H.keep o2
  repeat (first | refine qO ?_ | refine qA ?_ | refine qG ?_ | refine qJ rfl rfl ?_ | refine qE rfl rfl ?_ | refine xL rfl rfl rfl ?_)
  refine qV rfl (fun hne => ?_) fun hz => ?_
  · repeat (first | refine qO ?_ | refine qA ?_ | refine qG ?_ | refine qJ rfl rfl ?_ | refine qE rfl rfl ?_)
    refine qQ rfl ⟨.inl ⟨e, rfl, hne, fun ok => ?_⟩, oB⟩
    rcases he with ⟨h, _⟩ | ⟨_, _, h⟩
    · exact hne h
    · exact h ok.1
  have hz : e = 0 := Decidable.byContradiction hz
  have ok : clsOk c := he.ok hz
  have hpl := ok.2.2.1
  have hn20 := isN_len ok.1
  have hs20 : c.super.length ≤ 20 := by
    rcases ok.2.1 with h2 | h2
    · rw [h2]; exact Nat.zero_le _
    · exact isN_len h2
  have hpL := encP_len ok
  have hcoL : ∀ x ∈ c.pool, (encCo x).length ≤ 43 := fun x hx => encCo_len (ok.2.2.2.1 x hx) (hin x hx)
  have hfi := ok.2.2.2.2.1
  have hfiL : ∀ x ∈ c.fields, (encF x).length ≤ 44 := fun x hx => by
    obtain ⟨i, hi⟩ := List.getElem?_of_mem hx
    exact encF_len (hfi.2 i x hi)
  have hfl := hfi.1
  have hml := ok.2.2.2.2.2.1
  have hmok := ok.2.2.2.2.2.2
  have hmeL : ∀ x ∈ c.methods, (encM x).length ≤ 4000 := fun x hx => by
    obtain ⟨i, hi⟩ := List.getElem?_of_mem hx
    exact encM_len hpl (hmok i x hi)
  have wB := oB.wf
  have hP := H.p
  have hF := H.f
  obtain ⟨mcs, hM, hML⟩ := H.m
  repeat (first | refine qO ?_ | refine qS ?_ | refine qA ?_ | refine qG ?_ | refine qE rfl rfl ?_ | refine wo_buildSlice rfl rfl rfl ?_)
  refine wg_A (fun A3 => Only B A3 none' ∧ A3.heap.get B.nxt = some (.cells 0 false 1 (bys [76, 79, 79, 77, 1]))) ⟨Only.add wB _, by rw [AW.add_get, if_pos rfl]; rfl⟩ ?_
  rintro A3 ⟨o3, hl⟩
  have hge : B.nxt ≤ B.nxt := Nat.le_refl _
  generalize hlf : B.nxt = lf at hl
  have g1 := o3.keep _ _ h1 fun h => h
  refine wg_draw rfl ?_
  repeat (first
    | (refine xC rfl rfl rfl rfl rfl ?_
       repeat (first | refine qG ?_ | refine qJ rfl rfl ?_ | refine qI rfl rfl rfl ?_)
       refine ⟨rfl, ?_⟩)
    | (refine xI rfl rfl rfl rfl rfl rfl rfl ?_
       repeat (first | refine qG ?_ | refine qP rfl rfl rfl rfl (by assumption) rfl ?_)
       refine ⟨rfl, _, rfl, ?_⟩))
  refine xI rfl rfl rfl rfl rfl rfl rfl ?_
  refine xJ rfl rfl rfl hP.row.lenV ?_
  repeat refine qG ?_
  refine ⟨rfl, _, rfl, ?_⟩
  refine wd_act rfl rfl rfl ?_
  refine qU rfl rfl orc_cons rfl (refText1_spec (s := c.name) o3.wf hl rfl (by decide) (by omega)) ?_
  intro v4 A4 k4
  have E4 := EB.lit wB o3 (by omega) k4
  have g1 := E4.only.keep _ _ h1 fun h => h
  have hpv := hP.row.lenV
  repeat refine qG ?_
  refine ⟨?_, ?_⟩
  · repeat (first | exact trivial | refine ⟨.inl (by dsimp only; rfl), ?_⟩ | refine ⟨.inr (stillLen rfl rfl (by assumption)), ?_⟩ | refine ⟨.inr (stillG rfl rfl rfl (by assumption) (by first | rfl | assumption) (by first | exact stillInt | exact stillStr | exact Full.still (by assumption))), ?_⟩)
  refine wd_act rfl rfl rfl ?_
  refine qU rfl rfl orc_cons rfl (rtxt_spec (s := c.super) E4.only.wf E4.buf (by simp only [List.length_append, List.length_cons, List.length_nil]; have := encS_len hn20; omega) (by omega)) ?_
  intro v5 A5 k5
  have E5 := E4.step wB k5
  have g1 := E5.only.keep _ _ h1 fun h => h
  repeat refine qG ?_
  refine ⟨?_, ?_⟩
  · repeat (first | exact trivial | refine ⟨.inl (by dsimp only; rfl), ?_⟩ | refine ⟨.inr (stillLen rfl rfl (by assumption)), ?_⟩ | refine ⟨.inr (stillG rfl rfl rfl (by assumption) (by first | rfl | assumption) (by first | exact stillInt | exact stillStr | exact Full.still (by assumption))), ?_⟩)
  refine wd_act rfl rfl rfl ?_
  refine qU rfl rfl orc_cons rfl (rnum_spec (n := c.pool.length) E5.only.wf E5.buf (by
    have h1 := encS_len hn20
    have h2 := encS_len hs20
    show (([76, 79, 79, 77, 1] ++ encS c.name) ++ encS c.super).length < _
    simp only [List.length_append, List.length_cons, List.length_nil]
    omega) (by omega)) ?_
  intro v6 A6 k6
  have E6 : EB B A6 v6 (encP c) := by
    have := E5.step wB k6
    unfold encP
    simpa only [List.append_assoc] using this
  have g1 := E6.only.keep _ _ h1 fun h => h
  repeat refine qG ?_
  refine ⟨?_, ?_⟩
  · repeat (first | exact trivial | refine ⟨.inl (by dsimp only; rfl), ?_⟩)
  refine wd_act rfl rfl rfl ?_
  repeat (first | refine qG ?_ | refine qE rfl rfl ?_)
  refine ⟨?_, ?_⟩
  · repeat (first | exact trivial | refine ⟨.inl (by dsimp only; rfl), ?_⟩)
  refine wd_nil ?_
  repeat (first | refine qO ?_ | refine qY ?_ | refine qA ?_ | refine qG ?_ | refine qE rfl rfl ?_)
  refine wg_loop ?_
  refine wg_le (.put 1 (.ptr f1 0 0) (.put 5 v6 (.put 6 (.int .i64 ((0 : Nat) : Int)) .nil))) ?_ ⟨rfl, rfl, rfl, trivial⟩
  refine wg_ind (ι := Nat × AV) (fun s => c.pool.length - s.1) (fun s => .put 1 (.ptr f1 0 0) (.put 5 s.2 (.put 6 (.int .i64 (s.1 : Int)) .nil)))
    (fun s A' => EB B A' s.2 (encP c ++ (c.pool.take s.1).flatMap encCo) ∧ s.1 ≤ c.pool.length) ?_ (0, v6) A6 ⟨by simpa using E6, Nat.zero_le _⟩
  rintro ⟨i, vi⟩ A7 ⟨E7, hi⟩ ih
  have hi : i ≤ c.pool.length := hi
  have E7 : EB B A7 vi (encP c ++ (c.pool.take i).flatMap encCo) := E7
  have g1 := E7.only.keep _ _ h1 fun h => h
  have hP7 := hP.keep E7.only fun _ _ h => h
  have hbl : (encP c ++ (c.pool.take i).flatMap encCo).length < 90000 := by
    have h3 := flatT_le i hcoL
    rw [List.length_append]
    have := Nat.mul_le_mul_right 43 hpl
    omega
  repeat (first | refine qO ?_ | refine qA ?_ | refine qJ rfl rfl ?_ | refine qI rfl rfl rfl ?_ | refine qP rfl rfl rfl rfl (by assumption) rfl ?_)
  refine xJ rfl rfl rfl hP7.row.lenV ?_
  repeat (first | refine qG ?_ | refine xM rfl rfl rfl ?_)
  refine qV rfl (fun hlt => ?_) fun hge => ?_
  · have hlt : i < c.pool.length := Int.ofNat_lt.1 hlt
    obtain ⟨x, hx⟩ : ∃ x, c.pool[i]? = some x := ⟨c.pool[i], List.getElem?_eq_getElem hlt⟩
    obtain ⟨f, t, o, cc, ex, ro, all, e0, hh, _, hat⟩ := row_el (cl := coc) (fun _ => rfl) hP7.row hx
    repeat (first | refine qO ?_ | refine qS ?_ | refine qY ?_ | refine qA ?_ | refine qJ rfl rfl ?_ | refine qI rfl rfl rfl ?_ | refine qP rfl rfl rfl rfl (by assumption) rfl ?_)
    refine xF i rfl (congrArg some e0) rfl rfl rfl hlt ?_
    refine xG (vs := coc x) rfl rfl rfl rfl hh ?_ ?_
    · exact (hat 5 0 (Nat.le_refl _)).trans rfl
    refine qU rfl rfl orc_cons rfl (rcw_spec (c := x) E7.only.wf E7.buf hbl (ok.2.2.2.1 x (List.mem_of_getElem? hx)) (hin x (List.mem_of_getElem? hx))) ?_
    intro v8 A8 k8
    have E8 := E7.step wB k8
    rw [List.append_assoc, ← flat_snoc hx] at E8
    repeat (first | refine xB ?_ | refine qA ?_ | refine qG ?_ | refine qJ rfl rfl ?_ | refine qE rfl rfl ?_)
    refine wo_add rfl rfl rfl (by omega) (by omega) ?_
    repeat (first | refine qG ?_ | refine qE rfl rfl ?_)
    refine xN ?_
    refine wg_le (.put 1 (.ptr f1 0 0) (.put 5 v8 (.put 6 (.int .i64 ((i + 1 : Nat) : Int)) .nil))) ?_ ⟨rfl, rfl, rfl, trivial⟩
    exact ih (i + 1, v8) A8 (by simp only; omega) ⟨E8, hlt⟩
  have hge : i = c.pool.length := by
    have : ¬ (i : Int) < (c.pool.length : Int) := hge
    omega
  subst hge
  rw [List.take_length] at E7 hbl
  have hF7 := hF.keep E7.only fun _ _ h => h
  refine wg_exit rfl ?_
  repeat (first | refine qO ?_ | refine qA ?_ | refine qJ rfl rfl ?_ | refine qI rfl rfl rfl ?_ | refine qP rfl rfl rfl rfl (by assumption) rfl ?_)
  refine xJ rfl rfl rfl hF7.row.lenV ?_
  refine qU rfl rfl orc_cons rfl (rnum_spec (n := c.fields.length) E7.only.wf E7.buf (by omega) (by have := hfi.1; omega)) ?_
  intro v8 A8 k8
  have E8 := E7.step wB k8
  generalize hp1 : encP c ++ c.pool.flatMap encCo ++ grp c.fields.length = p1 at E8
  have hp1l : p1.length < 10000 := by
    have h3 := flatK_le hcoL
    have h4 := grp_le (n := c.fields.length) (by have := hfi.1; omega)
    have := Nat.mul_le_mul_right 43 hpl
    rw [← hp1, List.length_append, List.length_append]
    omega
  repeat (first | refine qO ?_ | refine qY ?_ | refine qA ?_ | refine qG ?_ | refine qE rfl rfl ?_)
  refine wg_loop ?_
  refine wg_le (.put 1 (.ptr f1 0 0) (.put 5 v8 (.put 7 (.int .i64 ((0 : Nat) : Int)) .nil))) ?_ ⟨rfl, rfl, rfl, trivial⟩
  refine wg_ind (ι := Nat × AV) (fun s => c.fields.length - s.1) (fun s => .put 1 (.ptr f1 0 0) (.put 5 s.2 (.put 7 (.int .i64 (s.1 : Int)) .nil)))
    (fun s A' => EB B A' s.2 (p1 ++ (c.fields.take s.1).flatMap encF) ∧ s.1 ≤ c.fields.length) ?_ (0, v8) A8 ⟨by simpa using E8, Nat.zero_le _⟩
  clear ih
  rintro ⟨i, vi⟩ A9 ⟨E9, hi⟩ ih
  have hi : i ≤ c.fields.length := hi
  have E9 : EB B A9 vi (p1 ++ (c.fields.take i).flatMap encF) := E9
  have g1 := E9.only.keep _ _ h1 fun h => h
  have hF9 := hF.keep E9.only fun _ _ h => h
  have hbl : (p1 ++ (c.fields.take i).flatMap encF).length < 11000 := by
    have h3 := flatT_le i hfiL
    rw [List.length_append]
    have := Nat.mul_le_mul_right 44 hfi.1
    omega
  repeat (first | refine qO ?_ | refine qA ?_ | refine qJ rfl rfl ?_ | refine qI rfl rfl rfl ?_ | refine qP rfl rfl rfl rfl (by assumption) rfl ?_)
  refine xJ rfl rfl rfl hF9.row.lenV ?_
  repeat (first | refine qG ?_ | refine xM rfl rfl rfl ?_)
  refine qV rfl (fun hlt => ?_) fun hge => ?_
  · have hlt : i < c.fields.length := Int.ofNat_lt.1 hlt
    obtain ⟨x, hx⟩ : ∃ x, c.fields[i]? = some x := ⟨c.fields[i], List.getElem?_eq_getElem hlt⟩
    have hfx := (hfi.2 i x hx).1
    obtain ⟨f, t, o, cc, ex, ro, all, e0, hhB, _, hat⟩ := row_el (cl := fic) (fun _ => rfl) hF.row hx
    have hn0 : nth all (Nat.add (Nat.add o (Nat.mul i 4)) 0) = some (.str x.name) := nth_take ((hat 1 0 (by decide)).trans rfl)
    have hn1 : takeN 2 (dropN (Nat.add (Nat.add o (Nat.mul i 4)) 1) all) = some (tyc x.ty) := (hat 2 1 (by decide)).trans rfl
    have hn3 : nth all (Nat.add (Nat.add o (Nat.mul i 4)) 3) = some (.bool x.vol) := nth_take ((hat 1 3 (by decide)).trans rfl)
    have hh := E9.only.keep _ _ hhB fun h => h
    repeat (first | refine qO ?_ | refine qS ?_ | refine qY ?_ | refine qA ?_ | refine qG ?_ | refine qJ rfl rfl ?_ | refine qE rfl rfl ?_ | refine qI rfl rfl rfl ?_ | refine qP rfl rfl rfl rfl (by assumption) rfl ?_)
    refine xF i rfl (congrArg some e0) rfl rfl rfl hlt ?_
    repeat refine qI rfl rfl rfl ?_
    refine qP rfl rfl rfl rfl hh hn3 ?_
    repeat refine qG ?_
    refine wg_cut (fun l1 A' => (Kn.put 1 (.ptr f1 0 0) (.put 5 vi (.put 7 (.int .i64 (i : Int)) (.put 8 (.int .u8 ((if x.vol = true then 1 else 0 : Nat) : Int)) .nil)))).le l1 ∧ A' = A9) (fun k' hk => ?_) ?_
    · refine wg_if rfl (fun hb => ?_) fun hb => ?_
      · repeat (first | refine qA ?_ | refine qG ?_ | refine qE rfl rfl ?_)
        exact hk _ _ ⟨⟨rfl, rfl, rfl, congrArg (fun b : Nat => some (AV.int .u8 (b : Int))) (if_pos hb).symm, trivial⟩, rfl⟩
      · repeat refine qS ?_
        exact hk _ _ ⟨⟨rfl, rfl, rfl, congrArg (fun b : Nat => some (AV.int .u8 (b : Int))) (if_neg (by rw [hb]; decide)).symm, trivial⟩, rfl⟩
    rintro l1 A9' ⟨hl1', e9⟩
    obtain rfl : A9 = A9' := e9.symm
    refine wg_le _ ?_ hl1'
    refine wg_draw rfl ?_
    repeat (first
      | (refine xC rfl rfl rfl rfl rfl ?_
         repeat (first | refine qG ?_ | refine qJ rfl rfl ?_ | refine qI rfl rfl rfl ?_)
         refine ⟨rfl, ?_⟩)
      | (refine xI rfl rfl rfl rfl rfl rfl rfl ?_
         repeat (first | refine qG ?_ | refine qP rfl rfl rfl rfl (by assumption) rfl ?_)
         refine ⟨rfl, _, rfl, ?_⟩))
    refine xC rfl rfl rfl rfl rfl ?_
    refine xF i rfl (congrArg some e0) rfl rfl rfl hlt ?_
    repeat refine qG ?_
    refine ⟨rfl, ?_⟩
    repeat (first
      | (refine xC rfl rfl rfl rfl rfl ?_
         repeat (first | refine qG ?_ | refine qI rfl rfl rfl ?_)
         refine ⟨rfl, ?_⟩))
    refine xI rfl rfl rfl rfl rfl rfl rfl ?_
    refine qP rfl rfl rfl rfl hh hn0 ?_
    repeat refine qG ?_
    refine ⟨rfl, _, rfl, ?_⟩
    repeat (first
      | (refine xC rfl rfl rfl rfl rfl ?_
         repeat (first | refine qG ?_ | refine qJ rfl rfl ?_ | refine qI rfl rfl rfl ?_)
         refine ⟨rfl, ?_⟩)
      | (refine xI rfl rfl rfl rfl rfl rfl rfl ?_
         repeat (first | refine qG ?_ | refine qP rfl rfl rfl rfl (by assumption) rfl ?_)
         refine ⟨rfl, _, rfl, ?_⟩))
    refine xC rfl rfl rfl rfl rfl ?_
    refine xF i rfl (congrArg some e0) rfl rfl rfl hlt ?_
    repeat refine qG ?_
    refine ⟨rfl, ?_⟩
    repeat (first
      | (refine xC rfl rfl rfl rfl rfl ?_
         repeat (first | refine qG ?_ | refine qI rfl rfl rfl ?_)
         refine ⟨rfl, ?_⟩))
    refine xI rfl rfl rfl rfl rfl rfl rfl ?_
    refine xG (vs := tyc x.ty) rfl rfl rfl rfl hh hn1 ?_
    repeat refine qG ?_
    refine ⟨rfl, _, rfl, ?_⟩
    repeat (first
      | (refine xC rfl rfl rfl rfl rfl ?_
         repeat (first | refine qG ?_ | refine qJ rfl rfl ?_)
         refine ⟨rfl, ?_⟩))
    refine wd_make rfl rfl rfl rfl ?_
    refine wo_buildSlice rfl rfl rfl ?_
    refine wo_A (fun A' => Only A9 A' none' ∧ A'.heap.get A9.nxt = some (.cells 0 false 1 [.int .u8 ((if x.vol = true then 1 else 0 : Nat) : Int)])) ⟨Only.add E9.only.wf _, by rw [AW.add_get, if_pos rfl]; rfl⟩ ?_
    rintro A10 ⟨o10, hv⟩
    have E10 := E9.quiet o10
    have nv : ¬ vi.isFam A9.nxt := fun k => by
      have := E9.buf.row.under E9.only.wf _ k
      omega
    generalize A9.nxt = fv1 at hv nv
    have g1 := E10.only.keep _ _ h1 fun h => h
    have hh := E10.only.keep _ _ hhB fun h => h
    repeat refine qG ?_
    refine wd_act rfl rfl rfl ?_
    refine qU rfl rfl orc_cons rfl (rtxt_spec (s := x.name) E10.only.wf E10.buf (by omega) (by have := isN_len hfx.1; omega)) ?_
    intro v11 A11 k11
    have E11 := E10.step wB k11
    obtain ⟨hv, nv⟩ := hold_lit E10.only.wf k11 hv nv
    have g1 := E11.only.keep _ _ h1 fun h => h
    have hh := E11.only.keep _ _ hhB fun h => h
    have hl11 : (p1 ++ (c.fields.take i).flatMap encF ++ encS x.name).length < 11100 := by
      have := encS_len (isN_len hfx.1)
      rw [List.length_append]
      omega
    repeat refine qG ?_
    refine ⟨?_, ?_⟩
    · repeat (first | exact trivial | refine ⟨.inl (by dsimp only; rfl), ?_⟩ | refine ⟨.inr (stillG rfl rfl rfl (by assumption) (by first | rfl | assumption) (by first | exact stillInt | exact stillStr | exact Full.still (by assumption))), ?_⟩ | refine ⟨.inr (stillTy rfl (by assumption) (by first | rfl | assumption)), ?_⟩)
    refine wd_act rfl rfl rfl ?_
    refine qU rfl rfl orc_cons rfl (rtypw_spec (t := x.ty) E11.only.wf E11.buf (by omega) hfx.2 (by have := tyOk_len hfx.2; omega)) ?_
    intro v12 A12 k12
    have E12 := E11.step wB k12
    obtain ⟨hv, nv⟩ := hold_lit E11.only.wf k12 hv nv
    have g1 := E12.only.keep _ _ h1 fun h => h
    have hh := E12.only.keep _ _ hhB fun h => h
    have hl12 : (p1 ++ (c.fields.take i).flatMap encF ++ encS x.name ++ encK x.ty).length < 11200 := by
      have := encK_len hfx.2
      rw [List.length_append]
      omega
    repeat refine qG ?_
    refine ⟨?_, ?_⟩
    · repeat (first | exact trivial | refine ⟨.inl (by dsimp only; rfl), ?_⟩)
    refine wd_act rfl rfl rfl ?_
    refine wo_append rfl rfl rfl rfl rfl (append_buf (de := d5) (m := 1) rfl rfl rfl rfl E12.only.wf E12.buf (src_lit hv) rfl (by decide) (room_of (by omega) (by decide))) ?_
    intro v13 A13 g13
    have k13 : BStep A12 A13 v12 v13 (p1 ++ (c.fields.take i).flatMap encF ++ encS x.name ++ encK x.ty) [if x.vol = true then 1 else 0] := BStep.one g13
    have E13 : EB B A13 v13 (p1 ++ (c.fields.take (i + 1)).flatMap encF) := by
      have := E12.step wB k13
      rw [flat_snoc hx]
      show EB B A13 v13 (p1 ++ ((c.fields.take i).flatMap encF ++ (encS x.name ++ (encK x.ty ++ [if x.vol = true then 1 else 0]))))
      simpa only [List.append_assoc] using this
    have g1 := E13.only.keep _ _ h1 fun h => h
    have hh := E13.only.keep _ _ hhB fun h => h
    repeat refine qG ?_
    refine ⟨?_, ?_⟩
    · repeat (first | exact trivial | refine ⟨.inl (by dsimp only; rfl), ?_⟩)
    refine wd_act rfl rfl rfl ?_
    repeat (first | refine qG ?_ | refine qE rfl rfl ?_)
    refine ⟨?_, ?_⟩
    · repeat (first | exact trivial | refine ⟨.inl (by dsimp only; rfl), ?_⟩)
    refine wd_nil ?_
    repeat (first | refine xB ?_ | refine qA ?_ | refine qJ rfl rfl ?_)
    refine wo_add rfl rfl rfl (by omega) (by omega) ?_
    repeat (first | refine qG ?_ | refine qE rfl rfl ?_)
    refine xN ?_
    refine wg_le (.put 1 (.ptr f1 0 0) (.put 5 v13 (.put 7 (.int .i64 ((i + 1 : Nat) : Int)) .nil))) ?_ ⟨rfl, rfl, rfl, trivial⟩
    exact ih (i + 1, v13) A13 (by simp only; omega) ⟨E13, hlt⟩
  have hge : i = c.fields.length := by
    have : ¬ (i : Int) < (c.fields.length : Int) := hge
    omega
  subst hge
  rw [List.take_length] at E9 hbl
  have hM9 := hM.keep E9.only fun _ _ h => h
  refine wg_exit rfl ?_
  repeat (first | refine qO ?_ | refine qA ?_ | refine qJ rfl rfl ?_ | refine qI rfl rfl rfl ?_ | refine qP rfl rfl rfl rfl (by assumption) rfl ?_)
  refine xJ rfl rfl rfl hM9.row.lenV ?_
  refine qU rfl rfl orc_cons rfl (rnum_spec (n := c.methods.length) E9.only.wf E9.buf (by omega) (by omega)) ?_
  intro v10 A10 k10
  have E10 := E9.step wB k10
  generalize hp2 : p1 ++ c.fields.flatMap encF ++ grp c.methods.length = p2 at E10
  have hp2l : p2.length < 12000 := by
    have h4 := grp_le (n := c.methods.length) (by omega)
    rw [← hp2, List.length_append]
    omega
  repeat (first | refine qO ?_ | refine qY ?_ | refine qA ?_ | refine qG ?_ | refine qE rfl rfl ?_)
  refine wg_loop ?_
  refine wg_le (.put 1 (.ptr f1 0 0) (.put 5 v10 (.put 9 (.int .i64 ((0 : Nat) : Int)) .nil))) ?_ ⟨rfl, rfl, rfl, trivial⟩
  refine wg_ind (ι := Nat × AV) (fun s => c.methods.length - s.1) (fun s => .put 1 (.ptr f1 0 0) (.put 5 s.2 (.put 9 (.int .i64 (s.1 : Int)) .nil)))
    (fun s A' => EB B A' s.2 (p2 ++ (c.methods.take s.1).flatMap encM) ∧ s.1 ≤ c.methods.length) ?_ (0, v10) A10 ⟨by simpa using E10, Nat.zero_le _⟩
  clear ih
  rintro ⟨i, vi⟩ A11 ⟨E11, hi⟩ ih
  have hi : i ≤ c.methods.length := hi
  have E11 : EB B A11 vi (p2 ++ (c.methods.take i).flatMap encM) := E11
  have g1 := E11.only.keep _ _ h1 fun h => h
  have hM11 := hM.keep E11.only fun _ _ h => h
  have hbl : (p2 ++ (c.methods.take i).flatMap encM).length < 60001 := by
    have h3 := flatT_le i hmeL
    rw [List.length_append]
    have := Nat.mul_le_mul_right 4000 hml
    omega
  repeat (first | refine qO ?_ | refine qA ?_ | refine qJ rfl rfl ?_ | refine qI rfl rfl rfl ?_ | refine qP rfl rfl rfl rfl (by assumption) rfl ?_)
  refine xJ rfl rfl rfl hM11.row.lenV ?_
  repeat (first | refine qG ?_ | refine xM rfl rfl rfl ?_)
  refine qV rfl (fun hlt => ?_) fun hge => ?_
  · have hlt : i < c.methods.length := Int.ofNat_lt.1 hlt
    obtain ⟨x, hx⟩ : ∃ x, c.methods[i]? = some x := ⟨c.methods[i], List.getElem?_eq_getElem hlt⟩
    have hmx := hmok i x hx
    obtain ⟨m1, m2, m3, m4, _, m6, m7, m8⟩ := hmx
    obtain ⟨qv, cv, hv, hmr, hel⟩ := meL_at hML hx
    obtain ⟨f, t, o, cc, ex, ro, all, e0, hhB, hat⟩ := hM.row.at hlt
    have hh := E11.only.keep _ _ hhB fun h => h
    repeat (first | refine qO ?_ | refine qS ?_ | refine qY ?_ | refine qA ?_ | refine qJ rfl rfl ?_ | refine qI rfl rfl rfl ?_ | refine qP rfl rfl rfl rfl (by assumption) rfl ?_)
    refine xF i rfl (congrArg some e0) rfl rfl rfl hlt ?_
    refine xG (vs := mec x qv cv hv) rfl rfl rfl rfl hh ?_ ?_
    · exact (hat 8 0 (Nat.le_refl _)).trans ((hel 8 0 (Nat.le_refl _)).trans rfl)
    refine wo_alloc rfl rfl rfl ?_
    refine qZ rfl rfl rfl rfl rfl rfl (by rw [AW.add_get, if_pos rfl]) rfl ?_
    refine wo_A (fun A2 => Only A11 A2 none' ∧ A2.heap.get A11.nxt = some (.cells 0 false 8 (mec x qv cv hv))) ⟨made E11.only.wf, by rw [AW.put_get, if_pos rfl]; rfl⟩ ?_
    rintro A12 ⟨o12, h5⟩
    have E12 := E11.quiet o12
    generalize A11.nxt = f5 at h5
    unfold mec at h5
    have hQ := hmr.p.keep E12.only fun _ _ h => h
    repeat (first | refine qO ?_ | refine qG ?_)
    refine wg_draw rfl ?_
    repeat (first
      | (refine xC rfl rfl rfl rfl rfl ?_
         repeat (first | refine qG ?_ | refine qJ rfl rfl ?_ | refine qI rfl rfl rfl ?_)
         refine ⟨rfl, ?_⟩)
      | (refine xI rfl rfl rfl rfl rfl rfl rfl ?_
         repeat (first | refine qG ?_ | refine qP rfl rfl rfl rfl (by assumption) rfl ?_)
         refine ⟨rfl, _, rfl, ?_⟩))
    refine xI rfl rfl rfl rfl rfl rfl rfl ?_
    refine xJ rfl rfl rfl hQ.lenV ?_
    repeat refine qG ?_
    refine ⟨rfl, _, rfl, ?_⟩
    have hqv := hQ.lenV
    refine wd_act rfl rfl rfl ?_
    refine qU rfl rfl orc_cons rfl (rtxt_spec (s := x.name) E12.only.wf E12.buf (by omega) (by have := isN_len m1; omega)) ?_
    intro v13 A13 k13
    have E13 := E12.step wB k13
    have h5 := hold_es k13 E12.buf h5 (by decide)
    have hl13 : (p2 ++ (c.methods.take i).flatMap encM ++ encS x.name).length < 60100 := by
      have := encS_len (isN_len m1)
      rw [List.length_append]
      omega
    repeat refine qG ?_
    refine ⟨?_, ?_⟩
    · repeat (first | exact trivial | refine ⟨.inl (by dsimp only; rfl), ?_⟩ | refine ⟨.inr (stillLen rfl rfl (by assumption)), ?_⟩ | refine ⟨.inr (stillG rfl rfl rfl (by assumption) (by first | rfl | assumption) (by first | exact stillInt | exact stillStr | exact Full.still (by assumption))), ?_⟩)
    refine wd_act rfl rfl rfl ?_
    refine qU rfl rfl orc_cons rfl (rnum_spec (n := x.params.length) E13.only.wf E13.buf (by omega) (by omega)) ?_
    intro v14 A14 k14
    have E14 := E13.step wB k14
    have h5 := hold_es k14 E13.buf h5 (by decide)
    generalize hq1 : p2 ++ (c.methods.take i).flatMap encM ++ encS x.name ++ grp x.params.length = q1 at E14
    have hq1l : q1.length < 60200 := by
      have := grp_le (n := x.params.length) (by omega)
      rw [← hq1, List.length_append]
      omega
    repeat refine qG ?_
    refine ⟨?_, ?_⟩
    · repeat (first | exact trivial | refine ⟨.inl (by dsimp only; rfl), ?_⟩)
    refine wd_act rfl rfl rfl ?_
    repeat (first | refine qG ?_ | refine qE rfl rfl ?_)
    refine ⟨?_, ?_⟩
    · repeat (first | exact trivial | refine ⟨.inl (by dsimp only; rfl), ?_⟩)
    refine wd_nil ?_
    repeat (first | refine qO ?_ | refine qY ?_ | refine qA ?_ | refine qG ?_ | refine qE rfl rfl ?_)
    refine wg_loop ?_
    refine wg_le (.put 1 (.ptr f1 0 0) (.put 5 v14 (.put 9 (.int .i64 (i : Int)) (.put 10 (.ptr f5 0 0) (.put 11 (.int .i64 ((0 : Nat) : Int)) .nil))))) ?_ ⟨rfl, rfl, rfl, rfl, rfl, trivial⟩
    refine wg_ind (ι := Nat × AV) (fun s => x.params.length - s.1) (fun s => .put 1 (.ptr f1 0 0) (.put 5 s.2 (.put 9 (.int .i64 (i : Int)) (.put 10 (.ptr f5 0 0) (.put 11 (.int .i64 (s.1 : Int)) .nil)))))
      (fun s A' => EB B A' s.2 (q1 ++ (x.params.take s.1).flatMap encK) ∧ A'.heap.get f5 = some (.cells 0 false 8 [.str x.name, qv, .int .i64 x.ret.1, .str x.ret.2, .int .i64 x.locals, .int .i64 x.stack, cv, hv]) ∧ s.1 ≤ x.params.length) ?_ (0, v14) A14 ⟨by simpa using E14, h5, Nat.zero_le _⟩
    rintro ⟨j, vj⟩ A15 ⟨E15, h5, hj⟩ ih2
    have hj : j ≤ x.params.length := hj
    have E15 : EB B A15 vj (q1 ++ (x.params.take j).flatMap encK) := E15
    have hQ := hmr.p.keep E15.only fun _ _ h => h
    have hbl2 : (q1 ++ (x.params.take j).flatMap encK).length < 60400 := by
      have h3 := flatT_le (f := encK) (k := 22) (l := x.params) j fun y hy => encK_len (m3 y hy)
      rw [List.length_append]
      omega
    repeat (first | refine qO ?_ | refine qA ?_ | refine qJ rfl rfl ?_ | refine qI rfl rfl rfl ?_ | refine qP rfl rfl rfl rfl (by assumption) rfl ?_)
    refine xJ rfl rfl rfl hQ.lenV ?_
    repeat (first | refine qG ?_ | refine xM rfl rfl rfl ?_)
    refine qV rfl (fun hltj => ?_) fun hgej => ?_
    · have hltj : j < x.params.length := Int.ofNat_lt.1 hltj
      obtain ⟨y, hy⟩ : ∃ y, x.params[j]? = some y := ⟨x.params[j], List.getElem?_eq_getElem hltj⟩
      have hyk := m3 y (List.mem_of_getElem? hy)
      obtain ⟨f', t', o', cc', ex', ro', all', e0', hh', _, hat'⟩ := row_el (cl := tyc) (fun _ => rfl) hQ hy
      repeat (first | refine qO ?_ | refine qS ?_ | refine qY ?_ | refine qA ?_ | refine qJ rfl rfl ?_ | refine qI rfl rfl rfl ?_ | refine qP rfl rfl rfl rfl (by assumption) rfl ?_)
      refine xF j rfl (congrArg some e0') rfl rfl rfl hltj ?_
      refine xG (vs := tyc y) rfl rfl rfl rfl hh' ?_ ?_
      · exact (hat' 2 0 (Nat.le_refl _)).trans rfl
      refine qU rfl rfl orc_cons rfl (rtypw_spec (t := y) E15.only.wf E15.buf (by omega) hyk (by have := tyOk_len hyk; omega)) ?_
      intro v16 A16 k16
      have E16 := E15.step wB k16
      rw [List.append_assoc, ← flat_snoc hy] at E16
      have h5 := hold_es k16 E15.buf h5 (by decide)
      repeat (first | refine xB ?_ | refine qA ?_ | refine qG ?_ | refine qJ rfl rfl ?_ | refine qE rfl rfl ?_)
      refine wo_add rfl rfl rfl (by omega) (by omega) ?_
      repeat (first | refine qG ?_ | refine qE rfl rfl ?_)
      refine xN ?_
      refine wg_le (.put 1 (.ptr f1 0 0) (.put 5 v16 (.put 9 (.int .i64 (i : Int)) (.put 10 (.ptr f5 0 0) (.put 11 (.int .i64 ((j + 1 : Nat) : Int)) .nil))))) ?_ ⟨rfl, rfl, rfl, rfl, rfl, trivial⟩
      exact ih2 (j + 1, v16) A16 (by simp only; omega) ⟨E16, h5, hltj⟩
    have hgej : j = x.params.length := by
      have : ¬ (j : Int) < (x.params.length : Int) := hgej
      omega
    subst hgej
    rw [List.take_length] at E15 hbl2
    have hC := hmr.c.keep E15.only fun _ _ h => h
    refine wg_exit rfl ?_
    repeat (first | refine qO ?_ | refine qA ?_ | refine qI rfl rfl rfl ?_ | refine qP rfl rfl rfl rfl (by assumption) rfl ?_)
    refine qU rfl rfl orc_cons rfl (rput_spec (l := x.code) E15.only.wf hC (by have := m8.1.2; omega)) ?_
    rintro r A16 ⟨vx, rfl, hX, o16, gX⟩
    have E16 := E15.quiet o16
    have h5 := o16.keep _ _ h5 fun h => h
    have dX : Disj vx.isFam vj.isFam := fun g hg hv => by
      have h1 := E15.buf.row.under E15.only.wf g hv
      rcases gX g hg with h2 | h2
      · exact h2.elim
      · omega
    have hxl := bodyOk_len m8
    have hhl := m8.2.2.2.1
    have hXl := hX.row.lenV
    have hn5 : takeN 2 (dropN 2 [.str x.name, qv, .int .i64 x.ret.1, .str x.ret.2, .int .i64 x.locals, .int .i64 x.stack, cv, hv]) = some (tyc x.ret) := rfl
    repeat (first | refine qO ?_ | refine qG ?_ | refine qJ rfl rfl ?_ | refine qE rfl rfl ?_ | refine xK rfl rfl rfl ?_)
    refine wg_draw rfl ?_
    repeat (first
      | (refine xC rfl rfl rfl rfl rfl ?_
         repeat (first | refine qG ?_ | refine qJ rfl rfl ?_ | refine qI rfl rfl rfl ?_)
         refine ⟨rfl, ?_⟩))
    refine xI rfl rfl rfl rfl rfl rfl rfl ?_
    refine xG (vs := tyc x.ret) rfl rfl rfl rfl h5 hn5 ?_
    repeat refine qG ?_
    refine ⟨rfl, _, rfl, ?_⟩
    repeat (first
      | (refine xC rfl rfl rfl rfl rfl ?_
         repeat (first | refine qG ?_ | refine qJ rfl rfl ?_ | refine qI rfl rfl rfl ?_)
         refine ⟨rfl, ?_⟩)
      | (refine xI rfl rfl rfl rfl rfl rfl rfl ?_
         repeat (first | refine qG ?_ | refine qP rfl rfl rfl rfl (by assumption) rfl ?_)
         refine ⟨rfl, _, rfl, ?_⟩))
    refine xI rfl rfl rfl rfl rfl rfl rfl ?_
    refine xJ rfl rfl rfl hXl ?_
    repeat refine qG ?_
    refine ⟨rfl, _, rfl, ?_⟩
    refine wd_act rfl rfl rfl ?_
    refine qU rfl rfl orc_cons rfl (rtypw_spec (t := x.ret) E16.only.wf E16.buf (by omega) m4 (by have := tyOk_len m4; omega)) ?_
    intro v17 A17 k17
    have E17 := E16.step wB k17
    have h5 := hold_es k17 E16.buf h5 (by decide)
    obtain ⟨hX, dX⟩ := hold_row E16.only.wf k17 hX dX
    generalize hs1 : q1 ++ x.params.flatMap encK ++ encK x.ret = s1 at E17
    have hs1l : s1.length < 60500 := by
      have := encK_len m4
      rw [← hs1, List.length_append]
      omega
    repeat refine qG ?_
    refine ⟨?_, ?_⟩
    · repeat (first | exact trivial | refine ⟨.inl (by dsimp only; rfl), ?_⟩ | refine ⟨.inr (stillLen rfl rfl (by assumption)), ?_⟩ | refine ⟨.inr (stillG rfl rfl rfl (by assumption) (by first | rfl | assumption) (by first | exact stillInt | exact stillStr | exact Full.still (by assumption))), ?_⟩)
    refine wd_act rfl rfl rfl ?_
    refine qU rfl rfl orc_cons rfl (rnumZ_spec (z := x.locals) E17.only.wf E17.buf (by omega) (by omega) (by omega)) ?_
    intro v18 A18 k18
    have E18 := E17.step wB k18
    have h5 := hold_es k18 E17.buf h5 (by decide)
    obtain ⟨hX, dX⟩ := hold_row E17.only.wf k18 hX dX
    generalize hs2 : s1 ++ grp x.locals.toNat = s2 at E18
    have hs2l : s2.length < 60510 := by
      have := grp_le (n := x.locals.toNat) (by omega)
      rw [← hs2, List.length_append]
      omega
    repeat refine qG ?_
    refine ⟨?_, ?_⟩
    · repeat (first | exact trivial | refine ⟨.inl (by dsimp only; rfl), ?_⟩ | refine ⟨.inr (stillLen rfl rfl (by assumption)), ?_⟩ | refine ⟨.inr (stillG rfl rfl rfl (by assumption) (by first | rfl | assumption) (by first | exact stillInt | exact stillStr | exact Full.still (by assumption))), ?_⟩)
    refine wd_act rfl rfl rfl ?_
    refine qU rfl rfl orc_cons rfl (rnumZ_spec (z := x.stack) E18.only.wf E18.buf (by omega) (by omega) (by omega)) ?_
    intro v19 A19 k19
    have E19 := E18.step wB k19
    have h5 := hold_es k19 E18.buf h5 (by decide)
    obtain ⟨hX, dX⟩ := hold_row E18.only.wf k19 hX dX
    generalize hs3 : s2 ++ grp x.stack.toNat = s3 at E19
    have hs3l : s3.length < 60520 := by
      have := grp_le (n := x.stack.toNat) (by omega)
      rw [← hs3, List.length_append]
      omega
    repeat refine qG ?_
    refine ⟨?_, ?_⟩
    · repeat (first | exact trivial | refine ⟨.inl (by dsimp only; rfl), ?_⟩ | refine ⟨.inr (stillLen rfl rfl (by assumption)), ?_⟩)
    refine wd_act rfl rfl rfl ?_
    refine qU rfl rfl orc_cons rfl (rnum_spec (n := (putL x.code).1.length) E19.only.wf E19.buf (by omega) (by omega)) ?_
    intro v20 A20 k20
    have E20 := E19.step wB k20
    have h5 := hold_es k20 E19.buf h5 (by decide)
    obtain ⟨hX, dX⟩ := hold_row E19.only.wf k20 hX dX
    generalize hs4 : s3 ++ grp (putL x.code).1.length = s4 at E20
    have hs4l : s4.length < 60530 := by
      have := grp_le (n := (putL x.code).1.length) (by omega)
      rw [← hs4, List.length_append]
      omega
    repeat refine qG ?_
    refine ⟨?_, ?_⟩
    · repeat (first | exact trivial | refine ⟨.inl (by dsimp only; rfl), ?_⟩)
    refine wd_act rfl rfl rfl ?_
    repeat (first | refine qG ?_ | refine qE rfl rfl ?_)
    refine ⟨?_, ?_⟩
    · repeat (first | exact trivial | refine ⟨.inl (by dsimp only; rfl), ?_⟩)
    refine wd_nil ?_
    have hH := hmr.h.keep E20.only fun _ _ h => h
    have hHl := hH.lenV
    repeat refine qO ?_
    refine wg_draw rfl ?_
    repeat (first
      | (refine xC rfl rfl rfl rfl rfl ?_
         repeat (first | refine qG ?_ | refine qJ rfl rfl ?_ | refine qI rfl rfl rfl ?_)
         refine ⟨rfl, ?_⟩)
      | (refine xI rfl rfl rfl rfl rfl rfl rfl ?_
         repeat (first | refine qG ?_ | refine qP rfl rfl rfl rfl (by assumption) rfl ?_)
         refine ⟨rfl, _, rfl, ?_⟩))
    refine xI rfl rfl rfl rfl rfl rfl rfl ?_
    refine xJ rfl rfl rfl hHl ?_
    repeat refine qG ?_
    refine ⟨rfl, _, rfl, ?_⟩
    refine wd_act rfl rfl rfl ?_
    refine wo_append rfl rfl rfl rfl rfl (append_buf (de := d5) (m := (putL x.code).1.length) (xs := bys (putL x.code).1) rfl rfl rfl rfl E20.only.wf E20.buf hX.src (by rw [bys_length]; exact (Nat.mul_one _).symm) (by decide) (room_of (by omega) (by decide))) ?_
    intro v21 A21 g21
    have k21 : BStep A20 A21 v20 v21 s4 (putL x.code).1 := BStep.of' g21 (by rw [List.length_append]) (by rw [bys_append])
    have E21 := E20.step wB k21
    have h5 := hold_es k21 E20.buf h5 (by decide)
    generalize hs5 : s4 ++ (putL x.code).1 = s5 at E21
    have hs5l : s5.length < 62800 := by
      rw [← hs5, List.length_append]
      omega
    repeat refine qG ?_
    refine ⟨?_, ?_⟩
    · repeat (first | exact trivial | refine ⟨.inr (stillLen rfl rfl (by assumption)), ?_⟩ | refine ⟨.inr (stillG rfl rfl rfl (by assumption) (by first | rfl | assumption) (by first | exact stillInt | exact stillStr | exact Full.still (by assumption))), ?_⟩)
    refine wd_act rfl rfl rfl ?_
    refine qU rfl rfl orc_cons rfl (rnum_spec (n := x.hands.length) E21.only.wf E21.buf (by omega) (by omega)) ?_
    intro v22 A22 k22
    have E22 := E21.step wB k22
    have h5 := hold_es k22 E21.buf h5 (by decide)
    generalize hs6 : s5 ++ grp x.hands.length = s6 at E22
    have hs6l : s6.length < 62900 := by
      have := grp_le (n := x.hands.length) (by omega)
      rw [← hs6, List.length_append]
      omega
    repeat refine qG ?_
    refine ⟨?_, ?_⟩
    · repeat (first | exact trivial | refine ⟨.inl (by dsimp only; rfl), ?_⟩)
    refine wd_act rfl rfl rfl ?_
    repeat (first | refine qG ?_ | refine qE rfl rfl ?_)
    refine ⟨?_, ?_⟩
    · repeat (first | exact trivial | refine ⟨.inl (by dsimp only; rfl), ?_⟩)
    refine wd_nil ?_
    repeat (first | refine qO ?_ | refine qY ?_ | refine qA ?_ | refine qG ?_ | refine qE rfl rfl ?_)
    refine wg_loop ?_
    refine wg_le (.put 1 (.ptr f1 0 0) (.put 5 v22 (.put 9 (.int .i64 (i : Int)) (.put 10 (.ptr f5 0 0) (.put 14 (.int .i64 ((0 : Nat) : Int)) .nil))))) ?_ ⟨rfl, rfl, rfl, rfl, rfl, trivial⟩
    refine wg_ind (ι := Nat × AV) (fun s => x.hands.length - s.1) (fun s => .put 1 (.ptr f1 0 0) (.put 5 s.2 (.put 9 (.int .i64 (i : Int)) (.put 10 (.ptr f5 0 0) (.put 14 (.int .i64 (s.1 : Int)) .nil)))))
      (fun s A' => EB B A' s.2 (s6 ++ (x.hands.take s.1).flatMap encH) ∧ A'.heap.get f5 = some (.cells 0 false 8 [.str x.name, qv, .int .i64 x.ret.1, .str x.ret.2, .int .i64 x.locals, .int .i64 x.stack, cv, hv]) ∧ s.1 ≤ x.hands.length) ?_ (0, v22) A22 ⟨by simpa using E22, h5, Nat.zero_le _⟩
    clear ih2
    rintro ⟨j, vj⟩ A23 ⟨E23, h5, hj⟩ ih2
    have hj : j ≤ x.hands.length := hj
    have E23 : EB B A23 vj (s6 ++ (x.hands.take j).flatMap encH) := E23
    have hH := hmr.h.keep E23.only fun _ _ h => h
    have hbl2 : (s6 ++ (x.hands.take j).flatMap encH).length < 63800 := by
      have h3 := flatT_le (f := encH) (k := 50) (l := x.hands) j fun y hy => encH_len hpl m8.1.2 (m8.2.2.2.2 y hy)
      rw [List.length_append]
      omega
    repeat (first | refine qO ?_ | refine qA ?_ | refine qJ rfl rfl ?_ | refine qI rfl rfl rfl ?_ | refine qP rfl rfl rfl rfl (by assumption) rfl ?_)
    refine xJ rfl rfl rfl hH.lenV ?_
    repeat (first | refine qG ?_ | refine xM rfl rfl rfl ?_)
    refine qV rfl (fun hltj => ?_) fun hgej => ?_
    · have hltj : j < x.hands.length := Int.ofNat_lt.1 hltj
      obtain ⟨y, hy⟩ : ∃ y, x.hands[j]? = some y := ⟨x.hands[j], List.getElem?_eq_getElem hltj⟩
      obtain ⟨⟨y1, y2, y3, y4, y5⟩, ⟨y6, y7, _⟩, y8, y9⟩ := m8.2.2.2.2 y (List.mem_of_getElem? hy)
      have hcl := m8.1.2
      obtain ⟨f', t', o', cc', ex', ro', all', e0', hh', _, hat'⟩ := row_el (cl := hac) (fun _ => rfl) hH hy
      repeat (first | refine qO ?_ | refine qS ?_ | refine qY ?_ | refine qA ?_ | refine qJ rfl rfl ?_ | refine qI rfl rfl rfl ?_ | refine qP rfl rfl rfl rfl (by assumption) rfl ?_)
      refine xF j rfl (congrArg some e0') rfl rfl rfl hltj ?_
      refine xG (vs := hac y) rfl rfl rfl rfl hh' ?_ ?_
      · exact (hat' 5 0 (Nat.le_refl _)).trans rfl
      refine wo_alloc rfl rfl rfl ?_
      refine qZ rfl rfl rfl rfl rfl rfl (by rw [AW.add_get, if_pos rfl]) rfl ?_
      refine wo_A (fun A2 => Only A23 A2 none' ∧ A2.heap.get A23.nxt = some (.cells 0 false 5 (hac y))) ⟨made E23.only.wf, by rw [AW.put_get, if_pos rfl]; rfl⟩ ?_
      rintro A24 ⟨o24, h15⟩
      have E24 := E23.quiet o24
      have h5 := o24.keep _ _ h5 fun h => h
      generalize A23.nxt = f15 at h15
      unfold hac at h15
      repeat refine qG ?_
      refine wg_draw rfl ?_
      repeat (first
        | (refine xC rfl rfl rfl rfl rfl ?_
           repeat (first | refine qG ?_ | refine qJ rfl rfl ?_ | refine qI rfl rfl rfl ?_)
           refine ⟨rfl, ?_⟩)
        | (refine xI rfl rfl rfl rfl rfl rfl rfl ?_
           repeat (first | refine qG ?_ | refine qP rfl rfl rfl rfl (by assumption) rfl ?_)
           refine ⟨rfl, _, rfl, ?_⟩))
      refine xC rfl rfl rfl rfl rfl ?_
      refine wo_add rfl rfl rfl (by omega) (by omega) ?_
      repeat refine qG ?_
      refine ⟨rfl, ?_⟩
      repeat (first
        | (refine xC rfl rfl rfl rfl rfl ?_
           repeat (first | refine qG ?_ | refine qI rfl rfl rfl ?_)
           refine ⟨rfl, ?_⟩)
        | (refine xI rfl rfl rfl rfl rfl rfl rfl ?_
           repeat (first | refine qG ?_ | refine qP rfl rfl rfl rfl (by assumption) rfl ?_)
           refine ⟨rfl, _, rfl, ?_⟩))
      generalize hu0 : s6 ++ (x.hands.take j).flatMap encH = u0 at E24 hbl2
      refine wd_act rfl rfl rfl ?_
      refine qU rfl rfl orc_cons rfl (rnumZ_spec (z := y.lo) E24.only.wf E24.buf (by omega) (by omega) (by omega)) ?_
      intro v25 A25 k25
      have E25 := E24.step wB k25
      have h5 := hold_es k25 E24.buf h5 (by decide)
      have h15 := hold_es k25 E24.buf h15 (by decide)
      generalize hu1 : u0 ++ grp y.lo.toNat = u1 at E25
      have hul1 : u1.length < 63900 := by
        have := grp_le (n := y.lo.toNat) (by omega)
        rw [← hu1, List.length_append]
        omega
      repeat refine qG ?_
      refine ⟨?_, ?_⟩
      · repeat (first | exact trivial | refine ⟨.inl (by dsimp only; rfl), ?_⟩ | refine ⟨.inr (stillG rfl rfl rfl (by assumption) (by first | rfl | assumption) (by first | exact stillInt | exact stillStr | exact Full.still (by assumption))), ?_⟩)
      refine wd_act rfl rfl rfl ?_
      refine qU rfl rfl orc_cons rfl (rnumZ_spec (z := y.hi) E25.only.wf E25.buf (by omega) (by omega) (by omega)) ?_
      intro v26 A26 k26
      have E26 := E25.step wB k26
      have h5 := hold_es k26 E25.buf h5 (by decide)
      have h15 := hold_es k26 E25.buf h15 (by decide)
      generalize hu2 : u1 ++ grp y.hi.toNat = u2 at E26
      have hul2 : u2.length < 64000 := by
        have := grp_le (n := y.hi.toNat) (by omega)
        rw [← hu2, List.length_append]
        omega
      repeat refine qG ?_
      refine ⟨?_, ?_⟩
      · repeat (first | exact trivial | refine ⟨.inl (by dsimp only; rfl), ?_⟩ | refine ⟨.inr (stillG rfl rfl rfl (by assumption) (by first | rfl | assumption) (by first | exact stillInt | exact stillStr | exact Full.still (by assumption))), ?_⟩)
      refine wd_act rfl rfl rfl ?_
      refine qU rfl rfl orc_cons rfl (rnumZ_spec (z := y.tg) E26.only.wf E26.buf (by omega) (by omega) (by omega)) ?_
      intro v27 A27 k27
      have E27 := E26.step wB k27
      have h5 := hold_es k27 E26.buf h5 (by decide)
      have h15 := hold_es k27 E26.buf h15 (by decide)
      generalize hu3 : u2 ++ grp y.tg.toNat = u3 at E27
      have hul3 : u3.length < 64100 := by
        have := grp_le (n := y.tg.toNat) (by omega)
        rw [← hu3, List.length_append]
        omega
      repeat refine qG ?_
      refine ⟨?_, ?_⟩
      · repeat (first | exact trivial | refine ⟨.inl (by dsimp only; rfl), ?_⟩ | refine ⟨.inr (stillG rfl rfl rfl (by assumption) (by first | rfl | assumption) (by first | exact stillInt | exact stillStr | exact Full.still (by assumption))), ?_⟩)
      refine wd_act rfl rfl rfl ?_
      refine qU rfl rfl orc_cons rfl (rnumZ_spec (z := y.cl + 1) E27.only.wf E27.buf (by omega) (by omega) (by omega)) ?_
      intro v28 A28 k28
      have E28 := E27.step wB k28
      have h5 := hold_es k28 E27.buf h5 (by decide)
      have h15 := hold_es k28 E27.buf h15 (by decide)
      generalize hu4 : u3 ++ grp (y.cl + 1).toNat = u4 at E28
      have hul4 : u4.length < 64200 := by
        have := grp_le (n := (y.cl + 1).toNat) (by omega)
        rw [← hu4, List.length_append]
        omega
      repeat refine qG ?_
      refine ⟨?_, ?_⟩
      · repeat (first | exact trivial | refine ⟨.inl (by dsimp only; rfl), ?_⟩ | refine ⟨.inr (stillG rfl rfl rfl (by assumption) (by first | rfl | assumption) (by first | exact stillInt | exact stillStr | exact Full.still (by assumption))), ?_⟩)
      refine wd_act rfl rfl rfl ?_
      refine qU rfl rfl orc_cons rfl (rnumZ_spec (z := y.de) E28.only.wf E28.buf (by omega) (by omega) (by omega)) ?_
      intro v29 A29 k29
      have E29 := E28.step wB k29
      have h5 := hold_es k29 E28.buf h5 (by decide)
      have h15 := hold_es k29 E28.buf h15 (by decide)
      generalize hu5 : u4 ++ grp y.de.toNat = u5 at E29
      have hul5 : u5.length < 64300 := by
        have := grp_le (n := y.de.toNat) (by omega)
        rw [← hu5, List.length_append]
        omega
      repeat refine qG ?_
      refine ⟨?_, ?_⟩
      · repeat (first | exact trivial | refine ⟨.inl (by dsimp only; rfl), ?_⟩)
      refine wd_act rfl rfl rfl ?_
      repeat (first | refine qG ?_ | refine qE rfl rfl ?_)
      refine ⟨?_, ?_⟩
      · repeat (first | exact trivial | refine ⟨.inl (by dsimp only; rfl), ?_⟩)
      refine wd_nil ?_
      have E30 : EB B A29 v29 (s6 ++ (x.hands.take (j + 1)).flatMap encH) := by
        have := E29
        rw [flat_snoc hy]
        show EB B A29 v29 (s6 ++ ((x.hands.take j).flatMap encH ++ (grp y.lo.toNat ++ (grp y.hi.toNat ++ (grp y.tg.toNat ++ (grp (y.cl + 1).toNat ++ grp y.de.toNat))))))
        rw [← hu5, ← hu4, ← hu3, ← hu2, ← hu1, ← hu0] at this
        simpa only [List.append_assoc] using this
      repeat (first | refine xB ?_ | refine qA ?_ | refine qJ rfl rfl ?_)
      refine wo_add rfl rfl rfl (by omega) (by omega) ?_
      repeat (first | refine qG ?_ | refine qE rfl rfl ?_)
      refine xN ?_
      refine wg_le (.put 1 (.ptr f1 0 0) (.put 5 v29 (.put 9 (.int .i64 (i : Int)) (.put 10 (.ptr f5 0 0) (.put 14 (.int .i64 ((j + 1 : Nat) : Int)) .nil))))) ?_ ⟨rfl, rfl, rfl, rfl, rfl, trivial⟩
      exact ih2 (j + 1, v29) A29 (by simp only; omega) ⟨E30, h5, hltj⟩
    have hgej : j = x.hands.length := by
      have : ¬ (j : Int) < (x.hands.length : Int) := hgej
      omega
    subst hgej
    rw [List.take_length] at E23 hbl2
    have E24 : EB B A23 vj (p2 ++ (c.methods.take (i + 1)).flatMap encM) := by
      have := E23
      rw [flat_snoc hx]
      show EB B A23 vj (p2 ++ ((c.methods.take i).flatMap encM ++ (encS x.name ++ (grp x.params.length ++ (x.params.flatMap encK ++ (encK x.ret ++ (grp x.locals.toNat ++ (grp x.stack.toNat ++ (grp (putL x.code).1.length ++ ((putL x.code).1 ++ (grp x.hands.length ++ x.hands.flatMap encH)))))))))))
      rw [← hs6, ← hs5, ← hs4, ← hs3, ← hs2, ← hs1, ← hq1] at this
      simpa only [List.append_assoc] using this
    refine wg_exit rfl ?_
    repeat (first | refine xB ?_ | refine qA ?_ | refine qJ rfl rfl ?_)
    refine wo_add rfl rfl rfl (by omega) (by omega) ?_
    repeat (first | refine qG ?_ | refine qE rfl rfl ?_)
    refine xN ?_
    refine wg_le (.put 1 (.ptr f1 0 0) (.put 5 vj (.put 9 (.int .i64 ((i + 1 : Nat) : Int)) .nil))) ?_ ⟨rfl, rfl, rfl, trivial⟩
    exact ih (i + 1, vj) A23 (by simp only; omega) ⟨E24, hlt⟩
  have hge : i = c.methods.length := by
    have : ¬ (i : Int) < (c.methods.length : Int) := hge
    omega
  subst hge
  rw [List.take_length] at E11 hbl
  have E12 : EB B A11 vi (encC c) := by
    have := E11
    rw [← hp2, ← hp1] at this
    unfold encC
    simpa only [List.append_assoc] using this
  have o11 := oB.same E12.only
  refine wg_exit rfl ?_
  repeat (first | refine qO ?_ | refine qA ?_ | refine qJ rfl rfl ?_)
  refine xJ rfl rfl rfl E12.buf.row.lenV ?_
  repeat (first | refine qG ?_ | refine wo_gtr rfl rfl rfl ?_)
  refine qV rfl (fun hbig => ?_) fun hbig => ?_
  · have hbig : (20000 : Int) < ((encC c).length : Int) := hbig
    repeat (first | refine qO ?_ | refine qA ?_ | refine qG ?_ | refine qE rfl rfl ?_)
    exact qQ rfl ⟨.inl ⟨32, rfl, by decide, fun ok => by have := ok.2; omega⟩, o11⟩
  · have hbig : ¬ (20000 : Int) < ((encC c).length : Int) := hbig
    repeat (first | refine qO ?_ | refine qS ?_ | refine qA ?_ | refine qG ?_ | refine qJ rfl rfl ?_ | refine qE rfl rfl ?_)
    exact qQ rfl ⟨.inr ⟨vi, rfl, E12.buf, ok, by omega⟩, o11⟩
end Go.Proofs.YtiecclkgjcnaoaaGreat.Ae
