/-
  INSTRUCTIONS ARE READ, by the rules: Get.
  THE DOCUMENT'S GET, by the rules.
-/
import Derived.Test.YtiecclkgjcnaoaaGreatAiSyC4
import Derived.Test.YtiecclkgjcnaoaaGreatAiSyW14
namespace Go.Proofs.YtiecclkgjcnaoaaGreat.Ae
open Go.AE
set_option linter.unusedVariables false
set_option maxRecDepth 100000
def rdNs : Nat → List Nat → List In → List In × Int
  | 0, bs, acc => if 0 < bs.length then ([], 31) else (acc, 0)
  | n + 1, bs, acc => if (rdI bs).2.1 ≠ 0 then ([], (rdI bs).2.1) else rdNs n (bs.drop (rdI bs).2.2) (acc ++ [(rdI bs).1])
def getL (bs : List Nat) : List In × Int := if (rdC 200 bs).2.1 ≠ 0 then ([], ((rdC 200 bs).2.1 : Int)) else rdNs (rdC 200 bs).1 (bs.drop (rdC 200 bs).2.2) []
theorem rdC_most {most : Int} {bs : List Nat} (h : 0 ≤ most) : ((rdC most bs).1 : Int) ≤ most := by
  unfold rdC
  split
  · split
    · exact h
    · rename_i h2
      omega
  · exact h
structure GInv (A A1 : AW) (fr : Nat) (vr vl : AV) (bs : List Nat) (acc : List In) : Prop where
  rd : Rd A1 fr vr bs
  buf : Buf A1 2 vl acc.length (ics acc)
  only : Only A A1 none'
  own : ∀ g, both (one fr) vl.isFam g → A.nxt ≤ g
  dj : Disj (both (one fr) vr.isFam) vl.isFam
theorem GInv.next {A A1 A2 A3 : AW} {fr : Nat} {vr vl vr' vl' : AV} {bs cs : List Nat} {acc : List In} {x : In} (hw : Wf A) (inv : GInv A A1 fr vr vl bs acc) (st : RStep A1 A2 fr vr vr' cs)
    (g : Grew A2 A3 2 vl vl' (acc.length + 1) (ics acc ++ icl x)) : GInv A A3 fr vr' vl' cs (acc ++ [x]) := by
  have o2 : Only A A2 none' := Only.fresh hw inv.only st.only fun g hg => inv.own g (.inl hg)
  have hsub : ∀ g, both (one fr) vr'.isFam g → both (one fr) vr.isFam g := fun g hg => by
    rcases hg with hg | hg
    · exact .inl hg
    · exact .inr (st.sub g hg)
  have d2 : Disj (both (one fr) vr'.isFam) vl.isFam := fun g hg => inv.dj g (hsub g hg)
  have u2 : Under A2 (both (one fr) vr'.isFam) := fun g hg => by
    rcases hg with hg | hg
    · cases hg; exact st.only.wf _ _ st.rd.cell
    · exact st.rd.full.row.under st.only.wf g hg
  refine ⟨st.rd.keep g.only d2, ?_, Only.fresh hw o2 g.only fun g hg => inv.own g (.inr hg), fun k hk => ?_, g.grow.disj d2 u2⟩
  · have := g.buf
    unfold ics at this ⊢
    rw [List.length_append, List.flatMap_append]
    simpa using this
  · rcases hk with hk | hk
    · exact inv.own k (.inl hk)
    · rcases g.grow k hk with h | h
      · exact inv.own k (.inr h)
      · exact Nat.le_trans o2.nxt h
theorem get_spec {K : FuncId} {A : AW} {v : AV} {bs : List Nat} (hw : Wf A) (h : Row A 1 v bs.length (bys bs)) (hl : bs.length < 1000000000) (hlt : ∀ b ∈ bs, b < 256) :
    CallP (ES K) 107 [v] A fun r A1 => ∃ vl, r = .tuple [vl, .int .i64 (getL bs).2] ∧ Buf A1 2 vl (getL bs).1.length (ics (getL bs).1) ∧ Only A A1 none' ∧ Grow A none' vl.isFam := by
  refine call_of rfl rfl rfl ?_
  repeat (first | refine qO ?_ | refine wg_scope ?_ | refine qA ?_ | refine qG ?_ | refine qJ rfl rfl ?_ | refine qE rfl rfl ?_)
  refine qU rfl rfl orc_cons rfl (open_spec hw h hl hlt) ?_
  rintro r A1 ⟨fr, vr, rfl, rd, o1, g1⟩
  repeat (first | refine qO ?_ | refine qA ?_ | refine qG ?_ | refine qJ rfl rfl ?_ | refine qE rfl rfl ?_)
  refine qU rfl rfl orc_cons rfl (rCount_spec o1.wf rd (by decide) (by decide)) ?_
  rintro r A2 ⟨rfl, vr2, st⟩
  have hm := rdC_most (most := 200) (bs := bs) (by decide)
  have hgl : getL bs = if ((rdC 200 bs).2.1 : Int) ≠ 0 then ([], ((rdC 200 bs).2.1 : Int)) else rdNs ((rdC 200 bs).1 - ([] : List In).length) (bs.drop (rdC 200 bs).2.2) [] := by
    unfold getL
    by_cases he : (rdC 200 bs).2.1 = 0
    · rw [he]
      rfl
    · rw [if_pos he, if_pos (by omega)]
  rcases hC : rdC 200 bs with ⟨n, e, k⟩
  rw [hC] at hm hgl st
  simp only at hm hgl st ⊢
  have own1 : ∀ g, both (one fr) vr.isFam g → A.nxt ≤ g := fun g hg => (g1 g hg).elim (fun h => h.elim) id
  have i0 : GInv A A2 fr vr2 .nils (bs.drop k) [] := ⟨st.rd, .inl ⟨rfl, rfl, rfl⟩, Only.fresh hw o1 st.only fun g hg => own1 g (.inl hg), fun g hg => by
    rcases hg with hg | hg
    · exact own1 g (.inl hg)
    · exact hg.elim, fun g _ h => h⟩
  repeat (first | refine qO ?_ | refine qG ?_ | refine qJ rfl rfl ?_ | refine qE rfl rfl ?_ | refine xK rfl rfl rfl ?_)
  refine wg_label ?_
  refine wg_le (.put 4 (.ptr fr 0 0) (.put 5 .nils (.put 6 (.int .i64 (n : Int)) (.put 7 (.int .i64 (e : Int)) .nil)))) ?_ ⟨rfl, rfl, rfl, rfl, trivial⟩
  refine wg_ind (ι := Int × AV × AV × List Nat × List In) (fun i => n + 1 - i.2.2.2.2.length) (fun i => .put 4 (.ptr fr 0 0) (.put 5 i.2.1 (.put 6 (.int .i64 (n : Int)) (.put 7 (.int .i64 i.1) .nil))))
    (fun i A1 => GInv A A1 fr i.2.2.1 i.2.1 i.2.2.2.1 i.2.2.2.2 ∧ i.2.2.2.2.length ≤ n ∧ getL bs = if i.1 ≠ 0 then ([], i.1) else rdNs (n - i.2.2.2.2.length) i.2.2.2.1 i.2.2.2.2) ?_ ((e : Int), .nils, vr2, bs.drop k, []) A2 ⟨i0, Nat.zero_le _, hgl⟩
  clear hgl i0 st own1
  rintro ⟨e, vl, vr, cs, acc⟩ A1 ⟨inv, hle, hgl⟩ ih
  have inv : GInv A A1 fr vr vl cs acc := inv
  have hle : acc.length ≤ n := hle
  have hgl : getL bs = if e ≠ 0 then ([], e) else rdNs (n - acc.length) cs acc := hgl
  repeat (first | refine qO ?_ | refine qY ?_ | refine qA ?_ | refine qG ?_ | refine qJ rfl rfl ?_ | refine qE rfl rfl ?_ | refine xL rfl rfl rfl ?_)
  refine qV rfl (fun he => ?_) fun he => ?_
  · have he : e ≠ 0 := he
    rw [if_pos he] at hgl
    rw [hgl]
    repeat (first | refine qO ?_ | refine qA ?_ | refine qG ?_ | refine qJ rfl rfl ?_ | refine qE rfl rfl ?_)
    exact qQ rfl ⟨.nils, rfl, .inl ⟨rfl, rfl, rfl⟩, inv.only, fun g hg => .inl hg⟩
  have he : ¬ e ≠ 0 := he
  rw [if_neg he] at hgl
  repeat (first | refine qO ?_ | refine qA ?_ | refine qJ rfl rfl ?_)
  refine xJ rfl rfl rfl inv.buf.lenV ?_
  repeat (first | refine qG ?_ | refine qJ rfl rfl ?_ | refine qE rfl rfl ?_ | refine xM rfl rfl rfl ?_)
  refine qV rfl (fun hl => ?_) fun hl => ?_
  · have hl : acc.length < n := Int.ofNat_lt.1 hl
    obtain ⟨m, hm1⟩ : ∃ m, n - acc.length = m + 1 := ⟨n - acc.length - 1, by omega⟩
    rw [hm1] at hgl
    repeat (first | refine qO ?_ | refine qA ?_)
    refine wo_alloc rfl rfl rfl ?_
    refine wo_A (fun A2 => Only A1 A2 none' ∧ A2.heap.get A1.nxt = some (.cells 0 false 2 [.int .i64 0, .int .i64 0])) ⟨Only.add inv.only.wf _, by rw [AW.add_get, if_pos rfl]; rfl⟩ ?_
    rintro A2 ⟨o2, hx⟩
    generalize hfx : A1.nxt = fx at hx
    have fxr : fx ≠ fr := fun e => by
      have := inv.only.wf _ _ inv.rd.cell
      omega
    repeat (first | refine qO ?_ | refine qA ?_ | refine qG ?_ | refine qJ rfl rfl ?_)
    refine qU rfl rfl orc_cons rfl (ins_spec o2.wf (inv.rd.keep o2 fun _ _ h => h)) ?_
    rintro r A3 ⟨rfl, vr', st⟩
    have hx3 := st.only.keep _ _ hx fxr
    have st3 : RStep A1 A3 fr vr vr' (cs.drop (rdI cs).2.2) := ⟨st.rd, (o2.mono fun _ h => h.elim).same st.only, st.sub⟩
    repeat (first | refine qJ rfl rfl ?_ | refine xK rfl rfl rfl ?_)
    refine qZ (cs' := icl (rdI cs).1) rfl rfl rfl rfl rfl rfl hx3 rfl ?_
    refine wo_A (fun A4 => RStep A1 A4 fr vr vr' (cs.drop (rdI cs).2.2) ∧ A4.heap.get fx = some (.cells 0 false 2 (icl (rdI cs).1))) ⟨st3.quiet inv.only.wf inv.rd (Only.put st3.only.wf (st3.only.wf _ _ hx3)) (fun g hg => by cases hg; omega), by rw [AW.put_get, if_pos rfl]⟩ ?_
    rintro A4 ⟨st4, hx4⟩
    have hgl2 : getL bs = if (rdI cs).2.1 ≠ 0 then ([], (rdI cs).2.1) else rdNs (n - (acc ++ [(rdI cs).1]).length) (cs.drop (rdI cs).2.2) (acc ++ [(rdI cs).1]) := by
      rw [hgl, List.length_append, List.length_singleton, show n - (acc.length + 1) = m from by omega]
      rfl
    rcases hI : rdI cs with ⟨⟨op, a⟩, e2, k2⟩
    rw [hI] at hx4 st4 hgl2
    simp only at st4 hgl2 ⊢
    have hx4 : A4.heap.get fx = some (.cells 0 false 2 [.int .i64 op, .int .i64 a]) := hx4
    repeat (first | refine qO ?_ | refine qA ?_ | refine qG ?_ | refine qJ rfl rfl ?_ | refine qE rfl rfl ?_)
    refine xG rfl rfl rfl rfl hx4 rfl ?_
    repeat refine wo_buildSlice rfl rfl rfl ?_
    refine wo_append rfl rfl rfl rfl rfl (append_one (de := d40) rfl rfl rfl rfl st4.only.wf (inv.buf.keep st4.only fun g hg e => inv.dj g (.inl e) hg) rfl (by decide) (room_of (by omega) (by decide))) ?_
    intro vl' A5 g
    have inv2 : GInv A A5 fr vr' vl' (cs.drop k2) (acc ++ [(op, a)]) := inv.next hw st4 g
    repeat (first | refine qG ?_ | refine qE rfl rfl ?_)
    refine wg_goto rfl (qO (qS ?_))
    refine wg_le (.put 4 (.ptr fr 0 0) (.put 5 vl' (.put 6 (.int .i64 (n : Int)) (.put 7 (.int .i64 e2) .nil)))) ?_ ⟨rfl, rfl, rfl, rfl, trivial⟩
    refine ih (e2, vl', vr', cs.drop k2, acc ++ [(op, a)]) A5 ?_ ⟨inv2, ?_, hgl2⟩
    · simp only [List.length_append, List.length_singleton]
      omega
    · simp only [List.length_append, List.length_singleton]
      omega
  · have hl : n - acc.length = 0 := by
      have : ¬ (acc.length : Int) < (n : Int) := hl
      omega
    rw [hl] at hgl
    have hgl : getL bs = if 0 < cs.length then ([], 31) else (acc, 0) := hgl
    repeat (first | refine qO ?_ | refine qA ?_ | refine qJ rfl rfl ?_)
    refine qU rfl rfl orc_cons rfl (left_spec inv.rd) ?_
    rintro r A2 ⟨rfl, e2⟩
    obtain rfl : A1 = A2 := e2.symm
    repeat (first | refine qG ?_ | refine qE rfl rfl ?_ | refine wo_gtr rfl rfl rfl ?_)
    refine qV rfl (fun h0 => ?_) fun h0 => ?_
    · have h0 : 0 < cs.length := Int.ofNat_lt.1 h0
      rw [if_pos h0] at hgl
      rw [hgl]
      repeat (first | refine qO ?_ | refine qA ?_ | refine qG ?_ | refine qE rfl rfl ?_)
      exact qQ rfl ⟨.nils, rfl, .inl ⟨rfl, rfl, rfl⟩, inv.only, fun g hg => .inl hg⟩
    · have h0 : ¬ 0 < cs.length := fun h => h0 (Int.ofNat_lt.2 h)
      rw [if_neg h0] at hgl
      rw [hgl]
      repeat (first | refine qO ?_ | refine qS ?_ | refine xB ?_ | refine qA ?_ | refine qG ?_ | refine qJ rfl rfl ?_ | refine qE rfl rfl ?_)
      exact qQ rfl ⟨vl, rfl, inv.buf, inv.only, fun g hg => .inr (inv.own g (.inr hg))⟩
end Go.Proofs.YtiecclkgjcnaoaaGreat.Ae
namespace Go.Proofs.YtiecclkgjcnaoaaGreat.Ae
open Go.AE
set_option linter.unusedVariables false
set_option maxRecDepth 100000
theorem rget_spec {K : FuncId} {A : AW} {v : AV} {bs : List Nat} (hw : Wf A) (h : Full A 1 v bs.length (bys bs)) (hl : bs.length < 1000000000) (hlt : ∀ b ∈ bs, b < 256) :
    CallP (ES K) 76 [v] A fun r A1 => ∃ vl, r = .tuple [vl, .int .i64 (getL bs).2] ∧ Buf A1 2 vl (getL bs).1.length (ics (getL bs).1) ∧ Only A A1 none' ∧ Grow A none' vl.isFam := by
  refine call_of rfl rfl rfl ?_
  repeat (first | refine qO ?_ | refine qA ?_ | refine qG ?_ | refine qJ rfl rfl ?_ | refine qE rfl rfl ?_)
  refine wo_build (v := .agg [v]) rfl rfl ?_ ?_
  · rcases h with ⟨rfl | ⟨z, rfl⟩, _, _⟩ | ⟨f, t, o, c, ex, ro, all, rfl, _⟩ <;> rfl
  refine wo_box rfl rfl rfl rfl ?_
  refine wo_A (fun A1 => Only A A1 none' ∧ Rd A1 A.nxt v bs) ⟨Only.add hw _, by rw [AW.add_get, if_pos rfl]; rfl, h.keep (Only.add hw _) fun _ _ h => h, fun e => Nat.lt_irrefl _ (h.row.under hw _ e), hlt⟩ ?_
  rintro A1 ⟨o1, rd⟩
  generalize hfr : A.nxt = fr at rd
  repeat (first | refine qO ?_ | refine qA ?_ | refine qG ?_ | refine qJ rfl rfl ?_ | refine qE rfl rfl ?_)
  refine qU rfl rfl orc_cons rfl (ref_count o1.wf rd hl (by decide) (by decide)) ?_
  rintro r A2 ⟨rfl, vr2, st⟩
  have hm := rdC_most (most := 200) (bs := bs) (by decide)
  have hgl : getL bs = if (rdC 200 bs).2.1 ≠ 0 then ([], ((rdC 200 bs).2.1 : Int)) else rdNs ((rdC 200 bs).1 - ([] : List In).length) (bs.drop (rdC 200 bs).2.2) [] := rfl
  have i0 : GInv A A2 fr vr2 .nils (bs.drop (rdC 200 bs).2.2) [] := ⟨st.rd, .inl ⟨rfl, rfl, rfl⟩, Only.fresh hw o1 st.only fun g hg => by cases hg; omega, fun g hg => by
    rcases hg with hg | hg
    · cases hg; omega
    · exact hg.elim, fun g _ h => h⟩
  rcases hC : rdC 200 bs with ⟨n, e, k⟩
  rw [hC] at hm hgl i0
  simp only at hm hgl i0 ⊢
  repeat (first | refine qO ?_ | refine qA ?_ | refine qG ?_ | refine qJ rfl rfl ?_ | refine qE rfl rfl ?_ | refine xK rfl rfl rfl ?_ | refine xL rfl rfl rfl ?_)
  refine qV rfl (fun he => ?_) fun he => ?_
  · have he : e ≠ 0 := fun h => he (by rw [h]; rfl)
    rw [if_pos he] at hgl
    rw [hgl]
    repeat (first | refine qO ?_ | refine qA ?_ | refine qG ?_ | refine qJ rfl rfl ?_ | refine qE rfl rfl ?_)
    exact qQ rfl ⟨.nils, rfl, .inl ⟨rfl, rfl, rfl⟩, i0.only, fun g hg => .inl hg⟩
  have he : ¬ e ≠ 0 := fun h => he (fun h' => h (Int.ofNat_inj.1 h'))
  rw [if_neg he] at hgl
  repeat (first | refine qO ?_ | refine qS ?_ | refine qY ?_ | refine qA ?_ | refine qG ?_ | refine qE rfl rfl ?_)
  refine wg_loop ?_
  refine wg_le (.put 4 (.ptr fr 0 0) (.put 5 (.int .i64 (n : Int)) (.put 7 .nils (.put 8 (.int .i64 ((0 : Nat) : Int)) .nil)))) ?_ ⟨rfl, rfl, rfl, rfl, trivial⟩
  refine wg_ind (ι := Nat × AV × AV × List Nat × List In) (fun i => n - i.1) (fun i => .put 4 (.ptr fr 0 0) (.put 5 (.int .i64 (n : Int)) (.put 7 i.2.1 (.put 8 (.int .i64 (i.1 : Int)) .nil))))
    (fun i A1 => GInv A A1 fr i.2.2.1 i.2.1 i.2.2.2.1 i.2.2.2.2 ∧ i.1 ≤ n ∧ i.1 = i.2.2.2.2.length ∧ getL bs = rdNs (n - i.2.2.2.2.length) i.2.2.2.1 i.2.2.2.2 ∧ i.2.2.2.1.length < 1000000000) ?_ (0, .nils, vr2, bs.drop k, []) A2 ⟨i0, Nat.zero_le _, rfl, hgl, by simp only [List.length_drop]; omega⟩
  clear hgl i0 st rd o1
  rintro ⟨i, vl, vr, cs, acc⟩ A1 ⟨inv, hle, hi, hgl, hlen⟩ ih
  have inv : GInv A A1 fr vr vl cs acc := inv
  obtain rfl : i = acc.length := hi
  have hle : acc.length ≤ n := hle
  have hlen : cs.length < 1000000000 := hlen
  have hgl : getL bs = rdNs (n - acc.length) cs acc := hgl
  repeat (first | refine qO ?_ | refine qA ?_ | refine qG ?_ | refine qJ rfl rfl ?_ | refine xM rfl rfl rfl ?_)
  refine qV rfl (fun hl => ?_) fun hl => ?_
  · have hl : acc.length < n := Int.ofNat_lt.1 hl
    obtain ⟨m, hm1⟩ : ∃ m, n - acc.length = m + 1 := ⟨n - acc.length - 1, by omega⟩
    rw [hm1] at hgl
    have hgl : getL bs = if (rdI cs).2.1 ≠ 0 then ([], (rdI cs).2.1) else rdNs m (cs.drop (rdI cs).2.2) (acc ++ [(rdI cs).1]) := hgl
    have hm2 : ∀ x : In, m = n - (acc ++ [x]).length := fun x => by
      rw [List.length_append, List.length_singleton]
      omega
    repeat (first | refine qO ?_ | refine qS ?_ | refine qY ?_ | refine qA ?_ | refine qJ rfl rfl ?_)
    refine qU rfl rfl orc_cons rfl (ref_byte inv.only.wf inv.rd) ?_
    rintro r A2 ⟨rfl, vr1, st⟩
    have hb256 := rdB_lt inv.rd.lt
    have hI : rdI cs = rdI cs := rfl
    conv at hI => rhs; unfold rdI
    rcases hB : rdB cs with ⟨b, e, k⟩
    rw [hB] at st hb256 hI
    simp only at st hb256 hI ⊢
    repeat (first | refine qO ?_ | refine qA ?_ | refine qG ?_ | refine qJ rfl rfl ?_ | refine qE rfl rfl ?_ | refine xK rfl rfl rfl ?_ | refine xL rfl rfl rfl ?_)
    refine qV rfl (fun he => ?_) fun he => ?_
    · have he : e ≠ 0 := fun h => he (by rw [h]; rfl)
      rw [if_pos he] at hI
      rw [hI, if_pos (by simp only; omega)] at hgl
      rw [hgl]
      repeat (first | refine qO ?_ | refine qA ?_ | refine qG ?_ | refine qJ rfl rfl ?_ | refine qE rfl rfl ?_)
      exact qQ rfl ⟨.nils, rfl, .inl ⟨rfl, rfl, rfl⟩, Only.fresh hw inv.only st.only fun g hg => inv.own g (.inl hg), fun g hg => .inl hg⟩
    have he : ¬ e ≠ 0 := fun h => he (fun h' => h (Int.ofNat_inj.1 h'))
    rw [if_neg he] at hI
    repeat (first | refine qO ?_ | refine qS ?_ | refine qA ?_ | refine qJ rfl rfl ?_)
    refine wo_conv rfl rfl rfl rfl (b : Int) (wrap_i64 (by omega) (by omega)) ?_
    repeat refine wo_build rfl rfl rfl ?_
    refine wo_alloc rfl rfl rfl ?_
    refine qZ rfl rfl rfl rfl rfl rfl (by rw [AW.add_get, if_pos rfl]) rfl ?_
    refine wo_A (fun A3 => RStep A1 A3 fr vr vr1 (cs.drop k) ∧ A3.heap.get A2.nxt = some (.cells 0 false 2 [.int .i64 (b : Int), .int .i64 0])) ⟨st.quiet inv.only.wf inv.rd (made st.only.wf) fun g h => h.elim, by rw [AW.put_get, if_pos rfl]; rfl⟩ ?_
    have fxn : A1.nxt ≤ A2.nxt := st.only.nxt
    have fxr : A2.nxt ≠ fr := fun e => by
      have := st.only.wf _ _ st.rd.cell
      omega
    clear st
    rintro A3 ⟨st, hx⟩
    generalize A2.nxt = fx at hx fxn fxr
    have ho3 : Only A A3 none' := Only.fresh hw inv.only st.only fun g hg => inv.own g (.inl hg)
    repeat (first | refine qO ?_ | refine qA ?_ | refine qG ?_ | refine qI rfl rfl rfl ?_ | refine qP rfl rfl rfl rfl (by assumption) rfl ?_)
    refine qU rfl rfl orc_cons rfl roperand_spec ?_
    rintro r A4 ⟨rfl, e4⟩
    obtain rfl : A3 = A4 := e4.symm
    repeat (first | refine qG ?_ | refine xM rfl rfl rfl ?_)
    refine qV rfl (fun h0 => ?_) fun h0 => ?_
    · have h0 : opd (b : Int) < 0 := h0
      rw [if_pos h0] at hI
      rw [hI, if_pos (by simp only; decide)] at hgl
      rw [hgl]
      repeat (first | refine qO ?_ | refine qA ?_ | refine qG ?_ | refine qE rfl rfl ?_)
      exact qQ rfl ⟨.nils, rfl, .inl ⟨rfl, rfl, rfl⟩, ho3, fun g hg => .inl hg⟩
    have h0 : ¬ opd (b : Int) < 0 := h0
    rw [if_neg h0] at hI
    repeat (first | refine qO ?_ | refine qS ?_ | refine qA ?_ | refine qI rfl rfl rfl ?_ | refine qP rfl rfl rfl rfl (by assumption) rfl ?_)
    refine qU rfl rfl orc_cons rfl roperand_spec ?_
    rintro r A4 ⟨rfl, e4⟩
    obtain rfl : A3 = A4 := e4.symm
    repeat (first | refine qG ?_ | refine wo_gtr rfl rfl rfl ?_)
    refine qV rfl (fun h1 => ?_) fun h1 => ?_
    · have h1 : 0 < opd (b : Int) := h1
      rw [if_neg (by omega)] at hI
      repeat (first | refine qO ?_ | refine qA ?_ | refine qJ rfl rfl ?_)
      refine qU rfl rfl orc_cons rfl (ref_uint st.only.wf st.rd (by rw [List.length_drop]; omega)) ?_
      rintro r A4 ⟨rfl, vr2, st2⟩
      have hx := st2.only.keep _ _ hx fxr
      rcases hG : rdG (cs.drop k) 0 0 with ⟨q, e2, k2⟩
      rw [hG] at st2 hI
      simp only at st2 hI ⊢
      rw [List.drop_drop] at st2
      have st : RStep A1 A4 fr vr vr2 (cs.drop (k + k2)) := ⟨st2.rd, st.only.same st2.only, fun g hg => st.sub g (st2.sub g hg)⟩
      have ho4 : Only A A4 none' := Only.fresh hw inv.only st.only fun g hg => inv.own g (.inl hg)
      have hfx : fx < A4.nxt := st.only.wf _ _ hx
      repeat (first | refine qO ?_ | refine qA ?_ | refine qG ?_ | refine qJ rfl rfl ?_ | refine qE rfl rfl ?_ | refine xK rfl rfl rfl ?_ | refine xL rfl rfl rfl ?_)
      refine qV rfl (fun he => ?_) fun he => ?_
      · have he : e2 ≠ 0 := fun h => he (by rw [h]; rfl)
        rw [if_pos he] at hI
        rw [hI, if_pos (by simp only; omega)] at hgl
        rw [hgl]
        repeat (first | refine qO ?_ | refine qA ?_ | refine qG ?_ | refine qJ rfl rfl ?_ | refine qE rfl rfl ?_)
        exact qQ rfl ⟨.nils, rfl, .inl ⟨rfl, rfl, rfl⟩, ho4, fun g hg => .inl hg⟩
      have he : ¬ e2 ≠ 0 := fun h => he (fun h' => h (Int.ofNat_inj.1 h'))
      rw [if_neg he] at hI
      repeat (first | refine qO ?_ | refine qS ?_ | refine qA ?_ | refine qG ?_ | refine qJ rfl rfl ?_ | refine wo_gtr rfl rfl rfl ?_)
      refine qV rfl (fun hn => ?_) fun hn => ?_
      · have hn : 999 < q := by
          have : (999 : Int) < (q : Int) := hn
          omega
        rw [if_pos hn] at hI
        rw [hI, if_pos (by simp only; decide)] at hgl
        rw [hgl]
        repeat (first | refine qO ?_ | refine qA ?_ | refine qG ?_ | refine qE rfl rfl ?_)
        exact qQ rfl ⟨.nils, rfl, .inl ⟨rfl, rfl, rfl⟩, ho4, fun g hg => .inl hg⟩
      have hn : ¬ 999 < q := by
        have : ¬ (999 : Int) < (q : Int) := hn
        omega
      rw [if_neg hn] at hI
      rw [hI, if_neg (by simp only; decide)] at hgl
      repeat (first | refine qS ?_ | refine qA ?_ | refine qJ rfl rfl ?_)
      refine wo_conv rfl rfl rfl rfl (q : Int) (wrap_i64 (by omega) (by omega)) ?_
      repeat refine qI rfl rfl rfl ?_
      refine qZ (cs' := [.int .i64 (b : Int), .int .i64 (q : Int)]) rfl rfl rfl rfl rfl rfl hx rfl ?_
      refine wo_A (fun A5 => RStep A1 A5 fr vr vr2 (cs.drop (k + k2)) ∧ A5.heap.get fx = some (.cells 0 false 2 [.int .i64 (b : Int), .int .i64 (q : Int)])) ⟨st.quiet inv.only.wf inv.rd (Only.put st.only.wf hfx) (fun g hg => by cases hg; exact fxn), by rw [AW.put_get, if_pos rfl]⟩ ?_
      clear st hx ho4 hfx st2
      rintro A5 ⟨st, hx⟩
      have hgl2 : getL bs = rdNs (n - (acc ++ [((b : Int), (q : Int))]).length) (cs.drop (k + k2)) (acc ++ [((b : Int), (q : Int))]) := by
        rw [hgl, ← hm2]
      have hcl : (cs.drop (k + k2)).length < 1000000000 := by rw [List.length_drop]; omega
      repeat (first | refine qA ?_ | refine qG ?_ | refine qJ rfl rfl ?_)
      refine xG rfl rfl rfl rfl hx rfl ?_
      repeat refine wo_buildSlice rfl rfl rfl ?_
      refine wo_append rfl rfl rfl rfl rfl (append_one (n := acc.length) (de := d40) rfl rfl rfl rfl st.only.wf (inv.buf.keep st.only fun g hg e => inv.dj g (.inl e) hg) rfl (by decide) (room_of (by omega) (by decide))) ?_
      intro vl' A9 g
      have inv2 := GInv.next (x := (_, _)) hw inv st g
      repeat (first | refine xB ?_ | refine qA ?_ | refine qG ?_ | refine qJ rfl rfl ?_ | refine qE rfl rfl ?_)
      refine wo_add rfl rfl rfl (by omega) (by omega) ?_
      repeat (first | refine qG ?_ | refine qE rfl rfl ?_)
      refine xN ?_
      refine wg_le (.put 4 (.ptr fr 0 0) (.put 5 (.int .i64 (n : Int)) (.put 7 vl' (.put 8 (.int .i64 ((acc.length + 1 : Nat) : Int)) .nil)))) ?_ ⟨rfl, rfl, rfl, rfl, trivial⟩
      exact ih (acc.length + 1, vl', _, _, _) A9 (by simp only; omega) ⟨inv2, by simp only; omega, by simp only [List.length_append, List.length_singleton], hgl2, hcl⟩
    · have h1 : opd (b : Int) = 0 := by
        have : ¬ 0 < opd (b : Int) := h1
        omega
      rw [if_pos h1] at hI
      rw [hI, if_neg (by simp only; decide)] at hgl
      have hgl2 : getL bs = rdNs (n - (acc ++ [((b : Int), (0 : Int))]).length) (cs.drop k) (acc ++ [((b : Int), (0 : Int))]) := by
        rw [hgl, ← hm2]
      have hcl : (cs.drop k).length < 1000000000 := by rw [List.length_drop]; omega
      repeat (first | refine qS ?_ | refine qA ?_ | refine qJ rfl rfl ?_)
      refine xG rfl rfl rfl rfl hx rfl ?_
      repeat refine wo_buildSlice rfl rfl rfl ?_
      refine wo_append rfl rfl rfl rfl rfl (append_one (n := acc.length) (de := d40) rfl rfl rfl rfl st.only.wf (inv.buf.keep st.only fun g hg e => inv.dj g (.inl e) hg) rfl (by decide) (room_of (by omega) (by decide))) ?_
      intro vl' A9 g
      have inv2 := GInv.next (x := (_, _)) hw inv st g
      repeat (first | refine xB ?_ | refine qA ?_ | refine qG ?_ | refine qJ rfl rfl ?_ | refine qE rfl rfl ?_)
      refine wo_add rfl rfl rfl (by omega) (by omega) ?_
      repeat (first | refine qG ?_ | refine qE rfl rfl ?_)
      refine xN ?_
      refine wg_le (.put 4 (.ptr fr 0 0) (.put 5 (.int .i64 (n : Int)) (.put 7 vl' (.put 8 (.int .i64 ((acc.length + 1 : Nat) : Int)) .nil)))) ?_ ⟨rfl, rfl, rfl, rfl, trivial⟩
      exact ih (acc.length + 1, vl', _, _, _) A9 (by simp only; omega) ⟨inv2, by simp only; omega, by simp only [List.length_append, List.length_singleton], hgl2, hcl⟩
  · have hl : n - acc.length = 0 := by
      have : ¬ (acc.length : Int) < (n : Int) := hl
      omega
    rw [hl] at hgl
    have hgl : getL bs = if 0 < cs.length then ([], 31) else (acc, 0) := hgl
    refine wg_exit rfl ?_
    have hc := inv.rd.cell
    repeat (first | refine qO ?_ | refine qA ?_ | refine qJ rfl rfl ?_ | refine qI rfl rfl rfl ?_ | refine qW rfl rfl ?_ | refine qP rfl rfl rfl rfl (by assumption) rfl ?_)
    refine xJ rfl rfl rfl inv.rd.full.row.lenV ?_
    repeat (first | refine qG ?_ | refine wo_gtr rfl rfl rfl ?_)
    refine qV rfl (fun h0 => ?_) fun h0 => ?_
    · have h0 : 0 < cs.length := Int.ofNat_lt.1 h0
      rw [if_pos h0] at hgl
      rw [hgl]
      repeat (first | refine qO ?_ | refine qA ?_ | refine qG ?_ | refine qE rfl rfl ?_)
      exact qQ rfl ⟨.nils, rfl, .inl ⟨rfl, rfl, rfl⟩, inv.only, fun g hg => .inl hg⟩
    · have h0 : ¬ 0 < cs.length := fun h => h0 (Int.ofNat_lt.2 h)
      rw [if_neg h0] at hgl
      rw [hgl]
      repeat (first | refine qO ?_ | refine qS ?_ | refine qA ?_ | refine qG ?_ | refine qJ rfl rfl ?_ | refine qE rfl rfl ?_)
      exact qQ rfl ⟨vl, rfl, inv.buf, inv.only, fun g hg => .inr (inv.own g (.inr hg))⟩
end Go.Proofs.YtiecclkgjcnaoaaGreat.Ae
