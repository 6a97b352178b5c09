/-
  INSTRUCTIONS ARE WRITTEN, by the rules: Put and the document's Put.
  AN INSTRUCTION IS READ, by the rules.
-/
import Derived.Test.YtiecclkgjcnaoaaGreatAiSyC1
import Derived.Test.YtiecclkgjcnaoaaGreatAiSyW4
import Derived.Test.YtiecclkgjcnaoaaGreatAiSy5
import Derived.Test.YtiecclkgjcnaoaaGreatAiSyW9
namespace Go.Proofs.YtiecclkgjcnaoaaGreat.Ae
open Go.AE
set_option linter.unusedVariables false
set_option maxRecDepth 100000
theorem Only.fresh {A A1 A2 : AW} {T : Nat → Prop} (hw : Wf A) (h : Only A A1 none') (k : Only A1 A2 T) (ht : ∀ g, T g → A.nxt ≤ g) : Only A A2 none' :=
  h.trans hw (k.mono fun g hg => hg) fun g hg => .inr (ht g hg)
abbrev In := Int × Int
def icl (x : In) : List AV := [.int .i64 x.1, .int .i64 x.2]
theorem icl_len (x : In) : (icl x).length = 2 := rfl
def ics (l : List In) : List AV := l.flatMap icl
def encI (x : In) : List Nat := x.1.toNat :: (if 0 < opd x.1 then grp x.2.toNat else [])
def putB (l : List In) (i : Nat) : List Nat := grp l.length ++ (l.take i).flatMap encI
def putL (l : List In) : List Nat × Int := if 200 < l.length then ([], 32) else if ∃ x ∈ l, ¬ isP x.1 x.2 then ([], 40) else (grp l.length ++ l.flatMap encI, 0)
theorem encI_len {x : In} (h : isP x.1 x.2) : (encI x).length ≤ 11 := by
  unfold encI
  split
  · rename_i h0
    have := h.2.2 (by omega)
    have := grp_len10 (n := x.2.toNat) (by omega)
    simp only [List.length_cons]
    omega
  · simp
theorem flat_le : ∀ {l : List In}, (∀ x ∈ l, isP x.1 x.2) → (l.flatMap encI).length ≤ l.length * 11
  | [], _ => Nat.le_refl _
  | x :: l, h => by
    have h1 := encI_len (h x (List.mem_cons_self ..))
    have h2 := flat_le (l := l) fun y hy => h y (List.mem_cons_of_mem _ hy)
    simp only [List.flatMap_cons, List.length_append, List.length_cons]
    omega
theorem putB_len {l : List In} {i : Nat} (h : ∀ x ∈ l.take i, isP x.1 x.2) (hl : l.length ≤ 200) : (putB l i).length ≤ 3000 := by
  have h1 := flat_le h
  have h2 := grp_len10 (n := l.length) (by omega)
  unfold putB
  rw [List.length_append]
  rw [List.length_take] at h1
  omega
theorem take_next {l : List In} {i : Nat} {x : In} (hx : l[i]? = some x) : l.take (i + 1) = l.take i ++ [x] := by
  rw [List.take_add_one, hx]
  rfl
theorem putB_next {l : List In} {i : Nat} {x : In} (hx : l[i]? = some x) : putB l (i + 1) = putB l i ++ encI x := by
  unfold putB
  rw [take_next hx, List.flatMap_append, List.append_assoc]
  simp
theorem ok_next {l : List In} {i : Nat} {x : In} (h : ∀ x ∈ l.take i, isP x.1 x.2) (hx : l[i]? = some x) (hp : isP x.1 x.2) : ∀ x ∈ l.take (i + 1), isP x.1 x.2 := by
  rw [take_next hx]
  intro y hy
  rcases List.mem_append.1 hy with hy | hy
  · exact h y hy
  · rw [List.mem_singleton] at hy
    rw [hy]
    exact hp
theorem putL_bad {l : List In} {i : Nat} {x : In} (hl : l.length ≤ 200) (hx : l[i]? = some x) (hp : ¬ isP x.1 x.2) : putL l = ([], 40) := by
  unfold putL
  rw [if_neg (by omega), if_pos ⟨x, List.mem_of_getElem? hx, hp⟩]
theorem putL_ok {l : List In} (hl : l.length ≤ 200) (h : ∀ x ∈ l.take l.length, isP x.1 x.2) : putL l = (putB l l.length, 0) := by
  unfold putL putB
  rw [List.take_length] at h ⊢
  rw [if_neg (by omega), if_neg]
  rintro ⟨x, hx, hp⟩
  exact hp (h x hx)
structure PInv (A A1 : AW) (fw : Nat) (vw : AV) (l : List In) (i : Nat) : Prop where
  le : i ≤ l.length
  ok : ∀ x ∈ l.take i, isP x.1 x.2
  wr : Wr A1 fw vw (putB l i)
  only : Only A A1 none'
  own : ∀ g, both (one fw) vw.isFam g → A.nxt ≤ g
theorem PInv.next {A A1 A2 A3 : AW} {fw : Nat} {vw vw' : AV} {l : List In} {i : Nat} {x : In} (hw : Wf A) (inv : PInv A A1 fw vw l i) (hx : l[i]? = some x) (hp : isP x.1 x.2) (ho : Only A1 A2 none')
    (st : WStep A2 A3 fw vw vw' (putB l i) (encI x)) : PInv A A3 fw vw' l (i + 1) := by
  have hn := inv.only.nxt
  have hn2 := ho.nxt
  have h2 : Only A A2 none' := inv.only.same ho
  refine ⟨(List.getElem?_eq_some_iff.1 hx).1, ok_next inv.ok hx hp, by rw [putB_next hx]; exact st.wr, Only.fresh hw h2 st.only inv.own, fun g hg => ?_⟩
  rcases hg with hg | hg
  · exact inv.own g (.inl hg)
  · rcases st.grow g hg with h | h
    · exact inv.own g (.inr h)
    · omega
end Go.Proofs.YtiecclkgjcnaoaaGreat.Ae
namespace Go.Proofs.YtiecclkgjcnaoaaGreat.Ae
open Go.AE
set_option linter.unusedVariables false
set_option maxRecDepth 100000
section
variable {E : Env} {C : FnE} {l : Kn} {A : AW} {R : AV → AW → Prop} {k : List Item}
theorem loadN_eq {t : TypeId} {f s o : Nat} {dt : ATy} {ro : Bool} {es : Nat} {cs vs : List AV} (ht : E.tys.get t = some dt) (hg : dt.agg = true) (hf : A.heap.get f = some (.cells s ro es cs)) (hn : takeN dt.size (dropN o cs) = some vs) :
    loadA E t (.ptr f s o) A = .val (.agg vs) A := by
  simp only [loadA, ht, hg, cond_true, readCells, hf, Nat.beq_refl, cond_true, hn]
theorem wg_ret2 {c x : Nat} {t : TypeId} {p v w : AV} {A1 : AW} (hc : C.fn.results.toList = [.cell c t, .tmp x]) (h1 : l.find c = some p) (hx : l.find x = some w) (hl : loadA E t p A = .val v A1) (h : R (.tuple [v, w]) A) : WG E C (.code .ret :: k) l A R := ⟨fun F hF => by
  have hr : resultsOf E F A C.fn.results.toList = some [v, w] := by
    rw [hc]
    simp only [resultsOf, resultOne, hF.get c p h1, hF.get x w hx, hl]
  exact ⟨F, A, _, out_of hr, h, 1, fun n hn => by
    obtain ⟨m, rfl⟩ : ∃ m, n = m + 1 := ⟨n - 1, by omega⟩
    rfl⟩⟩
end
theorem RStep.quiet {A A1 A2 : AW} {fr : Nat} {v v' : AV} {bs cs : List Nat} {T : Nat → Prop} (st : RStep A A1 fr v v' cs) (hw : Wf A) (h : Rd A fr v bs) (ho : Only A1 A2 T) (hT : ∀ g, T g → A.nxt ≤ g) : RStep A A2 fr v v' cs := by
  refine ⟨st.rd.keep ho fun g hg e => ?_, st.only.trans hw ho fun g hg => .inr (hT g hg), st.sub⟩
  have h1 := hT g e
  rcases hg with hg | hg
  · have hg : g = fr := hg
    subst hg
    have := hw _ _ h.cell
    omega
  · have := h.full.row.under hw g (st.sub g hg)
    omega
theorem made {A : AW} {es : Nat} {cs cs' : List AV} (hw : Wf A) : Only A ((A.add (.cells 0 false es cs)).put A.nxt (.cells 0 false es cs')) none' := by
  have oa : Only A (A.add (.cells 0 false es cs)) none' := Only.add hw _
  have op := Only.put (x := .cells 0 false es cs') oa.wf (f := A.nxt) (Nat.lt_succ_self _)
  exact ⟨op.wf, Nat.le_trans oa.nxt op.nxt, fun g F hg hn => op.keep g F (oa.keep g F hg hn) fun e => by
    have := hw g F hg
    cases e
    omega⟩
def rdI (bs : List Nat) : In × Int × Nat :=
  if (rdB bs).2.1 ≠ 0 then ((((rdB bs).1 : Int), 0), ((rdB bs).2.1 : Int), (rdB bs).2.2)
  else if opd ((rdB bs).1 : Int) < 0 then ((((rdB bs).1 : Int), 0), 40, (rdB bs).2.2)
  else if opd ((rdB bs).1 : Int) = 0 then ((((rdB bs).1 : Int), 0), 0, (rdB bs).2.2)
  else if (rdG (bs.drop (rdB bs).2.2) 0 0).2.1 ≠ 0 then ((((rdB bs).1 : Int), 0), ((rdG (bs.drop (rdB bs).2.2) 0 0).2.1 : Int), (rdB bs).2.2 + (rdG (bs.drop (rdB bs).2.2) 0 0).2.2)
  else if 999 < (rdG (bs.drop (rdB bs).2.2) 0 0).1 then ((((rdB bs).1 : Int), 0), 40, (rdB bs).2.2 + (rdG (bs.drop (rdB bs).2.2) 0 0).2.2)
  else ((((rdB bs).1 : Int), ((rdG (bs.drop (rdB bs).2.2) 0 0).1 : Int)), 0, (rdB bs).2.2 + (rdG (bs.drop (rdB bs).2.2) 0 0).2.2)
theorem rdB_lt {bs : List Nat} (h : ∀ b ∈ bs, b < 256) : (rdB bs).1 < 256 := by
  cases bs with
  | nil => show 0 < _; decide
  | cons b l => exact h b (List.mem_cons_self ..)
theorem ins_spec {K : FuncId} {A : AW} {fr : Nat} {v : AV} {bs : List Nat} (hw : Wf A) (h : Rd A fr v bs) :
    CallP (ES K) 128 [.ptr fr 0 0] A fun r A1 => r = .tuple [.agg (icl (rdI bs).1), .int .i64 (rdI bs).2.1] ∧ ∃ v', RStep A A1 fr v v' (bs.drop (rdI bs).2.2) := by
  refine call_of rfl rfl rfl ?_
  repeat (first | refine qO ?_ | refine qA ?_)
  refine wo_alloc rfl rfl rfl ?_
  refine wo_A (fun A1 => Only A A1 none' ∧ A1.heap.get A.nxt = some (.cells 0 false 2 [.int .i64 0, .int .i64 0])) ⟨Only.add hw _, by rw [AW.add_get, if_pos rfl]; rfl⟩ ?_
  rintro A1 ⟨o1, hx2⟩
  generalize hf2 : A.nxt = f2 at hx2
  have f2n : A.nxt ≤ f2 := by omega
  have hT2 : ∀ g, one f2 g → A.nxt ≤ g := fun g hg => by cases hg; exact f2n
  have rd1 := h.keep o1 fun _ _ h => h
  have st0 : RStep A A1 fr v v bs := ⟨rd1, o1.mono fun _ h => h.elim, fun _ h => h⟩
  have f2r : f2 ≠ fr := fun e => by
    subst e
    have := hw _ _ h.cell
    omega
  repeat (first | refine qO ?_ | refine qA ?_ | refine qG ?_ | refine qJ rfl rfl ?_ | refine qE rfl rfl ?_)
  refine qU rfl rfl orc_cons rfl (rbyte_spec o1.wf rd1) ?_
  rintro r A2 ⟨rfl, v1, st1⟩
  have hx2 := st1.only.keep _ _ hx2 f2r
  have hb256 := rdB_lt h.lt
  unfold rdI
  rcases hB : rdB bs with ⟨b, e, k⟩
  rw [hB] at st1 hb256
  simp only at st1 hb256 ⊢
  have st01 : RStep A A2 fr v v1 (bs.drop k) := ⟨st1.rd, st0.only.same st1.only, st1.sub⟩
  repeat (first | refine qO ?_ | refine qA ?_ | refine qG ?_ | refine qJ rfl rfl ?_ | refine qE rfl rfl ?_ | refine xK rfl rfl rfl ?_)
  refine wo_conv rfl rfl rfl rfl (b : Int) (wrap_i64 (by omega) (by omega)) ?_
  repeat refine wo_build rfl rfl rfl ?_
  refine wo_alloc rfl rfl rfl ?_
  refine qZ rfl rfl rfl rfl rfl rfl (by rw [AW.add_get, if_pos rfl]) rfl ?_
  refine wo_A (fun A3 => Only A2 A3 none' ∧ A3.heap.get A2.nxt = some (.cells 0 false 2 [.int .i64 (b : Int), .int .i64 0])) ⟨made st1.only.wf, by rw [AW.put_get, if_pos rfl]; rfl⟩ ?_
  rintro A3 ⟨o3, hx6⟩
  have f26 : f2 ≠ A2.nxt := fun e => by
    have := st1.only.wf _ _ hx2
    omega
  have f6n : A.nxt ≤ A2.nxt := st01.only.nxt
  generalize A2.nxt = f6 at hx6 f26 f6n
  have hx2 := o3.keep _ _ hx2 fun h => h
  have st3 := st01.quiet hw h o3 fun g h => h.elim
  have hn2 : f2 < A3.nxt := st3.only.wf _ _ hx2
  have hn6 : f6 < A3.nxt := st3.only.wf _ _ hx6
  repeat (first | refine qO ?_ | refine qY ?_ | refine qA ?_ | refine qG ?_ | refine qJ rfl rfl ?_ | refine qE rfl rfl ?_ | refine xL rfl rfl rfl ?_)
  refine qV rfl (fun he => ?_) fun he => ?_
  · have he : e ≠ 0 := fun h => he (by rw [h]; rfl)
    rw [if_pos he]
    repeat (first | refine qO ?_ | refine qA ?_)
    refine xG rfl rfl rfl rfl hx6 rfl ?_
    repeat refine qJ rfl rfl ?_
    refine qZ rfl rfl rfl rfl rfl rfl hx2 rfl ?_
    repeat (first | refine qG ?_ | refine qE rfl rfl ?_)
    refine wg_ret2 rfl rfl rfl (loadN_eq rfl rfl (by rw [AW.put_get, if_pos rfl]) rfl) ?_
    exact ⟨rfl, v1, st3.quiet hw h (Only.put st3.only.wf hn2) hT2⟩
  have he : e = 0 := by
    have : ¬ (e : Int) ≠ 0 := he
    omega
  rw [if_neg (fun h => h he)]
  subst he
  repeat (first | refine qO ?_ | refine qA ?_ | refine qI rfl rfl rfl ?_ | refine qP rfl rfl rfl rfl (by assumption) rfl ?_)
  refine qU rfl rfl orc_cons rfl operand_spec ?_
  rintro r A4 ⟨rfl, e4⟩
  obtain rfl : A3 = A4 := e4.symm
  repeat (first | refine qG ?_ | refine qE rfl rfl ?_ | refine xM rfl rfl rfl ?_)
  refine qV rfl (fun h0 => ?_) fun h0 => ?_
  · have h0 : opd (b : Int) < 0 := h0
    rw [if_pos h0]
    repeat (first | refine qO ?_ | refine qA ?_)
    refine xG rfl rfl rfl rfl hx6 rfl ?_
    refine qZ rfl rfl rfl rfl rfl rfl hx2 rfl ?_
    repeat (first | refine qG ?_ | refine qE rfl rfl ?_)
    refine wg_ret2 rfl rfl rfl (loadN_eq rfl rfl (by rw [AW.put_get, if_pos rfl]) rfl) ?_
    exact ⟨rfl, v1, st3.quiet hw h (Only.put st3.only.wf hn2) hT2⟩
  have h0 : ¬ opd (b : Int) < 0 := h0
  rw [if_neg h0]
  repeat (first | refine qO ?_ | refine qA ?_ | refine qI rfl rfl rfl ?_ | refine qP rfl rfl rfl rfl (by assumption) rfl ?_)
  refine qU rfl rfl orc_cons rfl operand_spec ?_
  rintro r A4 ⟨rfl, e4⟩
  obtain rfl : A3 = A4 := e4.symm
  repeat (first | refine qG ?_ | refine qE rfl rfl ?_ | refine xD rfl rfl rfl ?_)
  refine qV rfl (fun h1 => ?_) fun h1 => ?_
  · have h1 : opd (b : Int) = 0 := h1
    rw [if_pos h1]
    repeat (first | refine qO ?_ | refine qA ?_)
    refine xG rfl rfl rfl rfl hx6 rfl ?_
    refine qZ rfl rfl rfl rfl rfl rfl hx2 rfl ?_
    repeat (first | refine qG ?_ | refine qE rfl rfl ?_)
    refine wg_ret2 rfl rfl rfl (loadN_eq rfl rfl (by rw [AW.put_get, if_pos rfl]) rfl) ?_
    exact ⟨rfl, v1, st3.quiet hw h (Only.put st3.only.wf hn2) hT2⟩
  have h1 : ¬ opd (b : Int) = 0 := h1
  rw [if_neg h1]
  repeat (first | refine qO ?_ | refine qS ?_ | refine xB ?_ | refine qA ?_ | refine qJ rfl rfl ?_)
  refine qU rfl rfl orc_cons rfl (ruint_spec st3.only.wf st3.rd) ?_
  rintro r A4 ⟨rfl, v2, st4⟩
  have f6r : f6 ≠ fr := fun e => by
    subst e
    have := hw _ _ h.cell
    omega
  have hx2 := st4.only.keep _ _ hx2 f2r
  have hx6 := st4.only.keep _ _ hx6 f6r
  rcases hG : rdG (bs.drop k) 0 0 with ⟨n, e, k2⟩
  rw [hG] at st4
  simp only at st4 ⊢
  rw [List.drop_drop] at st4
  have st4 : RStep A A4 fr v v2 (bs.drop (k + k2)) := ⟨st4.rd, st3.only.same st4.only, fun g hg => st3.sub g (st4.sub g hg)⟩
  have hn2 : f2 < A4.nxt := st4.only.wf _ _ hx2
  have hn6 : f6 < A4.nxt := st4.only.wf _ _ hx6
  repeat (first | refine qO ?_ | refine qY ?_ | refine qA ?_ | refine qG ?_ | refine qJ rfl rfl ?_ | refine qE rfl rfl ?_ | refine xK rfl rfl rfl ?_ | refine xL rfl rfl rfl ?_)
  refine qV rfl (fun he => ?_) fun he => ?_
  · have he : e ≠ 0 := fun h => he (by rw [h]; rfl)
    rw [if_pos he]
    repeat (first | refine qO ?_ | refine qA ?_)
    refine xG rfl rfl rfl rfl hx6 rfl ?_
    repeat refine qJ rfl rfl ?_
    refine qZ rfl rfl rfl rfl rfl rfl hx2 rfl ?_
    repeat (first | refine qG ?_ | refine qE rfl rfl ?_)
    refine wg_ret2 rfl rfl rfl (loadN_eq rfl rfl (by rw [AW.put_get, if_pos rfl]) rfl) ?_
    exact ⟨rfl, v2, st4.quiet hw h (Only.put st4.only.wf hn2) hT2⟩
  have he : e = 0 := by
    have : ¬ (e : Int) ≠ 0 := he
    omega
  rw [if_neg (fun h => h he)]
  subst he
  repeat (first | refine qO ?_ | refine qA ?_ | refine qG ?_ | refine qJ rfl rfl ?_ | refine qE rfl rfl ?_ | refine wo_gtr rfl rfl rfl ?_)
  refine qV rfl (fun hn => ?_) fun hn => ?_
  · have hn : 999 < n := by
      have : (999 : Int) < (n : Int) := hn
      omega
    rw [if_pos hn]
    repeat (first | refine qO ?_ | refine qA ?_)
    refine xG rfl rfl rfl rfl hx6 rfl ?_
    refine qZ rfl rfl rfl rfl rfl rfl hx2 rfl ?_
    repeat (first | refine qG ?_ | refine qE rfl rfl ?_)
    refine wg_ret2 rfl rfl rfl (loadN_eq rfl rfl (by rw [AW.put_get, if_pos rfl]) rfl) ?_
    exact ⟨rfl, v2, st4.quiet hw h (Only.put st4.only.wf hn2) hT2⟩
  have hn : ¬ 999 < n := by
    have : ¬ (999 : Int) < (n : Int) := hn
    omega
  rw [if_neg hn]
  repeat (first | refine qO ?_ | refine qS ?_ | refine xB ?_ | refine qA ?_ | refine qJ rfl rfl ?_)
  refine wo_conv rfl rfl rfl rfl (n : Int) (wrap_i64 (by omega) (by omega)) ?_
  repeat refine qI rfl rfl rfl ?_
  refine qZ (cs' := [.int .i64 (b : Int), .int .i64 (n : Int)]) rfl rfl rfl rfl rfl rfl hx6 rfl ?_
  have st5 := st4.quiet hw h (Only.put (x := .cells 0 false 2 [.int .i64 (b : Int), .int .i64 (n : Int)]) st4.only.wf hn6) fun g hg => by cases hg; exact f6n
  refine wo_A (fun A5 => RStep A A5 fr v v2 (bs.drop (k + k2)) ∧ A5.heap.get f2 = some (.cells 0 false 2 [.int .i64 0, .int .i64 0]) ∧ A5.heap.get f6 = some (.cells 0 false 2 [.int .i64 (b : Int), .int .i64 (n : Int)])) ⟨st5, by rw [AW.put_get, if_neg f26]; exact hx2, by rw [AW.put_get, if_pos rfl]⟩ ?_
  rintro A5 ⟨st5, hx2, hx6⟩
  have hn2 : f2 < A5.nxt := st5.only.wf _ _ hx2
  repeat (first | refine qO ?_ | refine qA ?_ | refine qG ?_)
  refine xG rfl rfl rfl rfl hx6 rfl ?_
  refine qZ rfl rfl rfl rfl rfl rfl hx2 rfl ?_
  repeat (first | refine qG ?_ | refine qE rfl rfl ?_)
  refine wg_ret2 rfl rfl rfl (loadN_eq rfl rfl (by rw [AW.put_get, if_pos rfl]) rfl) ?_
  exact ⟨rfl, v2, st5.quiet hw h (Only.put st5.only.wf hn2) hT2⟩
end Go.Proofs.YtiecclkgjcnaoaaGreat.Ae
