/-
  THE READER OF CLASSES, by the rules: a method, methods.
-/
import Derived.Test.YtiecclkgjcnaoaaGreatAiSyD7
namespace Go.Proofs.YtiecclkgjcnaoaaGreat.Ae
open Go.AE
set_option linter.unusedVariables false
set_option maxRecDepth 100000
theorem row_fam {A : AW} {es : Nat} {v : AV} {n : Nat} {cs : List AV} (h : Row A es v n cs) {g : Nat} (hg : v.isFam g) : ∃ t ro all, A.heap.get g = some (.cells t ro es all) := by
  rcases h with ⟨rfl | ⟨z, rfl⟩, _, _⟩ | ⟨f, t, o, c, ex, ro, all, rfl, h1, _⟩
  · exact hg.elim
  · exact hg.elim
  · cases hg; exact ⟨t, ro, all, h1⟩
structure MeT where
  name : Str
  params : List Ty'
  ret : Ty'
  locals : Int
  stack : Int
  code : List In
  hands : List HaT
structure MeR (A : AW) (n0 : Nat) (m : MeT) (pv cv hv : AV) : Prop where
  p : Row A 2 pv m.params.length (m.params.flatMap tyc)
  c : Row A 2 cv m.code.length (ics m.code)
  h : Row A 5 hv m.hands.length (m.hands.flatMap hac)
  op : ∀ g, pv.isFam g → n0 ≤ g
  oc : ∀ g, cv.isFam g → n0 ≤ g
  oh : ∀ g, hv.isFam g → n0 ≤ g
def mec (m : MeT) (pv cv hv : AV) : List AV := [.str m.name, pv, .int .i64 m.ret.1, .str m.ret.2, .int .i64 m.locals, .int .i64 m.stack, cv, hv]
theorem MeR.keep {A A1 : AW} {n0 : Nat} {m : MeT} {pv cv hv : AV} {T : Nat → Prop} (h : MeR A n0 m pv cv hv) (o : Only A A1 T) (hT : ∀ g, T g → g < n0 ∨ ∃ t cs, A.heap.get g = some (.cells t false 8 cs)) : MeR A1 n0 m pv cv hv := by
  have key : ∀ {es n : Nat} {v : AV} {cs : List AV}, es ≠ 8 → Row A es v n cs → (∀ g, v.isFam g → n0 ≤ g) → Row A1 es v n cs := fun {es n v cs} h8 hr ho => hr.keep o fun g hg ht => by
    rcases hT g ht with hl | ⟨t, cs', hc⟩
    · have := ho g hg
      omega
    · obtain ⟨t', ro, all, hc'⟩ := row_fam hr hg
      rw [hc] at hc'
      cases hc'
      exact h8 rfl
  exact ⟨key (by decide) h.p h.op, key (by decide) h.c h.oc, key (by decide) h.h h.oh, h.op, h.oc, h.oh⟩
def MeL (A : AW) (n0 : Nat) : List MeT → List AV → Prop
  | [], cs => cs = []
  | m :: ms, cs => ∃ pv cv hv cs', cs = mec m pv cv hv ++ cs' ∧ MeR A n0 m pv cv hv ∧ MeL A n0 ms cs'
theorem MeL.keep {A A1 : AW} {n0 : Nat} {T : Nat → Prop} (o : Only A A1 T) (hT : ∀ g, T g → g < n0 ∨ ∃ t cs, A.heap.get g = some (.cells t false 8 cs)) : ∀ {ms : List MeT} {cs : List AV}, MeL A n0 ms cs → MeL A1 n0 ms cs
  | [], cs, h => h
  | m :: ms, cs, ⟨pv, cv, hv, cs', e, h1, h2⟩ => ⟨pv, cv, hv, cs', e, h1.keep o hT, MeL.keep o hT h2⟩
theorem MeL.snoc {A : AW} {n0 : Nat} {m : MeT} {pv cv hv : AV} (hm : MeR A n0 m pv cv hv) : ∀ {ms : List MeT} {cs : List AV}, MeL A n0 ms cs → MeL A n0 (ms ++ [m]) (cs ++ mec m pv cv hv)
  | [], cs, h => by
    have h : cs = [] := h
    subst h
    exact ⟨pv, cv, hv, [], by simp, hm, rfl⟩
  | x :: ms, cs, ⟨p1, c1, h1, cs', e, g1, g2⟩ => ⟨p1, c1, h1, cs' ++ mec m pv cv hv, by rw [e, List.append_assoc], g1, MeL.snoc hm g2⟩
theorem MeL.mono {A : AW} {n0 n1 : Nat} (h : n1 ≤ n0) : ∀ {ms : List MeT} {cs : List AV}, MeL A n0 ms cs → MeL A n1 ms cs
  | [], cs, h => h
  | m :: ms, cs, ⟨pv, cv, hv, cs', e, h1, h2⟩ => ⟨pv, cv, hv, cs', e, ⟨h1.p, h1.c, h1.h, fun g hg => Nat.le_trans h (h1.op g hg), fun g hg => Nat.le_trans h (h1.oc g hg), fun g hg => Nat.le_trans h (h1.oh g hg)⟩, MeL.mono h h2⟩
def pMe7 (n : Str × Int × List Nat) (ps : List Ty' × Int × List Nat) (r : Ty' × Int × List Nat) (lo st : Nat × Int × List Nat) (c : List In × Int × List Nat) (hs : List HaT × Int × List Nat) : MeT × Int × List Nat :=
  (⟨n.1, ps.1, r.1, (lo.1 : Int), (st.1 : Int), c.1, hs.1⟩, hs.2)
def pMe (e : Int) (bs : List Nat) : MeT × Int × List Nat :=
  let n := pT e bs
  let ps := pM pK 6 n.2.1 n.2.2
  let r := pK ps.2.1 ps.2.2
  let lo := pN r.2.1 r.2.2
  let st := pN lo.2.1 lo.2.2
  let c := pCd st.2.1 st.2.2
  pMe7 n ps r lo st c (pM pH 16 c.2.1 c.2.2)
def zMe : List AV := [.str [], .nils, .int .i64 0, .str [], .int .i64 0, .int .i64 0, .nils, .nils]
theorem room_of2 {n b : Nat} (h : n ≤ 1000000) (hb : b ≤ 1000) : roomA n b = true := by
  have h1 : Nat.ble n maxBytes = true := Nat.ble_eq_true_of_le (Nat.le_trans h (by decide))
  have h2 : Nat.ble (Nat.mul n b) maxBytes = true := Nat.ble_eq_true_of_le (Nat.le_trans (Nat.mul_le_mul h hb) (by decide))
  unfold roomA
  rw [h1, h2]
  rfl
structure MI2 (A A1 : AW) (fc fr : Nat) (v v' : AV) (e : Int) (bs : List Nat) (fb f2 f3 N : Nat) (m : MeT) (pv cv hv : AV) : Prop where
  S : ST A A1 fc fr v v' e bs f2 f3 zMe (mec m pv cv hv)
  hb : A1.heap.get fb = some (.cells 0 false 1 [.ptr fc 0 0])
  R : MeR A1 N m pv cv hv
  hn : N ≤ A1.nxt
theorem MI2.read {A A1 A2 : AW} {fc fr : Nat} {v v1 v2 : AV} {e e1 : Int} {bs b1 : List Nat} {fb f2 f3 N : Nat} {m : MeT} {pv cv hv : AV} (hlt : fc < A.nxt ∧ fr < A.nxt) (lb : A.nxt ≤ fb) (l2 : A.nxt ≤ f2) (l3 : A.nxt ≤ f3) (hN : A.nxt ≤ N)
    (h : MI2 A A1 fc fr v v1 e bs fb f2 f3 N m pv cv hv) (k : PStep A1 A2 fc fr v1 v2 e1 b1) : MI2 A A2 fc fr v v2 e1 b1 fb f2 f3 N m pv cv hv :=
  ⟨h.S.read hlt l2 l3 k, k.hold hlt h.hb lb, h.R.keep k.only fun g hg => .inl (by rcases hg with hg | hg <;> cases hg <;> omega), Nat.le_trans h.hn k.only.nxt⟩
theorem MI2.put {A A1 : AW} {fc fr : Nat} {v v1 : AV} {e e0 : Int} {bs b0 : List Nat} {fb f2 f3 N : Nat} {m m' : MeT} {pv cv hv pv' cv' hv' : AV} (hw : Wf A) (h0 : PS A fc fr v e0 b0) (l3 : A.nxt ≤ f3) (n23 : f2 ≠ f3) (nb3 : fb ≠ f3) (s3 : f3 < N)
    (h : MI2 A A1 fc fr v v1 e bs fb f2 f3 N m pv cv hv) (R : MeR A1 N m' pv' cv' hv') : MI2 A (A1.put f3 (.cells 0 false 8 (mec m' pv' cv' hv'))) fc fr v v1 e bs fb f2 f3 N m' pv' cv' hv' := by
  have op := Only.put (x := .cells 0 false 8 (mec m' pv' cv' hv')) h.S.st.only.wf (h.S.st.only.wf _ _ h.S.h3)
  exact ⟨h.S.put hw h0 l3 n23 rfl, op.keep _ _ h.hb fun e => nb3 e, R.keep op fun g hg => by cases hg; exact .inl s3, Nat.le_trans h.hn op.nxt⟩
set_option maxHeartbeats 4000000 in
theorem cmethod_spec {K : FuncId} {A : AW} {fc fr : Nat} {v : AV} {e : Int} {bs : List Nat} (hw : Wf A) (h : PS A fc fr v e bs) :
    CallP (ES K) 22 [.ptr fc 0 0] A fun r A1 => (∃ pv cv hv, r = .agg (mec (pMe e bs).1 pv cv hv) ∧ MeR A1 A.nxt (pMe e bs).1 pv cv hv) ∧ ∃ v', PStep A A1 fc fr v v' (pMe e bs).2.1 (pMe e bs).2.2 := by
  refine call_of rfl rfl rfl ?_
  have hlt := h.lt hw
  unfold pMe
  repeat (first | refine qO ?_ | refine qA ?_)
  refine wo_box rfl rfl rfl rfl ?_
  refine wo_A (fun A1 => Only A A1 none' ∧ A1.heap.get A.nxt = some (.cells 0 false 1 [.ptr fc 0 0])) ⟨Only.add hw _, by rw [AW.add_get, if_pos rfl]; rfl⟩ ?_
  rintro A0 ⟨o0, hb⟩
  generalize hfb : A.nxt = fb at hb
  have lb : A.nxt ≤ fb := by omega
  have sb := o0.wf _ _ hb
  refine wo_alloc rfl rfl rfl ?_
  refine wo_A (fun A1 => Only A0 A1 none' ∧ A1.heap.get A0.nxt = some (.cells 0 false 8 zMe)) ⟨Only.add o0.wf _, by rw [AW.add_get, if_pos rfl]; rfl⟩ ?_
  rintro A1 ⟨o1, h2⟩
  have l2 := o0.nxt
  have nb2 : fb ≠ A0.nxt := by omega
  generalize A0.nxt = f2 at h2 l2 nb2
  have hb := o1.keep _ _ hb fun h => h
  have o1 := o0.same o1
  repeat (first | refine qO ?_ | refine qA ?_ | refine qG ?_ | refine qP rfl rfl rfl rfl (by assumption) rfl ?_)
  refine qU rfl rfl orc_cons rfl (ctext_spec o1.wf (h.keep o1)) ?_
  rintro r A2 ⟨rfl, v1, st1⟩
  generalize pT e bs = n at st1
  obtain ⟨n, e1, b1⟩ := n
  have st1 : PStep A1 A2 fc fr v v1 e1 b1 := st1
  have hb := st1.hold hlt hb lb
  have hb2 := hb
  simp only
  repeat refine wo_build rfl rfl rfl ?_
  refine wo_alloc rfl rfl rfl ?_
  refine qZ rfl rfl rfl rfl rfl rfl (by rw [AW.add_get, if_pos rfl]) rfl ?_
  refine wo_A (fun A3 => Only A2 A3 none' ∧ A3.heap.get A2.nxt = some (.cells 0 false 8 (mec ⟨n, [], (0, []), 0, 0, [], []⟩ .nils .nils .nils)) ∧ A3.nxt = A2.nxt + 1) ⟨made st1.only.wf, by rw [AW.put_get, if_pos rfl]; rfl, rfl⟩ ?_
  rintro A3 ⟨o3, h3, hnx⟩
  have hb := o3.keep _ _ hb fun h => h
  have n23 : f2 ≠ A2.nxt := fun e => by
    have := st1.only.wf _ _ (st1.hold hlt h2 l2)
    omega
  have l3 := (st1.after o1).only.nxt
  have nb3 : fb ≠ A2.nxt := fun e => by
    have := st1.only.wf _ _ hb2
    omega
  generalize A2.nxt = f3 at h3 n23 l3 nb3 hnx
  have S : ST A A3 fc fr v v1 e1 b1 f2 f3 zMe (mec ⟨n, [], (0, []), 0, 0, [], []⟩ .nils .nils .nils) := ST.made hlt l2 o1 h2 st1 o3 h3
  have s2 := o3.wf _ _ S.h2
  have s3 := o3.wf _ _ S.h3
  have sb := o3.wf _ _ hb
  have hN : A.nxt ≤ A3.nxt := S.st.only.nxt
  repeat (first | refine qO ?_ | refine qA ?_ | refine qG ?_ | refine qP rfl rfl rfl rfl (by assumption) rfl ?_)
  refine wo_makeFunc rfl rfl rfl ?_
  refine qU rfl rfl orc_cons rfl (manyT_spec (m := 6) (p := pK) S.st.only.wf S.st.ps (by decide) (by decide) orc_cons rfl fun A1 v1 e1 b1 st => ckind_spec st.only.wf st.ps) ?_
  rintro pv A4 ⟨⟨hp, op⟩, v4, st4⟩
  have nilR : ∀ {A : AW} {es : Nat}, Row A es .nils 0 [] := .inl ⟨.inl rfl, rfl, rfl⟩
  have I : MI2 A A3 fc fr v v1 e1 b1 fb f2 f3 A3.nxt ⟨n, [], (0, []), 0, 0, [], []⟩ .nils .nils .nils := ⟨S, hb, ⟨nilR, nilR, nilR, fun g h => h.elim, fun g h => h.elim, fun g h => h.elim⟩, Nat.le_refl _⟩
  have hn3 : A3.nxt ≤ A4.nxt := st4.only.nxt
  generalize A3.nxt = N at I hN op s2 s3 sb hn3
  have I := I.read hlt lb l2 l3 hN st4
  unfold pMe7
  generalize pM pK 6 e1 b1 = ps at I hp
  obtain ⟨ps, e4, b4⟩ := ps
  have I : MI2 A A4 fc fr v v4 e4 b4 fb f2 f3 N ⟨n, [], (0, []), 0, 0, [], []⟩ .nils .nils .nils := I
  have hp : Buf A4 2 pv ps.length (ps.flatMap tyc) := hp
  simp only
  repeat refine qI rfl rfl rfl ?_
  refine qZ rfl rfl hp.cells rfl rfl rfl I.S.h3 rfl ?_
  refine wo_A (fun A5 => MI2 A A5 fc fr v v4 e4 b4 fb f2 f3 N ⟨n, ps, (0, []), 0, 0, [], []⟩ pv .nils .nils) (I.put (m' := ⟨n, ps, (0, []), 0, 0, [], []⟩) (pv' := pv) (cv' := .nils) (hv' := .nils) hw h l3 n23 nb3 s3 ⟨hp.row, I.R.c, I.R.h, op, I.R.oc, I.R.oh⟩) ?_
  intro A5 I
  have hb := I.hb
  repeat (first | refine qO ?_ | refine qA ?_ | refine qG ?_ | refine qP rfl rfl rfl rfl (by assumption) rfl ?_)
  refine qU rfl rfl orc_cons rfl (ckind_spec I.S.st.only.wf I.S.st.ps) ?_
  rintro r A6 ⟨rfl, v6, st6⟩
  have I := I.read hlt lb l2 l3 hN st6
  generalize pK e4 b4 = rt at I
  obtain ⟨rt, e6, b6⟩ := rt
  have I : MI2 A A6 fc fr v v6 e6 b6 fb f2 f3 N ⟨n, ps, (0, []), 0, 0, [], []⟩ pv .nils .nils := I
  simp only
  repeat refine qI rfl rfl rfl ?_
  refine qZ rfl rfl rfl rfl rfl rfl I.S.h3 rfl ?_
  refine wo_A (fun A7 => MI2 A A7 fc fr v v6 e6 b6 fb f2 f3 N ⟨n, ps, rt, 0, 0, [], []⟩ pv .nils .nils) (I.put (m' := ⟨n, ps, rt, 0, 0, [], []⟩) (pv' := pv) (cv' := .nils) (hv' := .nils) hw h l3 n23 nb3 s3 ⟨I.R.p, I.R.c, I.R.h, I.R.op, I.R.oc, I.R.oh⟩) ?_
  intro A7 I
  have hb := I.hb
  repeat (first | refine qO ?_ | refine qG ?_)
  refine wg_draw rfl ?_
  repeat (first
    | (refine xI rfl rfl rfl rfl rfl rfl rfl ?_
       repeat (first | refine qG ?_ | refine qP rfl rfl rfl rfl (by assumption) rfl ?_)
       refine ⟨rfl, _, rfl, ?_⟩))
  refine wd_act rfl rfl rfl ?_
  refine qU rfl rfl orc_cons rfl (cnumber_spec I.S.st.only.wf I.S.st.ps) ?_
  rintro r A8 ⟨rfl, v8, st8⟩
  have I := I.read hlt lb l2 l3 hN st8
  have hb := I.hb
  unfold pN
  generalize pC 1048576 e6 b6 = lo at I
  obtain ⟨lo, e8, b8⟩ := lo
  have I : MI2 A A8 fc fr v v8 e8 b8 fb f2 f3 N ⟨n, ps, rt, 0, 0, [], []⟩ pv .nils .nils := I
  simp only
  repeat refine qG ?_
  refine ⟨?_, ?_⟩
  · repeat (first | exact trivial | refine ⟨.inr (stillP rfl hb), ?_⟩)
  repeat (first
    | (refine xC rfl rfl rfl rfl rfl ?_
       repeat (first | refine qG ?_ | refine qI rfl rfl rfl ?_)
       refine ⟨rfl, ?_⟩))
  refine wd_act rfl rfl rfl ?_
  refine qU rfl rfl orc_cons rfl (cnumber_spec I.S.st.only.wf I.S.st.ps) ?_
  rintro r A9 ⟨rfl, v9, st9⟩
  have I := I.read hlt lb l2 l3 hN st9
  have hb := I.hb
  generalize pC 1048576 e8 b8 = sk at I
  obtain ⟨sk, e9, b9⟩ := sk
  have I : MI2 A A9 fc fr v v9 e9 b9 fb f2 f3 N ⟨n, ps, rt, 0, 0, [], []⟩ pv .nils .nils := I
  simp only
  repeat refine qG ?_
  refine ⟨?_, ?_⟩
  · repeat (first | exact trivial | refine ⟨.inr (stillP rfl hb), ?_⟩)
  refine wd_act rfl rfl rfl ?_
  refine qZ rfl rfl rfl rfl rfl rfl I.S.h3 rfl ?_
  refine wo_A (fun A10 => MI2 A A10 fc fr v v9 e9 b9 fb f2 f3 N ⟨n, ps, rt, (lo : Int), 0, [], []⟩ pv .nils .nils) (I.put (m' := ⟨n, ps, rt, (lo : Int), 0, [], []⟩) (pv' := pv) (cv' := .nils) (hv' := .nils) hw h l3 n23 nb3 s3 ⟨I.R.p, I.R.c, I.R.h, I.R.op, I.R.oc, I.R.oh⟩) ?_
  intro A10 I
  have hb := I.hb
  repeat refine qG ?_
  refine ⟨?_, ?_⟩
  · repeat (first | exact trivial | refine ⟨.inr (stillP rfl hb), ?_⟩)
  repeat (first
    | (refine xC rfl rfl rfl rfl rfl ?_
       repeat (first | refine qG ?_ | refine qI rfl rfl rfl ?_)
       refine ⟨rfl, ?_⟩))
  refine wd_act rfl rfl rfl ?_
  refine qZ rfl rfl rfl rfl rfl rfl I.S.h3 rfl ?_
  refine wo_A (fun A11 => MI2 A A11 fc fr v v9 e9 b9 fb f2 f3 N ⟨n, ps, rt, (lo : Int), (sk : Int), [], []⟩ pv .nils .nils) (I.put (m' := ⟨n, ps, rt, (lo : Int), (sk : Int), [], []⟩) (pv' := pv) (cv' := .nils) (hv' := .nils) hw h l3 n23 nb3 s3 ⟨I.R.p, I.R.c, I.R.h, I.R.op, I.R.oc, I.R.oh⟩) ?_
  intro A11 I
  have hb := I.hb
  repeat refine qG ?_
  refine ⟨?_, wd_nil ?_⟩
  · repeat (first | exact trivial | refine ⟨.inr (stillP rfl hb), ?_⟩)
  repeat (first | refine qO ?_ | refine qA ?_ | refine qP rfl rfl rfl rfl (by assumption) rfl ?_)
  refine qU rfl rfl orc_cons rfl (ccode_spec I.S.st.only.wf I.S.st.ps) ?_
  rintro cv A12 ⟨⟨hcv, oc⟩, v12, st12⟩
  have oc : ∀ g, cv.isFam g → N ≤ g := fun g hg => Nat.le_trans I.hn (oc g hg)
  have I := I.read hlt lb l2 l3 hN st12
  generalize pCd e9 b9 = co at I hcv
  obtain ⟨co, e12, b12⟩ := co
  have I : MI2 A A12 fc fr v v12 e12 b12 fb f2 f3 N ⟨n, ps, rt, (lo : Int), (sk : Int), [], []⟩ pv .nils .nils := I
  have hcv : Buf A12 2 cv co.length (ics co) := hcv
  simp only
  repeat refine qI rfl rfl rfl ?_
  refine qZ rfl rfl hcv.cells rfl rfl rfl I.S.h3 rfl ?_
  refine wo_A (fun A13 => MI2 A A13 fc fr v v12 e12 b12 fb f2 f3 N ⟨n, ps, rt, (lo : Int), (sk : Int), co, []⟩ pv cv .nils) (I.put (m' := ⟨n, ps, rt, (lo : Int), (sk : Int), co, []⟩) (pv' := pv) (cv' := cv) (hv' := .nils) hw h l3 n23 nb3 s3 ⟨I.R.p, hcv.row, I.R.h, I.R.op, oc, I.R.oh⟩) ?_
  intro A13 I
  have hb := I.hb
  repeat (first | refine qO ?_ | refine qA ?_ | refine qG ?_ | refine qP rfl rfl rfl rfl (by assumption) rfl ?_)
  refine wo_makeFunc rfl rfl rfl ?_
  refine qU rfl rfl orc_cons rfl (manyH_spec (m := 16) (p := pH) I.S.st.only.wf I.S.st.ps (by decide) (by decide) orc_cons rfl fun A1 v1 e1 b1 st => chandler_spec st.only.wf st.ps (st.hold hlt I.hb lb) ⟨by omega, by omega⟩) ?_
  rintro hv A14 ⟨⟨hhv, oh⟩, v14, st14⟩
  have oh : ∀ g, hv.isFam g → N ≤ g := fun g hg => Nat.le_trans I.hn (oh g hg)
  have I := I.read hlt lb l2 l3 hN st14
  generalize pM pH 16 e12 b12 = ha at I hhv
  obtain ⟨ha, e14, b14⟩ := ha
  have I : MI2 A A14 fc fr v v14 e14 b14 fb f2 f3 N ⟨n, ps, rt, (lo : Int), (sk : Int), co, []⟩ pv cv .nils := I
  have hhv : Buf A14 5 hv ha.length (ha.flatMap hac) := hhv
  simp only
  repeat refine qI rfl rfl rfl ?_
  refine qZ rfl rfl hhv.cells rfl rfl rfl I.S.h3 rfl ?_
  refine wo_A (fun A15 => MI2 A A15 fc fr v v14 e14 b14 fb f2 f3 N ⟨n, ps, rt, (lo : Int), (sk : Int), co, ha⟩ pv cv hv) (I.put (m' := ⟨n, ps, rt, (lo : Int), (sk : Int), co, ha⟩) (pv' := pv) (cv' := cv) (hv' := hv) hw h l3 n23 nb3 s3 ⟨I.R.p, I.R.c, hhv.row, I.R.op, I.R.oc, oh⟩) ?_
  intro A15 I
  have h2 := I.S.h2
  have h3 := I.S.h3
  unfold mec at h3
  repeat (first | refine qO ?_ | refine qA ?_ | refine qG ?_)
  refine xG rfl rfl rfl rfl h3 rfl ?_
  refine qZ rfl rfl rfl rfl rfl rfl h2 rfl ?_
  repeat refine qG ?_
  refine wg_ret1 rfl rfl (loadN_eq rfl rfl (by rw [AW.put_get, if_pos rfl]) rfl) ?_
  have op2 := Only.put (x := .cells 0 false 8 (mec ⟨n, ps, rt, (lo : Int), (sk : Int), co, ha⟩ pv cv hv)) I.S.st.only.wf (I.S.st.only.wf _ _ h2)
  have R := I.R.keep op2 fun g hg => by cases hg; exact .inl s2
  have hN' : fb ≤ N := by omega
  exact ⟨⟨pv, cv, hv, rfl, ⟨R.p, R.c, R.h, fun g hg => Nat.le_trans hN' (R.op g hg), fun g hg => Nat.le_trans hN' (R.oc g hg), fun g hg => Nat.le_trans hN' (R.oh g hg)⟩⟩, v14, I.S.done hw h l2⟩
theorem manyM_spec {K : FuncId} {A : AW} {fc fr : Nat} {v : AV} {e m : Int} {bs : List Nat} {g : FuncId} {first cap : List AV} {p : Int → List Nat → MeT × Int × List Nat} (hw : Wf A) (h : PS A fc fr v e bs) (m0 : 0 ≤ m) (m1 : m ≤ 1000)
    (ho : (ES K).orc g (first ++ cap) = none) (hb : R.hasB (ES K) g = true)
    (hr : ∀ A1 v1 e1 b1, PStep A A1 fc fr v v1 e1 b1 → CallP (ES K) g (first ++ cap) A1 fun r A2 => (∃ pv cv hv, r = .agg (mec (p e1 b1).1 pv cv hv) ∧ MeR A2 A1.nxt (p e1 b1).1 pv cv hv) ∧ ∃ v2, PStep A1 A2 fc fr v1 v2 (p e1 b1).2.1 (p e1 b1).2.2) :
    CallP (ES K) 21 [.ptr fc 0 0, .int .i64 m, .func g first cap] A fun r A1 => (∃ cs, MeL A1 A.nxt (pM p m e bs).1 cs ∧ Buf A1 8 r (pM p m e bs).1.length cs ∧ ∀ k, r.isFam k → A.nxt ≤ k) ∧ ∃ v', PStep A A1 fc fr v v' (pM p m e bs).2.1 (pM p m e bs).2.2 := by
  refine call_of rfl rfl rfl ?_
  have hlt := h.lt hw
  unfold pM
  repeat (first | refine qO ?_ | refine wg_scope ?_ | refine qA ?_ | refine qG ?_ | refine qJ rfl rfl ?_ | refine qE rfl rfl ?_)
  refine qU rfl rfl orc_cons rfl (ccount_spec (m := m) hw h (by omega) (by omega)) ?_
  rintro r A1 ⟨rfl, v1, st⟩
  have hm := pC_most (m := m) (e := e) (bs := bs) m0
  generalize pC m e bs = n at st hm
  obtain ⟨n, e0, b0⟩ := n
  have hm : (n : Int) ≤ m := hm
  have st : PStep A A1 fc fr v v1 e0 b0 := st
  repeat (first | refine qO ?_ | refine qA ?_ | refine qG ?_ | refine qE rfl rfl ?_)
  refine wg_label ?_
  refine wg_le (.put 0 (.ptr fc 0 0) (.put 2 (.func g first cap) (.put 7 (.int .i64 (n : Int)) (.put 8 .nils .nil)))) ?_ ⟨rfl, rfl, rfl, rfl, trivial⟩
  refine wg_ind (ι := List MeT × List AV × AV × AV × Int × List Nat) (fun i => n - i.1.length) (fun i => .put 0 (.ptr fc 0 0) (.put 2 (.func g first cap) (.put 7 (.int .i64 (n : Int)) (.put 8 i.2.2.1 .nil))))
    (fun i A2 => PStep A A2 fc fr v i.2.2.2.1 i.2.2.2.2.1 i.2.2.2.2.2 ∧ (MeL A2 A.nxt i.1 i.2.1 ∧ Buf A2 8 i.2.2.1 i.1.length i.2.1) ∧ (∀ k, i.2.2.1.isFam k → A.nxt ≤ k) ∧ i.1.length ≤ n ∧ i.1 ++ (pL p (n - i.1.length) i.2.2.2.2.1 i.2.2.2.2.2).1 = (pL p n e0 b0).1 ∧ (pL p (n - i.1.length) i.2.2.2.2.1 i.2.2.2.2.2).2 = (pL p n e0 b0).2) ?_
    ([], [], .nils, v1, e0, b0) A1 ⟨st, ⟨rfl, .inl ⟨rfl, rfl, rfl⟩⟩, fun k h => h.elim, Nat.zero_le _, rfl, rfl⟩
  rintro ⟨acc, cs, vb, v2, e1, b1⟩ A2 ⟨st, ⟨hml, hbuf⟩, hown, hle, hx1, hx2⟩ ih
  have st : PStep A A2 fc fr v v2 e1 b1 := st
  have hml : MeL A2 A.nxt acc cs := hml
  have hbuf : Buf A2 8 vb acc.length cs := hbuf
  have hown : ∀ k, vb.isFam k → A.nxt ≤ k := hown
  have hle : acc.length ≤ n := hle
  have hx1 : acc ++ (pL p (n - acc.length) e1 b1).1 = (pL p n e0 b0).1 := hx1
  have hx2 : (pL p (n - acc.length) e1 b1).2 = (pL p n e0 b0).2 := hx2
  have hc := st.ps.cell
  repeat (first | refine qO ?_ | refine qA ?_ | refine qJ rfl rfl ?_ | refine qI rfl rfl rfl ?_ | refine qW rfl rfl ?_ | refine qP rfl rfl rfl rfl (by assumption) rfl ?_ | refine xD rfl rfl rfl ?_)
  by_cases he : e1 = 0
  · subst he
    refine xA 17 true rfl (decide_eq_true rfl) ?_
    repeat (first | refine qJ rfl rfl ?_ | refine qX rfl ?_)
    refine xJ rfl rfl rfl hbuf.lenV ?_
    repeat (first | refine qG ?_ | refine qJ rfl rfl ?_ | refine xM rfl rfl rfl ?_ | refine qR rfl rfl rfl ?_ | refine qX rfl ?_)
    refine qV rfl (fun hx => ?_) fun hx => ?_
    · have hx : acc.length < n := Int.ofNat_lt.1 hx
      have hk : n - acc.length = (n - (acc.length + 1)) + 1 := by omega
      rw [hk, pL_next] at hx1 hx2
      repeat (first | refine qO ?_ | refine qA ?_ | refine qJ rfl rfl ?_)
      refine wo_callV (vs := []) (ws := first ++ cap) rfl rfl rfl (by rw [List.append_nil]) ho hb (hr _ _ _ _ st) ?_
      rintro r A3 ⟨⟨pv, cv, hv, rfl, hm3⟩, v3, st3⟩
      have hbuf := hbuf.keep st3.only fun k hk hb => by
        have := hown k hk
        rcases hb with hb | hb <;> cases hb <;> omega
      have hml := hml.keep st3.only fun k hk => .inl (by rcases hk with hk | hk <;> cases hk <;> omega)
      have hn2 := st.only.nxt
      have hm3 : MeR A3 A.nxt (p 0 b1).1 pv cv hv := ⟨hm3.p, hm3.c, hm3.h, fun k hk => Nat.le_trans hn2 (hm3.op k hk), fun k hk => Nat.le_trans hn2 (hm3.oc k hk), fun k hk => Nat.le_trans hn2 (hm3.oh k hk)⟩
      have st := st.trans st3
      generalize p 0 b1 = y at st st3 hx1 hx2 hm3
      obtain ⟨x, e2, b2⟩ := y
      have hm3 : MeR A3 A.nxt x pv cv hv := hm3
      repeat refine wo_buildSlice rfl rfl rfl ?_
      refine wo_append rfl rfl rfl rfl rfl (append_one (n := acc.length) (de := d47) rfl rfl rfl rfl st.only.wf hbuf rfl (by decide) (room_of2 (by omega) (by decide))) ?_
      intro vb' A4 gr
      have st4 : PStep A A4 fc fr v v3 e2 b2 := st.fresh hw h gr.only hown
      have hT : ∀ k, vb.isFam k → k < A.nxt ∨ ∃ t cs', A3.heap.get k = some (.cells t false 8 cs') := fun k hk => by
        obtain ⟨t, ht, _⟩ := buf_fam hbuf hk
        exact .inr ⟨t, _, ht⟩
      have hml4 : MeL A4 A.nxt (acc ++ [x]) (cs ++ mec x pv cv hv) := MeL.snoc (hm3.keep gr.only hT) (hml.keep gr.only hT)
      repeat (first | refine qG ?_ | refine qE rfl rfl ?_)
      refine wg_goto rfl (qO (qS ?_))
      refine wg_le (.put 0 (.ptr fc 0 0) (.put 2 (.func g first cap) (.put 7 (.int .i64 (n : Int)) (.put 8 vb' .nil)))) ?_ ⟨rfl, rfl, rfl, rfl, trivial⟩
      refine ih (acc ++ [x], cs ++ mec x pv cv hv, vb', v3, e2, b2) A4 (by simp only [List.length_append, List.length_singleton]; omega) ⟨st4, ⟨hml4, ?_⟩, fun k hk => (gr.grow k hk).elim (hown k) fun h => Nat.le_trans st.only.nxt h, by simp only [List.length_append, List.length_singleton]; omega, ?_, ?_⟩
      · have := gr.buf
        show Buf A4 8 vb' (acc ++ [x]).length (cs ++ mec x pv cv hv)
        rw [List.length_append, List.length_singleton]
        exact this
      · show (acc ++ [x]) ++ (pL p (n - (acc ++ [x]).length) e2 b2).1 = _
        rw [List.length_append, List.length_singleton, ← hx1, List.append_assoc]
        rfl
      · show (pL p (n - (acc ++ [x]).length) e2 b2).2 = _
        rw [List.length_append, List.length_singleton, ← hx2]
    · have hx : acc.length = n := by
        have hx : ¬ (acc.length : Int) < (n : Int) := hx
        omega
      rw [hx, Nat.sub_self] at hx1 hx2
      have hx1 : acc ++ [] = (pL p n e0 b0).1 := hx1
      rw [List.append_nil] at hx1
      repeat (first | refine qO ?_ | refine qS ?_ | refine qA ?_ | refine qG ?_ | refine qJ rfl rfl ?_ | refine qE rfl rfl ?_)
      refine qQ rfl ⟨⟨cs, ?_, ?_, hown⟩, v2, ?_⟩
      · show MeL A2 A.nxt (pL p n e0 b0).1 cs
        rw [← hx1]
        exact hml
      · show Buf A2 8 vb (pL p n e0 b0).1.length cs
        rw [← hx1]
        exact hbuf
      · show PStep A A2 fc fr v v2 (pL p n e0 b0).2.1 (pL p n e0 b0).2.2
        rw [← hx2]
        exact st
  · rw [pL_err p he] at hx1 hx2
    have hx1 : acc ++ [] = (pL p n e0 b0).1 := hx1
    rw [List.append_nil] at hx1
    refine xA 17 false rfl (decide_eq_false he) ?_
    repeat (first | refine qG ?_ | refine qR rfl rfl rfl ?_ | refine xE rfl rfl ?_)
    refine wg_false rfl ?_
    repeat (first | refine qO ?_ | refine qS ?_ | refine qA ?_ | refine qG ?_ | refine qJ rfl rfl ?_ | refine qE rfl rfl ?_)
    refine qQ rfl ⟨⟨cs, ?_, ?_, hown⟩, v2, ?_⟩
    · show MeL A2 A.nxt (pL p n e0 b0).1 cs
      rw [← hx1]
      exact hml
    · show Buf A2 8 vb (pL p n e0 b0).1.length cs
      rw [← hx1]
      exact hbuf
    · show PStep A A2 fc fr v v2 (pL p n e0 b0).2.1 (pL p n e0 b0).2.2
      rw [← hx2]
      exact st
end Go.Proofs.YtiecclkgjcnaoaaGreat.Ae
