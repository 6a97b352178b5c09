/-
  THE DOCUMENT'S READER OF CLASSES, by the rules: a method.
-/
import Derived.Test.YtiecclkgjcnaoaaGreatAiSyE2
import Derived.Test.YtiecclkgjcnaoaaGreatAiSyD8
namespace Go.Proofs.YtiecclkgjcnaoaaGreat.Ae
open Go.AE
set_option linter.unusedVariables false
set_option maxRecDepth 100000
section
variable {α : Type} (p : Bool → List Nat → α × Bool × List Nat)
def qL : Nat → Bool → List Nat → List α × Bool × List Nat
  | 0, b, bs => ([], b, bs)
  | n + 1, b, bs => if b = true then ([], b, bs) else ((p b bs).1 :: (qL n (p b bs).2.1 (p b bs).2.2).1, (qL n (p b bs).2.1 (p b bs).2.2).2)
def qM (m : Int) (b : Bool) (bs : List Nat) : List α × Bool × List Nat := qL p (qC m b bs).1 (qC m b bs).2.1 (qC m b bs).2.2
theorem qL_err {n : Nat} {bs : List Nat} : qL p n true bs = ([], true, bs) := by
  cases n with
  | zero => rfl
  | succ n => unfold qL; rw [if_pos rfl]
theorem qL_next {n : Nat} {bs : List Nat} : qL p (n + 1) false bs = ((p false bs).1 :: (qL p n (p false bs).2.1 (p false bs).2.2).1, (qL p n (p false bs).2.1 (p false bs).2.2).2) := by
  conv => lhs; unfold qL
  rw [if_neg (by decide)]
end
theorem qC_most {m : Int} {b : Bool} {bs : List Nat} (hm : 0 ≤ m) : ((qC m b bs).1 : Int) ≤ m := rdC_most hm
def qN := qC 999
def qH5 (a b c d f : Nat × Bool × List Nat) : HaT × Bool × List Nat := (⟨(a.1 : Int), (b.1 : Int), (c.1 : Int), (d.1 : Int) - 1, (f.1 : Int)⟩, f.2)
def qH (e : Bool) (bs : List Nat) : HaT × Bool × List Nat :=
  let a := qN e bs
  let b := qN a.2.1 a.2.2
  let c := qN b.2.1 b.2.2
  let d := qN c.2.1 c.2.2
  qH5 a b c d (qN d.2.1 d.2.2)
def qMe6 (n : Str × Bool × List Nat) (ps : List Ty' × Bool × List Nat) (r : Ty' × Bool × List Nat) (lo sk c : Nat × Bool × List Nat) : MeT × Bool × List Nat :=
  if c.2.1 = true ∨ c.2.2.length < c.1 then (⟨n.1, ps.1, r.1, (lo.1 : Int), (sk.1 : Int), [], []⟩, true, c.2.2)
  else (⟨n.1, ps.1, r.1, (lo.1 : Int), (sk.1 : Int), (getL (c.2.2.take c.1)).1, (qM qH 16 (decide ((getL (c.2.2.take c.1)).2 ≠ 0)) (c.2.2.drop c.1)).1⟩, (qM qH 16 (decide ((getL (c.2.2.take c.1)).2 ≠ 0)) (c.2.2.drop c.1)).2)
def qMe (e : Bool) (bs : List Nat) : MeT × Bool × List Nat :=
  let n := qT e bs
  let ps := qM qK 6 n.2.1 n.2.2
  let r := qK ps.2.1 ps.2.2
  let lo := qC 32 r.2.1 r.2.2
  let sk := qC 64 lo.2.1 lo.2.2
  qMe6 n ps r lo sk (qC sk.2.2.length sk.2.1 sk.2.2)
structure MQ (A A1 : AW) (fc fr : Nat) (v v' : AV) (e : Bool) (bs : List Nat) (f2 f3 N : Nat) (m : MeT) (pv cv hv : AV) : Prop where
  S : SQ A A1 fc fr v v' e bs f2 f3 zMe (mec m pv cv hv)
  p : Buf A1 2 pv m.params.length (m.params.flatMap tyc)
  c : Row A1 2 cv m.code.length (ics m.code)
  h : Buf A1 5 hv m.hands.length (m.hands.flatMap hac)
  op : ∀ g, pv.isFam g → N ≤ g
  oc : ∀ g, cv.isFam g → N ≤ g
  oh : ∀ g, hv.isFam g → N ≤ g
  hn : N ≤ A1.nxt
theorem MQ.read {A A1 A2 : AW} {fc fr : Nat} {v v1 v2 : AV} {e e1 : Bool} {bs b1 : List Nat} {f2 f3 N : Nat} {m : MeT} {pv cv hv : AV} (hlt : fc < A.nxt ∧ fr < A.nxt) (l2 : A.nxt ≤ f2) (l3 : A.nxt ≤ f3) (hN : A.nxt ≤ N)
    (h : MQ A A1 fc fr v v1 e bs f2 f3 N m pv cv hv) (k : QStep A1 A2 fc fr v1 v2 e1 b1) : MQ A A2 fc fr v v2 e1 b1 f2 f3 N m pv cv hv := by
  have key : ∀ {w : AV}, (∀ g, w.isFam g → N ≤ g) → Disj w.isFam (both (one fc) (one fr)) := fun hw g hg hb => by
    have := hw g hg
    rcases hb with hb | hb <;> cases hb <;> omega
  exact ⟨h.S.read hlt l2 l3 k, h.p.keep k.only (key h.op), h.c.keep k.only (key h.oc), h.h.keep k.only (key h.oh), h.op, h.oc, h.oh, Nat.le_trans h.hn k.only.nxt⟩
theorem MQ.put {A A1 : AW} {fc fr : Nat} {v v1 : AV} {e e0 : Bool} {bs b0 : List Nat} {f2 f3 N : Nat} {m m' : MeT} {pv cv hv pv' cv' hv' : AV} (hw : Wf A) (h0 : QS A fc fr v e0 b0) (l3 : A.nxt ≤ f3) (n23 : f2 ≠ f3) (s3 : f3 < N)
    (S : SQ A A1 fc fr v v1 e bs f2 f3 zMe (mec m pv cv hv)) (hn : N ≤ A1.nxt) (p : Buf A1 2 pv' m'.params.length (m'.params.flatMap tyc)) (c : Row A1 2 cv' m'.code.length (ics m'.code)) (h : Buf A1 5 hv' m'.hands.length (m'.hands.flatMap hac))
    (op : ∀ g, pv'.isFam g → N ≤ g) (oc : ∀ g, cv'.isFam g → N ≤ g) (oh : ∀ g, hv'.isFam g → N ≤ g) : MQ A (A1.put f3 (.cells 0 false 8 (mec m' pv' cv' hv'))) fc fr v v1 e bs f2 f3 N m' pv' cv' hv' := by
  have o3 := Only.put (x := .cells 0 false 8 (mec m' pv' cv' hv')) S.st.only.wf (S.st.only.wf _ _ S.h3)
  have key : ∀ {w : AV}, (∀ g, w.isFam g → N ≤ g) → Disj w.isFam (one f3) := fun hw g hg hb => by
    have := hw g hg
    cases hb
    omega
  exact ⟨S.put hw h0 l3 n23 rfl, p.keep o3 (key op), c.keep o3 (key oc), h.keep o3 (key oh), op, oc, oh, Nat.le_trans hn o3.nxt⟩
theorem MQ.keep {A A1 A2 : AW} {fc fr : Nat} {v v1 : AV} {e e0 : Bool} {bs b0 : List Nat} {f2 f3 N : Nat} {m : MeT} {pv cv hv : AV} {T : Nat → Prop} (hw : Wf A) (h0 : QS A fc fr v e0 b0) (h : MQ A A1 fc fr v v1 e bs f2 f3 N m pv cv hv) (o : Only A1 A2 T)
    (hT : ∀ g, T g → A.nxt ≤ g ∧ (g ≠ f2 ∧ g ≠ f3) ∧ ¬ pv.isFam g ∧ ¬ cv.isFam g ∧ ¬ hv.isFam g) : MQ A A2 fc fr v v1 e bs f2 f3 N m pv cv hv :=
  ⟨⟨h.S.st.fresh hw h0 o fun g hg => (hT g hg).1, o.keep _ _ h.S.h2 fun ht => (hT _ ht).2.1.1 rfl, o.keep _ _ h.S.h3 fun ht => (hT _ ht).2.1.2 rfl⟩, h.p.keep o fun g hg ht => (hT g ht).2.2.1 hg, h.c.keep o fun g hg ht => (hT g ht).2.2.2.1 hg, h.h.keep o fun g hg ht => (hT g ht).2.2.2.2 hg, h.op, h.oc, h.oh, Nat.le_trans h.hn o.nxt⟩
theorem SQ.grow {A A1 A2 : AW} {fc fr : Nat} {v v1 : AV} {e e0 : Bool} {bs b0 : List Nat} {f2 f3 N : Nat} {z cs : List AV} {T : Nat → Prop} (hw : Wf A) (h0 : QS A fc fr v e0 b0) (hN : A.nxt ≤ N) (s2 : f2 < N) (s3 : f3 < N) (h : SQ A A1 fc fr v v1 e bs f2 f3 z cs) (o : Only A1 A2 T) (hT : ∀ g, T g → N ≤ g) :
    SQ A A2 fc fr v v1 e bs f2 f3 z cs :=
  ⟨h.st.fresh hw h0 o fun g hg => Nat.le_trans hN (hT g hg), o.keep _ _ h.h2 fun ht => by have := hT _ ht; omega, o.keep _ _ h.h3 fun ht => by have := hT _ ht; omega⟩
theorem es_ne {A : AW} {v w : AV} {a b n k : Nat} {cs ds : List AV} (hab : a ≠ b) (h : Row A a v n cs) (k : Row A b w k ds) : Disj v.isFam w.isFam := fun g h1 h2 => by
  obtain ⟨t, ro, all, e1⟩ := row_fam h h1
  obtain ⟨t', ro', all', e2⟩ := row_fam k h2
  rw [e1] at e2
  cases e2
  exact hab rfl
theorem stillG {K : FuncId} {C : FnE} {l : Kn} {A : AW} {d : Option Tmp} {t : Tmp} {pos : String} {ty T : TypeId} {after : Array Edge} {gd : Option (Nat × Bool)} {f s o es : Nat} {ro : Bool} {cs : List AV} {v : AV} {dt : ATy} (ht : (ES K).tys.get T = some dt) (hg : dt.agg = false) (hl : l.find t = some (.ptr f s o)) (hf : A.heap.get f = some (.cells s ro es cs)) (hn : nth cs o = some v) (hv : valEq v v = true) :
    (∀ F, Kf C l F → execA (ES K) F ⟨d, .load T (.tmp t), ty, pos, after, gd⟩ A = .val v A) ∧ valEq v v = true := by
  refine ⟨fun F hF => ?_, hv⟩
  show liftR (loadA (ES K) T (ev F (.tmp t)) A) = _
  rw [hF.ev (x := .tmp t) (v := .ptr f s o) hl, loadA_eq (dt := dt) ht hg hf hn]
  rfl
set_option maxHeartbeats 4000000 in
theorem qmethod_spec {K : FuncId} {A : AW} {fc fr : Nat} {v : AV} {e : Bool} {bs : List Nat} (hw : Wf A) (h : QS A fc fr v e bs) :
    CallP (ES K) 29 [.ptr fc 0 0] A fun r A1 => (∃ pv cv hv, r = .agg (mec (qMe e bs).1 pv cv hv) ∧ MeR A1 A.nxt (qMe e bs).1 pv cv hv) ∧ ∃ v', QStep A A1 fc fr v v' (qMe e bs).2.1 (qMe e bs).2.2 := by
  refine call_of rfl rfl rfl ?_
  have hlt := h.lt hw
  unfold qMe
  repeat (first | refine qO ?_ | refine qA ?_)
  refine wo_alloc rfl rfl rfl ?_
  refine wo_A (fun A1 => Only A A1 none' ∧ A1.heap.get A.nxt = some (.cells 0 false 8 zMe)) ⟨Only.add hw _, by rw [AW.add_get, if_pos rfl]; rfl⟩ ?_
  rintro A1 ⟨o1, h2⟩
  generalize hf2 : A.nxt = f2 at h2
  have l2 : A.nxt ≤ f2 := by omega
  repeat (first | refine qO ?_ | refine qA ?_ | refine qG ?_ | refine qJ rfl rfl ?_)
  refine qU rfl rfl orc_cons rfl (qtext_spec o1.wf (h.keep o1)) ?_
  rintro r A2 ⟨rfl, v1, st1⟩
  generalize qT e bs = n at st1
  obtain ⟨n, e1, b1⟩ := n
  have st1 : QStep A1 A2 fc fr v v1 e1 b1 := st1
  simp only
  repeat refine wo_build rfl rfl rfl ?_
  refine wo_alloc rfl rfl rfl ?_
  refine qZ rfl rfl rfl rfl rfl rfl (by rw [AW.add_get, if_pos rfl]) rfl ?_
  refine wo_A (fun A3 => Only A2 A3 none' ∧ A3.heap.get A2.nxt = some (.cells 0 false 8 (mec ⟨n, [], (0, []), 0, 0, [], []⟩ .nils .nils .nils))) ⟨made st1.only.wf, by rw [AW.put_get, if_pos rfl]; rfl⟩ ?_
  rintro A3 ⟨o3, h3⟩
  have n23 : f2 ≠ A2.nxt := fun e => by
    have := st1.only.wf _ _ (st1.hold hlt h2 l2)
    omega
  have l3 := (st1.after o1).only.nxt
  generalize A2.nxt = f3 at h3 n23 l3
  have S : SQ A A3 fc fr v v1 e1 b1 f2 f3 zMe (mec ⟨n, [], (0, []), 0, 0, [], []⟩ .nils .nils .nils) := SQ.made hlt l2 o1 h2 st1 o3 h3
  have s2 := o3.wf _ _ S.h2
  have s3 := o3.wf _ _ S.h3
  have hN : A.nxt ≤ A3.nxt := S.st.only.nxt
  have nilB : ∀ {A : AW} {es : Nat}, Buf A es .nils 0 [] := .inl ⟨rfl, rfl, rfl⟩
  have I : MQ A A3 fc fr v v1 e1 b1 f2 f3 A3.nxt ⟨n, [], (0, []), 0, 0, [], []⟩ .nils .nils .nils := ⟨S, nilB, nilB.row, nilB, fun g h => h.elim, fun g h => h.elim, fun g h => h.elim, Nat.le_refl _⟩
  generalize A3.nxt = N at I hN s2 s3
  repeat (first | refine qO ?_ | refine qA ?_ | refine qG ?_ | refine qJ rfl rfl ?_)
  refine qU rfl rfl orc_cons rfl (qnum_spec (m := 6) I.S.st.only.wf I.S.st.ps (by decide) (by decide)) ?_
  rintro r A4 ⟨rfl, v4, st4⟩
  have I := I.read hlt l2 l3 hN st4
  have hm6 := qC_most (m := 6) (b := e1) (bs := b1) (by decide)
  unfold qM
  generalize qC 6 e1 b1 = q at I hm6
  obtain ⟨q, e4, b4⟩ := q
  have hm6 : (q : Int) ≤ 6 := hm6
  have I : MQ A A4 fc fr v v4 e4 b4 f2 f3 N ⟨n, [], (0, []), 0, 0, [], []⟩ .nils .nils .nils := I
  simp only
  repeat (first | refine qO ?_ | refine qY ?_ | refine qA ?_ | refine qG ?_ | refine qE rfl rfl ?_)
  refine wg_loop ?_
  refine wg_le (.put 0 (.ptr fc 0 0) (.put 2 (.ptr f2 0 0) (.put 3 (.ptr f3 0 0) (.put 4 (.int .i64 (q : Int)) (.put 5 (.int .i64 ((0 : Nat) : Int)) .nil))))) ?_ ⟨rfl, rfl, rfl, rfl, rfl, trivial⟩
  refine wg_ind (ι := List Ty' × AV × AV × Bool × List Nat) (fun i => q - i.1.length) (fun i => .put 0 (.ptr fc 0 0) (.put 2 (.ptr f2 0 0) (.put 3 (.ptr f3 0 0) (.put 4 (.int .i64 (q : Int)) (.put 5 (.int .i64 (i.1.length : Int)) .nil)))))
    (fun i A5 => MQ A A5 fc fr v i.2.2.1 i.2.2.2.1 i.2.2.2.2 f2 f3 N ⟨n, i.1, (0, []), 0, 0, [], []⟩ i.2.1 .nils .nils ∧ i.1.length ≤ q ∧ i.1 ++ (qL qK (q - i.1.length) i.2.2.2.1 i.2.2.2.2).1 = (qL qK q e4 b4).1 ∧ (qL qK (q - i.1.length) i.2.2.2.1 i.2.2.2.2).2 = (qL qK q e4 b4).2) ?_ ([], .nils, v4, e4, b4) A4 ⟨I, Nat.zero_le _, rfl, rfl⟩
  rintro ⟨acc, pv, v5, e5, b5⟩ A5 ⟨I, hle, hx1, hx2⟩ ih
  have I : MQ A A5 fc fr v v5 e5 b5 f2 f3 N ⟨n, acc, (0, []), 0, 0, [], []⟩ pv .nils .nils := I
  have hle : acc.length ≤ q := hle
  have hx1 : acc ++ (qL qK (q - acc.length) e5 b5).1 = (qL qK q e4 b4).1 := hx1
  have hx2 : (qL qK (q - acc.length) e5 b5).2 = (qL qK q e4 b4).2 := hx2
  have hc := I.S.st.ps.cell
  have done : qL qK (q - acc.length) e5 b5 = ([], e5, b5) → MQ A A5 fc fr v v5 (qL qK q e4 b4).2.1 (qL qK q e4 b4).2.2 f2 f3 N ⟨n, (qL qK q e4 b4).1, (0, []), 0, 0, [], []⟩ pv .nils .nils := fun h0 => by
    rw [h0] at hx1 hx2
    rw [← hx1, ← hx2, List.append_nil]
    exact I
  repeat refine qO ?_
  refine wg_regionTo (.put 0 (.ptr fc 0 0) (.put 2 (.ptr f2 0 0) (.put 3 (.ptr f3 0 0) (.put 4 (.int .i64 (q : Int)) (.put 5 (.int .i64 (acc.length : Int)) (.put 24 (.bool (decide ((acc.length : Int) < (q : Int) ∧ e5 = false))) .nil)))))) ?_ ?_
  · repeat (first | refine qJ rfl rfl ?_ | refine xM rfl rfl rfl ?_)
    by_cases hlq : (acc.length : Int) < (q : Int)
    · refine xA 18 true rfl (decide_eq_true hlq) ?_
      repeat (first | refine qG ?_ | refine qJ rfl rfl ?_ | refine qI rfl rfl rfl ?_ | refine qW rfl rfl ?_ | refine qP rfl rfl rfl rfl (by assumption) rfl ?_ | refine wo_not rfl rfl ?_ | refine qR rfl rfl rfl ?_ | refine qX rfl ?_)
      exact ⟨rfl, rfl, rfl, rfl, rfl, rfl, congrArg (fun x => some (AV.bool x)) (by cases e5 <;> simp [hlq]), trivial⟩
    · refine xA 18 false rfl (decide_eq_false hlq) ?_
      repeat (first | refine qG ?_ | refine qR rfl rfl rfl ?_ | refine xE rfl rfl ?_)
      exact ⟨rfl, rfl, rfl, rfl, rfl, rfl, congrArg (fun x => some (AV.bool x)) (by simp [hlq]), trivial⟩
  refine qV rfl (fun hgo => ?_) fun hgo => ?_
  · obtain ⟨hlq, hf⟩ := hgo
    have hk1 : q - acc.length = (q - (acc.length + 1)) + 1 := by omega
    subst hf
    rw [hk1, qL_next] at hx1 hx2
    repeat (first | refine qO ?_ | refine qS ?_ | refine qY ?_)
    have h3 := I.S.h3
    unfold mec at h3
    refine wg_draw rfl ?_
    repeat (first
      | (refine xC rfl rfl rfl rfl rfl ?_
         repeat (first | refine qG ?_ | refine qJ rfl rfl ?_ | refine qI rfl rfl rfl ?_)
         refine ⟨rfl, ?_⟩)
      | (refine xI rfl rfl rfl rfl rfl rfl rfl ?_
         repeat (first | refine qG ?_ | refine qP rfl rfl rfl rfl (by assumption) rfl ?_)
         refine ⟨rfl, _, rfl, ?_⟩))
    refine wd_act rfl rfl rfl ?_
    refine qU rfl rfl orc_cons rfl (qtyp_spec I.S.st.only.wf I.S.st.ps) ?_
    rintro r A6 ⟨rfl, v6, st6⟩
    have I := I.read hlt l2 l3 hN st6
    generalize qK false b5 = y at I hx1 hx2
    obtain ⟨y, e6, b6⟩ := y
    have I : MQ A A6 fc fr v v6 e6 b6 f2 f3 N ⟨n, acc, (0, []), 0, 0, [], []⟩ pv .nils .nils := I
    repeat refine qG ?_
    refine ⟨⟨.inr (stillG rfl rfl rfl I.S.h3 rfl (buf_still I.p)), trivial⟩, ?_⟩
    refine wd_make rfl rfl rfl rfl ?_
    refine wo_buildSlice rfl rfl rfl ?_
    repeat refine qG ?_
    refine wd_act rfl rfl rfl ?_
    refine wo_append rfl rfl rfl rfl rfl (append_one (n := acc.length) (de := d43) rfl rfl rfl rfl I.S.st.only.wf I.p rfl (by decide) (room_of (by omega) (by decide))) ?_
    intro pv' A7 g
    have S7 := I.S.grow hw h hN s2 s3 g.only I.op
    repeat refine qG ?_
    refine ⟨⟨.inl (by show bit 31 1 = true; rfl), trivial⟩, ?_⟩
    repeat (first
      | (refine xC rfl rfl rfl rfl rfl ?_
         repeat (first | refine qG ?_ | refine qI rfl rfl rfl ?_)
         refine ⟨rfl, ?_⟩))
    refine wd_act rfl rfl rfl ?_
    refine qZ rfl rfl g.buf.cells rfl rfl rfl S7.h3 rfl ?_
    refine wo_A (fun A8 => MQ A A8 fc fr v v6 e6 b6 f2 f3 N ⟨n, acc ++ [y], (0, []), 0, 0, [], []⟩ pv' .nils .nils) (MQ.put (m' := ⟨n, acc ++ [y], (0, []), 0, 0, [], []⟩) (pv' := pv') (cv' := .nils) (hv' := .nils) hw h l3 n23 s3 S7 (Nat.le_trans I.hn g.only.nxt) (by
      show Buf A7 2 pv' (acc ++ [y]).length ((acc ++ [y]).flatMap tyc)
      rw [List.length_append, List.length_singleton, List.flatMap_append]
      exact g.buf) nilB.row nilB (fun k hk => (g.grow k hk).elim (I.op k) fun h => Nat.le_trans I.hn h) (fun g h => h.elim) fun g h => h.elim) ?_
    intro A8 I
    repeat refine qG ?_
    refine ⟨⟨.inl (by show bit 127 1 = true; rfl), trivial⟩, wd_nil ?_⟩
    repeat (first | refine xB ?_ | refine qA ?_ | refine qJ rfl rfl ?_)
    refine wo_add rfl rfl rfl (by omega) (by omega) ?_
    repeat (first | refine qG ?_ | refine qE rfl rfl ?_)
    refine xN ?_
    refine wg_le (.put 0 (.ptr fc 0 0) (.put 2 (.ptr f2 0 0) (.put 3 (.ptr f3 0 0) (.put 4 (.int .i64 (q : Int)) (.put 5 (.int .i64 ((acc ++ [y]).length : Int)) .nil))))) ?_ ⟨rfl, rfl, rfl, rfl, by rw [List.length_append, List.length_singleton]; rfl, trivial⟩
    refine ih (acc ++ [y], pv', v6, e6, b6) A8 (by simp only [List.length_append, List.length_singleton]; omega) ⟨I, by simp only [List.length_append, List.length_singleton]; omega, ?_, ?_⟩
    · show (acc ++ [y]) ++ (qL qK (q - (acc ++ [y]).length) e6 b6).1 = _
      rw [List.length_append, List.length_singleton, ← hx1, List.append_assoc]
      rfl
    · show (qL qK (q - (acc ++ [y]).length) e6 b6).2 = _
      rw [List.length_append, List.length_singleton, ← hx2]
  have I := done (by
    by_cases hlq : (acc.length : Int) < (q : Int)
    · cases e5 with
      | true => exact qL_err qK
      | false => exact absurd ⟨hlq, rfl⟩ hgo
    · rw [show q - acc.length = 0 from by omega]
      rfl)
  refine wg_exit rfl ?_
  generalize qL qK q e4 b4 = ps at I
  obtain ⟨ps, e6, b6⟩ := ps
  have I : MQ A A5 fc fr v v5 e6 b6 f2 f3 N ⟨n, ps, (0, []), 0, 0, [], []⟩ pv .nils .nils := I
  simp only
  clear ih done hx1 hx2 hgo hle
  repeat (first | refine qO ?_ | refine qA ?_ | refine qJ rfl rfl ?_)
  refine qU rfl rfl orc_cons rfl (qtyp_spec I.S.st.only.wf I.S.st.ps) ?_
  rintro r A6 ⟨rfl, v6, st6⟩
  have I := I.read hlt l2 l3 hN st6
  generalize qK e6 b6 = rt at I
  obtain ⟨rt, e7, b7⟩ := rt
  have I : MQ A A6 fc fr v v6 e7 b7 f2 f3 N ⟨n, ps, (0, []), 0, 0, [], []⟩ pv .nils .nils := I
  simp only
  repeat refine qI rfl rfl rfl ?_
  refine qZ rfl rfl rfl rfl rfl rfl I.S.h3 rfl ?_
  refine wo_A (fun A7 => MQ A A7 fc fr v v6 e7 b7 f2 f3 N ⟨n, ps, rt, 0, 0, [], []⟩ pv .nils .nils) (MQ.put (m' := ⟨n, ps, rt, 0, 0, [], []⟩) (pv' := pv) (cv' := .nils) (hv' := .nils) hw h l3 n23 s3 I.S I.hn I.p I.c I.h I.op I.oc I.oh) ?_
  intro A7 I
  repeat (first | refine qO ?_ | refine qA ?_ | refine qG ?_ | refine qJ rfl rfl ?_)
  refine qU rfl rfl orc_cons rfl (qnum_spec (m := 32) I.S.st.only.wf I.S.st.ps (by decide) (by decide)) ?_
  rintro r A8 ⟨rfl, v8, st8⟩
  have I := I.read hlt l2 l3 hN st8
  generalize qC 32 e7 b7 = lo at I
  obtain ⟨lo, e8, b8⟩ := lo
  have I : MQ A A8 fc fr v v8 e8 b8 f2 f3 N ⟨n, ps, rt, 0, 0, [], []⟩ pv .nils .nils := I
  simp only
  repeat refine qI rfl rfl rfl ?_
  refine qZ rfl rfl rfl rfl rfl rfl I.S.h3 rfl ?_
  refine wo_A (fun A9 => MQ A A9 fc fr v v8 e8 b8 f2 f3 N ⟨n, ps, rt, (lo : Int), 0, [], []⟩ pv .nils .nils) (MQ.put (m' := ⟨n, ps, rt, (lo : Int), 0, [], []⟩) (pv' := pv) (cv' := .nils) (hv' := .nils) hw h l3 n23 s3 I.S I.hn I.p I.c I.h I.op I.oc I.oh) ?_
  intro A9 I
  repeat (first | refine qO ?_ | refine qA ?_ | refine qG ?_ | refine qJ rfl rfl ?_)
  refine qU rfl rfl orc_cons rfl (qnum_spec (m := 64) I.S.st.only.wf I.S.st.ps (by decide) (by decide)) ?_
  rintro r A10 ⟨rfl, v10, st10⟩
  have I := I.read hlt l2 l3 hN st10
  generalize qC 64 e8 b8 = sk at I
  obtain ⟨sk, e10, b10⟩ := sk
  have I : MQ A A10 fc fr v v10 e10 b10 f2 f3 N ⟨n, ps, rt, (lo : Int), 0, [], []⟩ pv .nils .nils := I
  simp only
  repeat refine qI rfl rfl rfl ?_
  refine qZ rfl rfl rfl rfl rfl rfl I.S.h3 rfl ?_
  refine wo_A (fun A11 => MQ A A11 fc fr v v10 e10 b10 f2 f3 N ⟨n, ps, rt, (lo : Int), (sk : Int), [], []⟩ pv .nils .nils) (MQ.put (m' := ⟨n, ps, rt, (lo : Int), (sk : Int), [], []⟩) (pv' := pv) (cv' := .nils) (hv' := .nils) hw h l3 n23 s3 I.S I.hn I.p I.c I.h I.op I.oc I.oh) ?_
  intro A11 I
  have hc := I.S.st.ps.cell
  have hrc := I.S.st.ps.rd.cell
  have hlen := I.S.st.ps.len
  repeat (first | refine qO ?_ | refine qA ?_ | refine qG ?_ | refine qJ rfl rfl ?_ | refine qI rfl rfl rfl ?_ | refine qW rfl rfl ?_ | refine qP rfl rfl rfl rfl (by assumption) rfl ?_)
  refine xJ rfl rfl rfl I.S.st.ps.rd.full.row.lenV ?_
  refine qU rfl rfl orc_cons rfl (qnum_spec (m := (b10.length : Int)) I.S.st.only.wf I.S.st.ps (by omega) (by omega)) ?_
  rintro r A12 ⟨rfl, v12, st12⟩
  have I := I.read hlt l2 l3 hN st12
  unfold qMe6
  generalize qC (b10.length : Int) e10 b10 = cc at I
  obtain ⟨cc, e12, b12⟩ := cc
  have I : MQ A A12 fc fr v v12 e12 b12 f2 f3 N ⟨n, ps, rt, (lo : Int), (sk : Int), [], []⟩ pv .nils .nils := I
  simp only
  have hc := I.S.st.ps.cell
  have hrc := I.S.st.ps.rd.cell
  have hlen := I.S.st.ps.len
  repeat (first | refine qG ?_ | refine qE rfl rfl ?_)
  repeat refine qO ?_
  refine wg_regionTo (.put 0 (.ptr fc 0 0) (.put 2 (.ptr f2 0 0) (.put 3 (.ptr f3 0 0) (.put 4 (.int .i64 (cc : Int)) (.put 68 (.bool (decide (e12 = true ∨ b12.length < cc))) .nil))))) ?_ ?_
  · repeat (first | refine qJ rfl rfl ?_ | refine qI rfl rfl rfl ?_ | refine qW rfl rfl ?_ | refine qP rfl rfl rfl rfl (by assumption) rfl ?_)
    cases e12 with
    | true =>
      repeat (first | refine qG ?_ | refine qR rfl rfl rfl ?_ | refine xE rfl rfl ?_)
      exact ⟨rfl, rfl, rfl, rfl, rfl, congrArg (fun x => some (AV.bool x)) (decide_eq_true (.inl rfl)).symm, trivial⟩
    | false =>
      repeat (first | refine qJ rfl rfl ?_ | refine qI rfl rfl rfl ?_ | refine qW rfl rfl ?_ | refine qP rfl rfl rfl rfl (by assumption) rfl ?_ | refine qX rfl ?_)
      refine xJ rfl rfl rfl I.S.st.ps.rd.full.row.lenV ?_
      repeat (first | refine qG ?_ | refine wo_gtr rfl rfl rfl ?_ | refine qR rfl rfl rfl ?_ | refine qX rfl ?_)
      exact ⟨rfl, rfl, rfl, rfl, rfl, congrArg (fun x => some (AV.bool x)) (decide_eq_decide.2 ⟨fun h => .inr (Int.ofNat_lt.1 h), fun h => Int.ofNat_lt.2 (h.resolve_left (by decide))⟩), trivial⟩
  refine qV rfl (fun hbad => ?_) fun hbad => ?_
  · rw [if_pos hbad]
    repeat (first | refine qO ?_ | refine qA ?_ | refine qJ rfl rfl ?_ | refine qI rfl rfl rfl ?_ | refine qW rfl rfl ?_)
    refine qZ rfl rfl rfl rfl rfl rfl hc rfl ?_
    refine wo_A (fun A13 => MQ A A13 fc fr v v12 true b12 f2 f3 N ⟨n, ps, rt, (lo : Int), (sk : Int), [], []⟩ pv .nils .nils) (I.read hlt l2 l3 hN (QStep.err (e1 := true) I.S.st.only.wf I.S.st.ps)) ?_
    intro A13 I
    have h2 := I.S.h2
    have h3 := I.S.h3
    unfold mec at h3
    repeat (first | refine qO ?_ | refine qA ?_ | refine qG ?_)
    refine xG rfl rfl rfl rfl h3 rfl ?_
    refine qZ rfl rfl rfl rfl rfl rfl h2 rfl ?_
    repeat refine qG ?_
    refine wg_ret1 rfl rfl (loadN_eq rfl rfl (by rw [AW.put_get, if_pos rfl]) rfl) ?_
    have op2 := Only.put (x := .cells 0 false 8 (mec ⟨n, ps, rt, (lo : Int), (sk : Int), [], []⟩ pv .nils .nils)) I.S.st.only.wf (I.S.st.only.wf _ _ h2)
    have hN' : f2 ≤ N := by omega
    exact ⟨⟨pv, .nils, .nils, rfl, ⟨I.p.row.keep op2 fun g hg e => by have := I.op g hg; cases e; omega, nilB.row, nilB.row, fun g hg => Nat.le_trans hN' (I.op g hg), fun g hg => hg.elim, fun g hg => hg.elim⟩⟩, v12, I.S.done hw h l2⟩
  rw [if_neg hbad]
  have hf : e12 = false := by
    cases e12 with
    | true => exact absurd (.inl rfl) hbad
    | false => rfl
  have hcl : cc ≤ b12.length := Nat.le_of_not_lt fun h => hbad (.inr h)
  subst hf
  repeat (first | refine qO ?_ | refine qS ?_ | refine qA ?_ | refine qJ rfl rfl ?_ | refine qI rfl rfl rfl ?_ | refine qW rfl rfl ?_ | refine qP rfl rfl rfl rfl (by assumption) rfl ?_)
  obtain ⟨y, hs1, hy, _⟩ := Full.take (E := ES K) (t := 22) (d := d22) (e := 5) (de := d5) (k := cc) (kk := .i64) rfl rfl rfl I.S.st.ps.rd.full hcl
  refine wo_slice (Q := fun r => r = y) rfl rfl rfl rfl rfl ⟨y, hs1, rfl⟩ ?_
  rintro r rfl
  have htl : (b12.take cc).length = cc := by rw [List.length_take]; omega
  have hy : Full A12 1 r (b12.take cc).length (bys (b12.take cc)) := by
    have : Row A12 1 r cc ((bys b12).take (cc * 1)) := hy
    rw [htl]
    unfold bys at this ⊢
    rw [List.map_take, ← Nat.mul_one cc]
    rw [Nat.mul_one] at this ⊢
    exact this
  refine qU rfl rfl orc_cons rfl (rget_spec (bs := b12.take cc) I.S.st.only.wf hy (by rw [htl]; omega) fun b hb => I.S.st.ps.rd.lt b (List.mem_of_mem_take hb)) ?_
  rintro r A13 ⟨cv, rfl, hcv, o13, gcv⟩
  have oc : ∀ g, cv.isFam g → N ≤ g := fun g hg => Nat.le_trans I.hn ((gcv g hg).resolve_left fun h => h)
  have I := I.keep hw h o13 fun g hg => hg.elim
  generalize getL (b12.take cc) = co at hcv
  obtain ⟨co, ce⟩ := co
  have hcv : Buf A13 2 cv co.length (ics co) := hcv
  simp only
  have hc := I.S.st.ps.cell
  repeat (first | refine qO ?_ | refine qA ?_ | refine qG ?_ | refine qJ rfl rfl ?_ | refine qE rfl rfl ?_ | refine qI rfl rfl rfl ?_ | refine qW rfl rfl ?_ | refine xK rfl rfl rfl ?_ | refine qP rfl rfl rfl rfl (by assumption) rfl ?_ | refine xL rfl rfl rfl ?_ | refine qR rfl rfl rfl ?_ | refine qX rfl ?_)
  refine qZ rfl rfl rfl rfl rfl rfl hc rfl ?_
  refine wo_A (fun A14 => MQ A A14 fc fr v v12 (decide (ce ≠ 0)) b12 f2 f3 N ⟨n, ps, rt, (lo : Int), (sk : Int), [], []⟩ pv .nils .nils ∧ Buf A14 2 cv co.length (ics co)) ⟨I.read hlt l2 l3 hN (QStep.err (e1 := decide (ce ≠ 0)) I.S.st.only.wf I.S.st.ps), hcv.keep (QStep.err (e1 := decide (ce ≠ 0)) I.S.st.only.wf I.S.st.ps).only fun g hg hb => by have := oc g hg; rcases hb with hb | hb <;> cases hb <;> omega⟩ ?_
  rintro A14 ⟨I, hcv⟩
  repeat (first | refine qO ?_ | refine qA ?_ | refine qG ?_ | refine qJ rfl rfl ?_ | refine qI rfl rfl rfl ?_)
  refine qZ rfl rfl hcv.cells rfl rfl rfl I.S.h3 rfl ?_
  refine wo_A (fun A15 => MQ A A15 fc fr v v12 (decide (ce ≠ 0)) b12 f2 f3 N ⟨n, ps, rt, (lo : Int), (sk : Int), co, []⟩ pv cv .nils) (MQ.put (m' := ⟨n, ps, rt, (lo : Int), (sk : Int), co, []⟩) (pv' := pv) (cv' := cv) (hv' := .nils) hw h l3 n23 s3 I.S I.hn I.p hcv.row I.h I.op oc I.oh) ?_
  intro A15 I
  have hc := I.S.st.ps.cell
  have hrc := I.S.st.ps.rd.cell
  obtain ⟨y2, hs2, hy2, hy3⟩ := Full.drop (E := ES K) (t := 22) (d := d22) (e := 5) (de := d5) (k := cc) (kk := .i64) rfl rfl rfl I.S.st.ps.rd.full hcl
  have hy2 : Full A15 1 y2 (b12.drop cc).length (bys (b12.drop cc)) := by
    have : Full A15 1 y2 (b12.length - cc) ((bys b12).drop (cc * 1)) := hy2
    rw [List.length_drop]
    unfold bys at this ⊢
    rw [List.map_drop]
    rw [Nat.mul_one] at this
    exact this
  repeat (first | refine qO ?_ | refine qG ?_)
  refine wg_draw rfl ?_
  repeat (first
    | (refine xC rfl rfl rfl rfl rfl ?_
       repeat (first | refine qG ?_ | refine qJ rfl rfl ?_ | refine qI rfl rfl rfl ?_ | refine qW rfl rfl ?_)
       refine ⟨rfl, ?_⟩)
    | (refine xI rfl rfl rfl rfl rfl rfl rfl ?_
       repeat (first | refine qG ?_ | refine qP rfl rfl rfl rfl (by assumption) rfl ?_)
       refine ⟨rfl, _, rfl, ?_⟩))
  refine xI rfl rfl rfl rfl rfl rfl rfl ?_
  refine wo_slice (Q := fun r => r = y2) rfl rfl rfl rfl rfl ⟨y2, hs2, rfl⟩ ?_
  rintro r rfl
  repeat refine qG ?_
  refine ⟨rfl, _, rfl, ?_⟩
  repeat (first
    | (refine xC rfl rfl rfl rfl rfl ?_
       repeat (first | refine qG ?_ | refine qI rfl rfl rfl ?_ | refine qW rfl rfl ?_)
       refine ⟨rfl, ?_⟩))
  refine wd_act rfl rfl rfl ?_
  refine qZ rfl rfl hy2.cells rfl rfl rfl hrc rfl ?_
  refine wo_A (fun A16 => MQ A A16 fc fr v r (decide (ce ≠ 0)) (b12.drop cc) f2 f3 N ⟨n, ps, rt, (lo : Int), (sk : Int), co, []⟩ pv cv .nils) (I.read hlt l2 l3 hN (QStep.rd I.S.st.ps (Rd.store I.S.st.only.wf I.S.st.ps.rd hy2 hy3 fun b hb => I.S.st.ps.rd.lt b (List.mem_of_mem_drop hb)) drop_le)) ?_
  intro A16 I
  repeat refine qG ?_
  refine ⟨⟨.inl (by show bit 32767 12 = true; rfl), .inl (by show bit 32767 10 = true; rfl), .inl (by show bit 32767 7 = true; rfl), .inl (by show bit 32767 3 = true; rfl), trivial⟩, wd_nil ?_⟩
  repeat (first | refine qO ?_ | refine qA ?_ | refine qJ rfl rfl ?_)
  refine qU rfl rfl orc_cons rfl (qnum_spec (m := 16) I.S.st.only.wf I.S.st.ps (by decide) (by decide)) ?_
  rintro r' A17 ⟨rfl, v17, st17⟩
  have I := I.read hlt l2 l3 hN st17
  have hm16 := qC_most (m := 16) (b := decide (ce ≠ 0)) (bs := b12.drop cc) (by decide)
  unfold qM
  generalize qC 16 (decide (ce ≠ 0)) (b12.drop cc) = q2 at I hm16
  obtain ⟨q2, e17, b17⟩ := q2
  have hm16 : (q2 : Int) ≤ 16 := hm16
  have I : MQ A A17 fc fr v v17 e17 b17 f2 f3 N ⟨n, ps, rt, (lo : Int), (sk : Int), co, []⟩ pv cv .nils := I
  simp only
  repeat (first | refine qO ?_ | refine qY ?_ | refine qA ?_ | refine qG ?_ | refine qE rfl rfl ?_)
  refine wg_loop ?_
  refine wg_le (.put 0 (.ptr fc 0 0) (.put 2 (.ptr f2 0 0) (.put 3 (.ptr f3 0 0) (.put 4 (.int .i64 (q2 : Int)) (.put 8 (.int .i64 ((0 : Nat) : Int)) .nil))))) ?_ ⟨rfl, rfl, rfl, rfl, rfl, trivial⟩
  refine wg_ind (ι := List HaT × AV × AV × Bool × List Nat) (fun i => q2 - i.1.length) (fun i => .put 0 (.ptr fc 0 0) (.put 2 (.ptr f2 0 0) (.put 3 (.ptr f3 0 0) (.put 4 (.int .i64 (q2 : Int)) (.put 8 (.int .i64 (i.1.length : Int)) .nil)))))
    (fun i A5 => MQ A A5 fc fr v i.2.2.1 i.2.2.2.1 i.2.2.2.2 f2 f3 N ⟨n, ps, rt, (lo : Int), (sk : Int), co, i.1⟩ pv cv i.2.1 ∧ i.1.length ≤ q2 ∧ i.1 ++ (qL qH (q2 - i.1.length) i.2.2.2.1 i.2.2.2.2).1 = (qL qH q2 e17 b17).1 ∧ (qL qH (q2 - i.1.length) i.2.2.2.1 i.2.2.2.2).2 = (qL qH q2 e17 b17).2) ?_ ([], .nils, v17, e17, b17) A17 ⟨I, Nat.zero_le _, rfl, rfl⟩
  rintro ⟨acc, hv, vq, eq, bq⟩ A18 ⟨I, hle, hx1, hx2⟩ ih
  have I : MQ A A18 fc fr v vq eq bq f2 f3 N ⟨n, ps, rt, (lo : Int), (sk : Int), co, acc⟩ pv cv hv := I
  have hle : acc.length ≤ q2 := hle
  have hx1 : acc ++ (qL qH (q2 - acc.length) eq bq).1 = (qL qH q2 e17 b17).1 := hx1
  have hx2 : (qL qH (q2 - acc.length) eq bq).2 = (qL qH q2 e17 b17).2 := hx2
  have hc := I.S.st.ps.cell
  have done : qL qH (q2 - acc.length) eq bq = ([], eq, bq) → MQ A A18 fc fr v vq (qL qH q2 e17 b17).2.1 (qL qH q2 e17 b17).2.2 f2 f3 N ⟨n, ps, rt, (lo : Int), (sk : Int), co, (qL qH q2 e17 b17).1⟩ pv cv hv := fun h0 => by
    rw [h0] at hx1 hx2
    rw [← hx1, ← hx2, List.append_nil]
    exact I
  repeat refine qO ?_
  refine wg_regionTo (.put 0 (.ptr fc 0 0) (.put 2 (.ptr f2 0 0) (.put 3 (.ptr f3 0 0) (.put 4 (.int .i64 (q2 : Int)) (.put 8 (.int .i64 (acc.length : Int)) (.put 125 (.bool (decide ((acc.length : Int) < (q2 : Int) ∧ eq = false))) .nil)))))) ?_ ?_
  · repeat (first | refine qJ rfl rfl ?_ | refine xM rfl rfl rfl ?_)
    by_cases hlq : (acc.length : Int) < (q2 : Int)
    · refine xA 119 true rfl (decide_eq_true hlq) ?_
      repeat (first | refine qG ?_ | refine qJ rfl rfl ?_ | refine qI rfl rfl rfl ?_ | refine qW rfl rfl ?_ | refine qP rfl rfl rfl rfl (by assumption) rfl ?_ | refine wo_not rfl rfl ?_ | refine qR rfl rfl rfl ?_ | refine qX rfl ?_)
      exact ⟨rfl, rfl, rfl, rfl, rfl, rfl, congrArg (fun x => some (AV.bool x)) (by cases eq <;> simp [hlq]), trivial⟩
    · refine xA 119 false rfl (decide_eq_false hlq) ?_
      repeat (first | refine qG ?_ | refine qR rfl rfl rfl ?_ | refine xE rfl rfl ?_)
      exact ⟨rfl, rfl, rfl, rfl, rfl, rfl, congrArg (fun x => some (AV.bool x)) (by simp [hlq]), trivial⟩
  refine qV rfl (fun hgo => ?_) fun hgo => ?_
  · obtain ⟨hlq, hf⟩ := hgo
    have hk1 : q2 - acc.length = (q2 - (acc.length + 1)) + 1 := by omega
    subst hf
    rw [hk1, qL_next] at hx1 hx2
    clear done
    repeat (first | refine qO ?_ | refine qS ?_ | refine qY ?_ | refine qA ?_ | refine qJ rfl rfl ?_)
    refine qU rfl rfl orc_cons rfl (qnum_spec (m := 999) I.S.st.only.wf I.S.st.ps (by decide) (by decide)) ?_
    rintro r P0 ⟨rfl, x0, stx⟩
    have I := I.read hlt l2 l3 hN stx
    have hlt0 : (qC 999 false bq).1 < 9223372036854775808 := (rdC_le (most := 999) (bs := bq) (by decide)).1
    generalize hq0 : qC 999 false bq = y0 at I hlt0
    obtain ⟨a0, d0, g0⟩ := y0
    have hlt0 : a0 < 9223372036854775808 := hlt0
    have I : MQ A P0 fc fr v x0 d0 g0 f2 f3 N ⟨n, ps, rt, (lo : Int), (sk : Int), co, acc⟩ pv cv hv := I
    simp only
    repeat refine wo_build rfl rfl rfl ?_
    refine wo_alloc rfl rfl rfl ?_
    refine qZ rfl rfl rfl rfl rfl rfl (by rw [AW.add_get, if_pos rfl]) rfl ?_
    refine wo_A (fun Q0 => Only P0 Q0 none' ∧ Q0.heap.get P0.nxt = some (.cells 0 false 5 (hac ⟨(a0 : Int), 0, 0, 0, 0⟩))) ⟨made I.S.st.only.wf, by rw [AW.put_get, if_pos rfl]; rfl⟩ ?_
    rintro Q0 ⟨oq, h9⟩
    have n9 : A.nxt ≤ P0.nxt ∧ (P0.nxt ≠ f2 ∧ P0.nxt ≠ f3) ∧ ¬ pv.isFam P0.nxt ∧ ¬ cv.isFam P0.nxt ∧ ¬ hv.isFam P0.nxt := by
      have w := I.S.st.only.wf
      have u1 := w _ _ I.S.h2
      have u2 := w _ _ I.S.h3
      refine ⟨I.S.st.only.nxt, ⟨by omega, by omega⟩, fun k => ?_, fun k => ?_, fun k => ?_⟩
      · have := I.p.row.under w _ k; omega
      · have := I.c.under w _ k; omega
      · have := I.h.row.under w _ k; omega
    generalize P0.nxt = f9 at h9 n9
    have l9 := n9.1
    have I := I.keep hw h oq fun g hg => hg.elim
    repeat (first | refine qO ?_ | refine qA ?_ | refine qG ?_ | refine qJ rfl rfl ?_)
    refine qU rfl rfl orc_cons rfl (qnum_spec (m := 999) I.S.st.only.wf I.S.st.ps (by decide) (by decide)) ?_
    rintro r P1 ⟨rfl, x1, stx⟩
    have I := I.read hlt l2 l3 hN stx
    have h9 := stx.hold hlt h9 l9
    have hlt1 : (qC 999 d0 g0).1 < 9223372036854775808 := (rdC_le (most := 999) (bs := g0) (by decide)).1
    generalize hq1 : qC 999 d0 g0 = y1 at I hlt1
    obtain ⟨a1, d1, g1⟩ := y1
    have hlt1 : a1 < 9223372036854775808 := hlt1
    have I : MQ A P1 fc fr v x1 d1 g1 f2 f3 N ⟨n, ps, rt, (lo : Int), (sk : Int), co, acc⟩ pv cv hv := I
    simp only
    unfold hac at h9
    repeat refine qI rfl rfl rfl ?_
    refine qZ rfl rfl rfl rfl rfl rfl h9 rfl ?_
    refine wo_A (fun Q1 => MQ A Q1 fc fr v x1 d1 g1 f2 f3 N ⟨n, ps, rt, (lo : Int), (sk : Int), co, acc⟩ pv cv hv ∧ Q1.heap.get f9 = some (.cells 0 false 5 (hac ⟨(a0 : Int), (a1 : Int), 0, 0, 0⟩))) ⟨I.keep hw h (Only.put I.S.st.only.wf (I.S.st.only.wf _ _ h9)) fun g hg => by cases hg; exact n9, by rw [AW.put_get, if_pos rfl]; rfl⟩ ?_
    rintro Q1 ⟨I, h9⟩
    repeat (first | refine qO ?_ | refine qA ?_ | refine qG ?_ | refine qJ rfl rfl ?_)
    refine qU rfl rfl orc_cons rfl (qnum_spec (m := 999) I.S.st.only.wf I.S.st.ps (by decide) (by decide)) ?_
    rintro r P2 ⟨rfl, x2, stx⟩
    have I := I.read hlt l2 l3 hN stx
    have h9 := stx.hold hlt h9 l9
    have hlt2 : (qC 999 d1 g1).1 < 9223372036854775808 := (rdC_le (most := 999) (bs := g1) (by decide)).1
    generalize hq2 : qC 999 d1 g1 = y2 at I hlt2
    obtain ⟨a2, d2, g2⟩ := y2
    have hlt2 : a2 < 9223372036854775808 := hlt2
    have I : MQ A P2 fc fr v x2 d2 g2 f2 f3 N ⟨n, ps, rt, (lo : Int), (sk : Int), co, acc⟩ pv cv hv := I
    simp only
    unfold hac at h9
    repeat refine qI rfl rfl rfl ?_
    refine qZ rfl rfl rfl rfl rfl rfl h9 rfl ?_
    refine wo_A (fun Q2 => MQ A Q2 fc fr v x2 d2 g2 f2 f3 N ⟨n, ps, rt, (lo : Int), (sk : Int), co, acc⟩ pv cv hv ∧ Q2.heap.get f9 = some (.cells 0 false 5 (hac ⟨(a0 : Int), (a1 : Int), (a2 : Int), 0, 0⟩))) ⟨I.keep hw h (Only.put I.S.st.only.wf (I.S.st.only.wf _ _ h9)) fun g hg => by cases hg; exact n9, by rw [AW.put_get, if_pos rfl]; rfl⟩ ?_
    rintro Q2 ⟨I, h9⟩
    repeat (first | refine qO ?_ | refine qA ?_ | refine qG ?_ | refine qJ rfl rfl ?_)
    refine qU rfl rfl orc_cons rfl (qnum_spec (m := 999) I.S.st.only.wf I.S.st.ps (by decide) (by decide)) ?_
    rintro r P3 ⟨rfl, x3, stx⟩
    have I := I.read hlt l2 l3 hN stx
    have h9 := stx.hold hlt h9 l9
    have hlt3 : (qC 999 d2 g2).1 < 9223372036854775808 := (rdC_le (most := 999) (bs := g2) (by decide)).1
    generalize hq3 : qC 999 d2 g2 = y3 at I hlt3
    obtain ⟨a3, d3, g3⟩ := y3
    have hlt3 : a3 < 9223372036854775808 := hlt3
    have I : MQ A P3 fc fr v x3 d3 g3 f2 f3 N ⟨n, ps, rt, (lo : Int), (sk : Int), co, acc⟩ pv cv hv := I
    simp only
    refine wo_sub rfl rfl rfl (by omega) (by omega) ?_
    unfold hac at h9
    repeat refine qI rfl rfl rfl ?_
    refine qZ rfl rfl rfl rfl rfl rfl h9 rfl ?_
    refine wo_A (fun Q3 => MQ A Q3 fc fr v x3 d3 g3 f2 f3 N ⟨n, ps, rt, (lo : Int), (sk : Int), co, acc⟩ pv cv hv ∧ Q3.heap.get f9 = some (.cells 0 false 5 (hac ⟨(a0 : Int), (a1 : Int), (a2 : Int), (a3 : Int) - 1, 0⟩))) ⟨I.keep hw h (Only.put I.S.st.only.wf (I.S.st.only.wf _ _ h9)) fun g hg => by cases hg; exact n9, by rw [AW.put_get, if_pos rfl]; rfl⟩ ?_
    rintro Q3 ⟨I, h9⟩
    repeat (first | refine qO ?_ | refine qA ?_ | refine qG ?_ | refine qJ rfl rfl ?_)
    refine qU rfl rfl orc_cons rfl (qnum_spec (m := 999) I.S.st.only.wf I.S.st.ps (by decide) (by decide)) ?_
    rintro r P4 ⟨rfl, x4, stx⟩
    have I := I.read hlt l2 l3 hN stx
    have h9 := stx.hold hlt h9 l9
    have hlt4 : (qC 999 d3 g3).1 < 9223372036854775808 := (rdC_le (most := 999) (bs := g3) (by decide)).1
    generalize hq4 : qC 999 d3 g3 = y4 at I hlt4
    obtain ⟨a4, d4, g4⟩ := y4
    have hlt4 : a4 < 9223372036854775808 := hlt4
    have I : MQ A P4 fc fr v x4 d4 g4 f2 f3 N ⟨n, ps, rt, (lo : Int), (sk : Int), co, acc⟩ pv cv hv := I
    simp only
    unfold hac at h9
    repeat refine qI rfl rfl rfl ?_
    refine qZ rfl rfl rfl rfl rfl rfl h9 rfl ?_
    refine wo_A (fun Q4 => MQ A Q4 fc fr v x4 d4 g4 f2 f3 N ⟨n, ps, rt, (lo : Int), (sk : Int), co, acc⟩ pv cv hv ∧ Q4.heap.get f9 = some (.cells 0 false 5 (hac ⟨(a0 : Int), (a1 : Int), (a2 : Int), (a3 : Int) - 1, (a4 : Int)⟩))) ⟨I.keep hw h (Only.put I.S.st.only.wf (I.S.st.only.wf _ _ h9)) fun g hg => by cases hg; exact n9, by rw [AW.put_get, if_pos rfl]; rfl⟩ ?_
    rintro Q4 ⟨I, h9⟩
    have hy : qH false bq = (⟨(a0 : Int), (a1 : Int), (a2 : Int), (a3 : Int) - 1, (a4 : Int)⟩, d4, g4) := by
      unfold qH qN
      simp only [hq0, hq1, hq2, hq3, hq4]
      rfl
    rw [hy] at hx1 hx2
    have h3 := I.S.h3
    unfold mec at h3
    repeat (first | refine qA ?_ | refine qG ?_ | refine qI rfl rfl rfl ?_ | refine qP rfl rfl rfl rfl (by assumption) rfl ?_)
    refine xG (vs := hac ⟨(a0 : Int), (a1 : Int), (a2 : Int), (a3 : Int) - 1, (a4 : Int)⟩) rfl rfl rfl rfl h9 rfl ?_
    generalize (⟨(a0 : Int), (a1 : Int), (a2 : Int), (a3 : Int) - 1, (a4 : Int)⟩ : HaT) = z at hx1
    repeat refine wo_buildSlice rfl rfl rfl ?_
    refine wo_append rfl rfl rfl rfl rfl (append_one (n := acc.length) (de := d88) rfl rfl rfl rfl I.S.st.only.wf I.h rfl (by decide) (room_of (by omega) (by decide))) ?_
    intro hv' A19 gr
    have S7 := I.S.grow hw h hN s2 s3 gr.only I.oh
    repeat refine qI rfl rfl rfl ?_
    refine qZ rfl rfl gr.buf.cells rfl rfl rfl S7.h3 rfl ?_
    refine wo_A (fun A20 => MQ A A20 fc fr v x4 d4 g4 f2 f3 N ⟨n, ps, rt, (lo : Int), (sk : Int), co, acc ++ [z]⟩ pv cv hv') (MQ.put (m' := ⟨n, ps, rt, (lo : Int), (sk : Int), co, acc ++ [z]⟩) (pv' := pv) (cv' := cv) (hv' := hv') hw h l3 n23 s3 S7 (Nat.le_trans I.hn gr.only.nxt) (I.p.keep gr.only (es_ne (by decide) I.p.row I.h.row)) (I.c.keep gr.only (es_ne (by decide) I.c I.h.row)) (by
      show Buf A19 5 hv' (acc ++ [z]).length ((acc ++ [z]).flatMap hac)
      rw [List.length_append, List.length_singleton, List.flatMap_append]
      exact gr.buf) I.op I.oc fun k hk => (gr.grow k hk).elim (I.oh k) fun h => Nat.le_trans I.hn h) ?_
    intro A20 I
    repeat (first | refine xB ?_ | refine qA ?_ | refine qG ?_ | refine qJ rfl rfl ?_)
    refine wo_add rfl rfl rfl (by omega) (by omega) ?_
    repeat (first | refine qG ?_ | refine qE rfl rfl ?_)
    refine xN ?_
    refine wg_le (.put 0 (.ptr fc 0 0) (.put 2 (.ptr f2 0 0) (.put 3 (.ptr f3 0 0) (.put 4 (.int .i64 (q2 : Int)) (.put 8 (.int .i64 ((acc ++ [z]).length : Int)) .nil))))) ?_ ⟨rfl, rfl, rfl, rfl, by rw [List.length_append, List.length_singleton]; rfl, trivial⟩
    refine ih (acc ++ [z], hv', x4, d4, g4) A20 (by simp only [List.length_append, List.length_singleton]; omega) ⟨I, by simp only [List.length_append, List.length_singleton]; omega, ?_, ?_⟩
    · show (acc ++ [z]) ++ (qL qH (q2 - (acc ++ [z]).length) d4 g4).1 = _
      rw [List.length_append, List.length_singleton, ← hx1, List.append_assoc]
      rfl
    · show (qL qH (q2 - (acc ++ [z]).length) d4 g4).2 = _
      rw [List.length_append, List.length_singleton, ← hx2]
  have I := done (by
    by_cases hlq : (acc.length : Int) < (q2 : Int)
    · cases eq with
      | true => exact qL_err qH
      | false => exact absurd ⟨hlq, rfl⟩ hgo
    · rw [show q2 - acc.length = 0 from by omega]
      rfl)
  refine wg_exit rfl ?_
  generalize qL qH q2 e17 b17 = hs at I
  obtain ⟨hs, e21, b21⟩ := hs
  have I : MQ A A18 fc fr v vq e21 b21 f2 f3 N ⟨n, ps, rt, (lo : Int), (sk : Int), co, hs⟩ pv cv hv := I
  simp only
  have h2 := I.S.h2
  have h3 := I.S.h3
  unfold mec at h3
  repeat (first | refine qO ?_ | refine qA ?_)
  refine xG rfl rfl rfl rfl h3 rfl ?_
  refine qZ rfl rfl rfl rfl rfl rfl h2 rfl ?_
  repeat refine qG ?_
  refine wg_ret1 rfl rfl (loadN_eq rfl rfl (by rw [AW.put_get, if_pos rfl]) rfl) ?_
  have op2 := Only.put (x := .cells 0 false 8 (mec ⟨n, ps, rt, (lo : Int), (sk : Int), co, hs⟩ pv cv hv)) I.S.st.only.wf (I.S.st.only.wf _ _ h2)
  have hN' : f2 ≤ N := by omega
  have key : ∀ {w : AV}, (∀ g, w.isFam g → N ≤ g) → Disj w.isFam (one f2) := fun hw g hg e => by
    have := hw g hg
    cases e
    omega
  exact ⟨⟨pv, cv, hv, rfl, ⟨I.p.row.keep op2 (key I.op), I.c.keep op2 (key I.oc), I.h.row.keep op2 (key I.oh), fun g hg => Nat.le_trans hN' (I.op g hg), fun g hg => Nat.le_trans hN' (I.oc g hg), fun g hg => Nat.le_trans hN' (I.oh g hg)⟩⟩, vq, I.S.done hw h l2⟩
end Go.Proofs.YtiecclkgjcnaoaaGreat.Ae
