/-
  THE DOCUMENT'S READER OF CLASSES, by the rules: text, num, byt, typ, constant.
  THE DOCUMENT'S READER OF CLASSES, by the rules: constant.
-/
import Derived.Test.YtiecclkgjcnaoaaGreatAiSyD4
import Derived.Test.YtiecclkgjcnaoaaGreatAiSyW15
namespace Go.Proofs.YtiecclkgjcnaoaaGreat.Ae
open Go.AE
set_option linter.unusedVariables false
set_option maxRecDepth 100000
structure QS (A : AW) (fc fr : Nat) (v : AV) (e : Bool) (bs : List Nat) : Prop where
  cell : A.heap.get fc = some (.cells 0 false 2 [.ptr fr 0 0, .bool e])
  rd : Rd A fr v bs
  ne : fc ≠ fr
  nv : ¬ v.isFam fc
  len : bs.length < 1000000000
structure QStep (A A1 : AW) (fc fr : Nat) (v v' : AV) (e : Bool) (bs : List Nat) : Prop where
  ps : QS A1 fc fr v' e bs
  only : Only A A1 (both (one fc) (one fr))
  sub : ∀ g, v'.isFam g → v.isFam g
theorem QStep.refl {A : AW} {fc fr : Nat} {v : AV} {e : Bool} {bs : List Nat} (hw : Wf A) (h : QS A fc fr v e bs) : QStep A A fc fr v v e bs := ⟨h, Only.refl hw _, fun _ h => h⟩
theorem QStep.trans {A A1 A2 : AW} {fc fr : Nat} {v v1 v2 : AV} {e e1 : Bool} {bs cs : List Nat} (h : QStep A A1 fc fr v v1 e bs) (k : QStep A1 A2 fc fr v1 v2 e1 cs) : QStep A A2 fc fr v v2 e1 cs :=
  ⟨k.ps, h.only.same k.only, fun g hg => h.sub g (k.sub g hg)⟩
theorem QS.keep {A A1 : AW} {fc fr : Nat} {v : AV} {e : Bool} {bs : List Nat} (h : QS A fc fr v e bs) (o : Only A A1 none') : QS A1 fc fr v e bs :=
  ⟨o.keep _ _ h.cell fun h => h, h.rd.keep o fun _ _ h => h, h.ne, h.nv, h.len⟩
theorem QStep.quiet {A A1 A2 : AW} {fc fr : Nat} {v v' : AV} {e : Bool} {bs : List Nat} (h : QStep A A1 fc fr v v' e bs) (o : Only A1 A2 none') : QStep A A2 fc fr v v' e bs :=
  ⟨h.ps.keep o, h.only.same (o.mono fun _ h => h.elim), h.sub⟩
theorem QStep.after {A A1 A2 : AW} {fc fr : Nat} {v v' : AV} {e : Bool} {bs : List Nat} (o : Only A A1 none') (h : QStep A1 A2 fc fr v v' e bs) : QStep A A2 fc fr v v' e bs :=
  ⟨h.ps, (o.mono fun _ h => h.elim).same h.only, h.sub⟩
theorem QS.lt {A : AW} {fc fr : Nat} {v : AV} {e : Bool} {bs : List Nat} (hw : Wf A) (h : QS A fc fr v e bs) : fc < A.nxt ∧ fr < A.nxt := ⟨hw _ _ h.cell, hw _ _ h.rd.cell⟩
theorem QStep.own {A A1 : AW} {fc fr : Nat} {v v' : AV} {e e' : Bool} {bs cs : List Nat} (hw : Wf A) (h : QS A fc fr v e bs) (k : QStep A A1 fc fr v v' e' cs) {S : Nat → Prop} (hs : ∀ g, S g → A.nxt ≤ g) : Disj S (both (one fc) (one fr)) := fun g hg hb => by
  have := hs g hg
  obtain ⟨h1, h2⟩ := h.lt hw
  rcases hb with hb | hb <;> cases hb <;> omega
theorem QStep.of {A A1 : AW} {fc fr : Nat} {v v' : AV} {e e1 : Bool} {bs cs : List Nat} (hw : Wf A) (h : QS A fc fr v e bs) (st : RStep A A1 fr v v' cs) (hcs : cs.length ≤ bs.length) : QStep A (A1.put fc (.cells 0 false 2 [.ptr fr 0 0, .bool e1])) fc fr v v' e1 cs := by
  have c1 := st.only.keep _ _ h.cell fun e => h.ne e
  have op : Only A1 (A1.put fc (.cells 0 false 2 [.ptr fr 0 0, .bool e1])) (one fc) := Only.put st.only.wf (st.only.wf _ _ c1)
  refine ⟨⟨by rw [AW.put_get, if_pos rfl], st.rd.keep op fun g hg e => ?_, h.ne, fun hg => h.nv (st.sub _ hg), Nat.lt_of_le_of_lt hcs h.len⟩, (st.only.mono fun g hg => .inr hg).same (op.mono fun g hg => .inl hg), st.sub⟩
  cases e
  rcases hg with hg | hg
  · exact h.ne hg
  · exact h.nv (st.sub _ hg)
theorem QStep.err {A : AW} {fc fr : Nat} {v : AV} {e e1 : Bool} {bs : List Nat} (hw : Wf A) (h : QS A fc fr v e bs) : QStep A (A.put fc (.cells 0 false 2 [.ptr fr 0 0, .bool e1])) fc fr v v e1 bs :=
  QStep.of hw h (RStep.refl hw h.rd) (Nat.le_refl _)
theorem QStep.hold {A A1 : AW} {fc fr n : Nat} {v v' : AV} {e : Bool} {bs : List Nat} (k : QStep A A1 fc fr v v' e bs) (h1 : fc < n ∧ fr < n) {g : Nat} {F : AFam} (hF : A.heap.get g = some F) (hg : n ≤ g) : A1.heap.get g = some F :=
  k.only.keep _ _ hF fun hb => by rcases hb with hb | hb <;> cases hb <;> omega
theorem QStep.fresh {A A1 A2 : AW} {fc fr : Nat} {v v' : AV} {e e0 : Bool} {bs cs : List Nat} {T : Nat → Prop} (hw : Wf A) (h : QS A fc fr v e0 cs) (k : QStep A A1 fc fr v v' e bs) (o : Only A1 A2 T) (ht : ∀ g, T g → A.nxt ≤ g) : QStep A A2 fc fr v v' e bs := by
  obtain ⟨l1, l2⟩ := h.lt hw
  have nt : ∀ g, g < A.nxt → ¬ T g := fun g hg h => by
    have := ht g h
    omega
  have hv : ∀ g, v'.isFam g → ¬ T g := fun g hg => nt g (Full.under' hw h.rd.full g (k.sub g hg))
  refine ⟨⟨o.keep _ _ k.ps.cell (nt _ l1), k.ps.rd.keep o fun g hg => ?_, k.ps.ne, k.ps.nv, k.ps.len⟩, ⟨o.wf, Nat.le_trans k.only.nxt o.nxt, fun g F hg hn => ?_⟩, k.sub⟩
  · rcases hg with hg | hg
    · cases hg
      exact nt _ l2
    · exact hv g hg
  · exact o.keep _ _ (k.only.keep _ _ hg hn) (nt g (hw g F hg))
structure SQ (A A1 : AW) (fc fr : Nat) (v v' : AV) (e : Bool) (bs : List Nat) (f2 f3 : Nat) (z cs : List AV) : Prop where
  st : QStep A A1 fc fr v v' e bs
  h2 : A1.heap.get f2 = some (.cells 0 false cs.length z)
  h3 : A1.heap.get f3 = some (.cells 0 false cs.length cs)
theorem SQ.read {A A1 A2 : AW} {fc fr : Nat} {v v1 v2 : AV} {e e1 : Bool} {bs b1 : List Nat} {f2 f3 : Nat} {z cs : List AV} (hlt : fc < A.nxt ∧ fr < A.nxt) (l2 : A.nxt ≤ f2) (l3 : A.nxt ≤ f3) (h : SQ A A1 fc fr v v1 e bs f2 f3 z cs) (k : QStep A1 A2 fc fr v1 v2 e1 b1) :
    SQ A A2 fc fr v v2 e1 b1 f2 f3 z cs := ⟨h.st.trans k, k.hold hlt h.h2 l2, k.hold hlt h.h3 l3⟩
theorem SQ.put {A A1 : AW} {fc fr : Nat} {v v1 : AV} {e e0 : Bool} {bs b0 : List Nat} {f2 f3 : Nat} {z cs cs' : List AV} (hw : Wf A) (h0 : QS A fc fr v e0 b0) (l3 : A.nxt ≤ f3) (n23 : f2 ≠ f3) (h : SQ A A1 fc fr v v1 e bs f2 f3 z cs) (hl : cs.length = cs'.length) :
    SQ A (A1.put f3 (.cells 0 false cs.length cs')) fc fr v v1 e bs f2 f3 z cs' := by
  have op := Only.put (x := .cells 0 false cs.length cs') h.st.only.wf (h.st.only.wf _ _ h.h3)
  refine ⟨h.st.fresh hw h0 op fun g hg => by cases hg; exact l3, ?_, ?_⟩
  · rw [← hl]
    exact op.keep _ _ h.h2 fun e => n23 e
  · rw [← hl, AW.put_get, if_pos rfl]
theorem SQ.done {A A1 : AW} {fc fr : Nat} {v v1 : AV} {e e0 : Bool} {bs b0 : List Nat} {f2 f3 : Nat} {z cs : List AV} {x : AFam} (hw : Wf A) (h0 : QS A fc fr v e0 b0) (l2 : A.nxt ≤ f2) (h : SQ A A1 fc fr v v1 e bs f2 f3 z cs) :
    QStep A (A1.put f2 x) fc fr v v1 e bs := h.st.fresh hw h0 (Only.put h.st.only.wf (h.st.only.wf _ _ h.h2)) fun g hg => by cases hg; exact l2
theorem SQ.made {A A1 A2 A3 : AW} {fc fr : Nat} {v v1 : AV} {e1 : Bool} {b1 : List Nat} {f2 f3 : Nat} {z cs : List AV} (hlt : fc < A.nxt ∧ fr < A.nxt) (l2 : A.nxt ≤ f2) (o1 : Only A A1 none') (h2 : A1.heap.get f2 = some (.cells 0 false cs.length z)) (k : QStep A1 A2 fc fr v v1 e1 b1)
    (o3 : Only A2 A3 none') (h3 : A3.heap.get f3 = some (.cells 0 false cs.length cs)) : SQ A A3 fc fr v v1 e1 b1 f2 f3 z cs :=
  ⟨(k.after o1).quiet o3, o3.keep _ _ (k.hold hlt h2 l2) fun h => h, h3⟩
theorem QStep.rd {A A1 : AW} {fc fr : Nat} {v v' : AV} {e : Bool} {bs cs : List Nat} (h : QS A fc fr v e bs) (st : RStep A A1 fr v v' cs) (hcs : cs.length ≤ bs.length) : QStep A A1 fc fr v v' e cs :=
  ⟨⟨st.only.keep _ _ h.cell fun e => h.ne e, st.rd, h.ne, fun hg => h.nv (st.sub _ hg), Nat.lt_of_le_of_lt hcs h.len⟩, st.only.mono fun g hg => .inr hg, st.sub⟩
theorem drop_le {α : Type} {l : List α} {n : Nat} : (l.drop n).length ≤ l.length := by rw [List.length_drop]; exact Nat.sub_le _ _
def kq {α : Type} (f : List Nat → α × Nat × Nat) (b : Bool) (bs : List Nat) : α × Bool × List Nat := ((f bs).1, b || decide (((f bs).2.1 : Int) ≠ 0), bs.drop (f bs).2.2)
def qB := kq rdB
def qT := kq (rdT 20)
def qC (m : Int) := kq (rdC m)
theorem qtext_spec {K : FuncId} {A : AW} {fc fr : Nat} {v : AV} {b : Bool} {bs : List Nat} (hw : Wf A) (h : QS A fc fr v b bs) :
    CallP (ES K) 24 [.ptr fc 0 0] A fun r A1 => r = .str (qT b bs).1 ∧ ∃ v', QStep A A1 fc fr v v' (qT b bs).2.1 (qT b bs).2.2 := by
  refine call_of rfl rfl rfl ?_
  have hc := h.cell
  repeat (first | refine qO ?_ | refine qA ?_ | refine qG ?_ | refine qJ rfl rfl ?_ | refine qE rfl rfl ?_ | refine qI rfl rfl rfl ?_ | refine qW rfl rfl ?_ | refine qP rfl rfl rfl rfl (by assumption) rfl ?_)
  refine qU rfl rfl orc_cons rfl (ref_text hw h.rd h.len (by decide) (by decide)) ?_
  rintro r A1 ⟨rfl, v', st⟩
  have hc1 := st.only.keep _ _ hc fun e => h.ne e
  repeat (first | refine qO ?_ | refine qA ?_ | refine qG ?_ | refine qJ rfl rfl ?_ | refine qE rfl rfl ?_ | refine qI rfl rfl rfl ?_ | refine qW rfl rfl ?_ | refine xK rfl rfl rfl ?_ | refine qP rfl rfl rfl rfl (by assumption) rfl ?_)
  cases b with
  | true =>
    repeat (first | refine qI rfl rfl rfl ?_ | refine qW rfl rfl ?_ | refine qR rfl rfl rfl ?_ | refine xE rfl rfl ?_)
    refine qZ rfl rfl rfl rfl rfl rfl hc1 rfl ?_
    repeat (first | refine qO ?_ | refine qA ?_ | refine qG ?_ | refine qJ rfl rfl ?_ | refine qE rfl rfl ?_)
    exact qQ rfl ⟨rfl, v', QStep.of hw h st drop_le⟩
  | false =>
    repeat (first | refine qJ rfl rfl ?_ | refine qI rfl rfl rfl ?_ | refine qW rfl rfl ?_ | refine xL rfl rfl rfl ?_ | refine qR rfl rfl rfl ?_ | refine qX rfl ?_)
    refine qZ rfl rfl rfl rfl rfl rfl hc1 rfl ?_
    repeat (first | refine qO ?_ | refine qA ?_ | refine qG ?_ | refine qJ rfl rfl ?_ | refine qE rfl rfl ?_)
    exact qQ rfl ⟨rfl, v', QStep.of hw h st drop_le⟩
theorem qnum_spec {K : FuncId} {A : AW} {fc fr : Nat} {v : AV} {b : Bool} {m : Int} {bs : List Nat} (hw : Wf A) (h : QS A fc fr v b bs) (m1 : -9223372036854775808 ≤ m) (m2 : m < 9223372036854775808) :
    CallP (ES K) 25 [.ptr fc 0 0, .int .i64 m] A fun r A1 => r = .int .i64 ((qC m b bs).1 : Int) ∧ ∃ v', QStep A A1 fc fr v v' (qC m b bs).2.1 (qC m b bs).2.2 := by
  refine call_of rfl rfl rfl ?_
  have hc := h.cell
  repeat (first | refine qO ?_ | refine qA ?_ | refine qG ?_ | refine qJ rfl rfl ?_ | refine qE rfl rfl ?_ | refine qI rfl rfl rfl ?_ | refine qW rfl rfl ?_ | refine qP rfl rfl rfl rfl (by assumption) rfl ?_)
  refine qU rfl rfl orc_cons rfl (ref_count hw h.rd h.len m1 m2) ?_
  rintro r A1 ⟨rfl, v', st⟩
  have hc1 := st.only.keep _ _ hc fun e => h.ne e
  repeat (first | refine qO ?_ | refine qA ?_ | refine qG ?_ | refine qJ rfl rfl ?_ | refine qE rfl rfl ?_ | refine qI rfl rfl rfl ?_ | refine qW rfl rfl ?_ | refine xK rfl rfl rfl ?_ | refine qP rfl rfl rfl rfl (by assumption) rfl ?_)
  cases b with
  | true =>
    repeat (first | refine qI rfl rfl rfl ?_ | refine qW rfl rfl ?_ | refine qR rfl rfl rfl ?_ | refine xE rfl rfl ?_)
    refine qZ rfl rfl rfl rfl rfl rfl hc1 rfl ?_
    repeat (first | refine qO ?_ | refine qA ?_ | refine qG ?_ | refine qJ rfl rfl ?_ | refine qE rfl rfl ?_)
    exact qQ rfl ⟨rfl, v', QStep.of hw h st drop_le⟩
  | false =>
    repeat (first | refine qJ rfl rfl ?_ | refine qI rfl rfl rfl ?_ | refine qW rfl rfl ?_ | refine xL rfl rfl rfl ?_ | refine qR rfl rfl rfl ?_ | refine qX rfl ?_)
    refine qZ rfl rfl rfl rfl rfl rfl hc1 rfl ?_
    repeat (first | refine qO ?_ | refine qA ?_ | refine qG ?_ | refine qJ rfl rfl ?_ | refine qE rfl rfl ?_)
    exact qQ rfl ⟨rfl, v', QStep.of hw h st drop_le⟩
theorem qbyt_spec {K : FuncId} {A : AW} {fc fr : Nat} {v : AV} {b : Bool} {bs : List Nat} (hw : Wf A) (h : QS A fc fr v b bs) :
    CallP (ES K) 28 [.ptr fc 0 0] A fun r A1 => r = .int .u8 ((qB b bs).1 : Int) ∧ ∃ v', QStep A A1 fc fr v v' (qB b bs).2.1 (qB b bs).2.2 := by
  refine call_of rfl rfl rfl ?_
  have hc := h.cell
  repeat (first | refine qO ?_ | refine qA ?_ | refine qG ?_ | refine qJ rfl rfl ?_ | refine qE rfl rfl ?_ | refine qI rfl rfl rfl ?_ | refine qW rfl rfl ?_ | refine qP rfl rfl rfl rfl (by assumption) rfl ?_)
  refine qU rfl rfl orc_cons rfl (ref_byte hw h.rd) ?_
  rintro r A1 ⟨rfl, v', st⟩
  have hc1 := st.only.keep _ _ hc fun e => h.ne e
  repeat (first | refine qO ?_ | refine qA ?_ | refine qG ?_ | refine qJ rfl rfl ?_ | refine qE rfl rfl ?_ | refine qI rfl rfl rfl ?_ | refine qW rfl rfl ?_ | refine xK rfl rfl rfl ?_ | refine qP rfl rfl rfl rfl (by assumption) rfl ?_)
  cases b with
  | true =>
    repeat (first | refine qI rfl rfl rfl ?_ | refine qW rfl rfl ?_ | refine qR rfl rfl rfl ?_ | refine xE rfl rfl ?_)
    refine qZ rfl rfl rfl rfl rfl rfl hc1 rfl ?_
    repeat (first | refine qO ?_ | refine qA ?_ | refine qG ?_ | refine qJ rfl rfl ?_ | refine qE rfl rfl ?_)
    exact qQ rfl ⟨rfl, v', QStep.of hw h st drop_le⟩
  | false =>
    repeat (first | refine qJ rfl rfl ?_ | refine qI rfl rfl rfl ?_ | refine qW rfl rfl ?_ | refine xL rfl rfl rfl ?_ | refine qR rfl rfl rfl ?_ | refine qX rfl ?_)
    refine qZ rfl rfl rfl rfl rfl rfl hc1 rfl ?_
    repeat (first | refine qO ?_ | refine qA ?_ | refine qG ?_ | refine qJ rfl rfl ?_ | refine qE rfl rfl ?_)
    exact qQ rfl ⟨rfl, v', QStep.of hw h st drop_le⟩
theorem qB_lt {A : AW} {fc fr : Nat} {v : AV} {b : Bool} {bs : List Nat} (h : QS A fc fr v b bs) : (qB b bs).1 < 256 := rdB_lt h.rd.lt
def qK (b : Bool) (bs : List Nat) : Ty' × Bool × List Nat :=
  if ((qB b bs).1 : Int) = 4 then ((4, (qT (qB b bs).2.1 (qB b bs).2.2).1), (qT (qB b bs).2.1 (qB b bs).2.2).2) else ((((qB b bs).1 : Int), []), (qB b bs).2)
theorem qtyp_spec {K : FuncId} {A : AW} {fc fr : Nat} {v : AV} {e : Bool} {bs : List Nat} (hw : Wf A) (h : QS A fc fr v e bs) :
    CallP (ES K) 27 [.ptr fc 0 0] A fun r A1 => r = .agg (tyc (qK e bs).1) ∧ ∃ v', QStep A A1 fc fr v v' (qK e bs).2.1 (qK e bs).2.2 := by
  refine call_of rfl rfl rfl ?_
  have hlt := h.lt hw
  repeat (first | refine qO ?_ | refine qA ?_)
  refine wo_alloc rfl rfl rfl ?_
  refine wo_A (fun A1 => Only A A1 none' ∧ A1.heap.get A.nxt = some (.cells 0 false 2 [.int .i64 0, .str []])) ⟨Only.add hw _, by rw [AW.add_get, if_pos rfl]; rfl⟩ ?_
  rintro A1 ⟨o1, h2⟩
  generalize hf2 : A.nxt = f2 at h2
  have l2 : A.nxt ≤ f2 := by omega
  repeat (first | refine qO ?_ | refine qA ?_ | refine qG ?_ | refine qJ rfl rfl ?_)
  refine qU rfl rfl orc_cons rfl (qbyt_spec o1.wf (h.keep o1)) ?_
  rintro r A2 ⟨rfl, v1, st1⟩
  have hb := qB_lt (h.keep o1)
  have h2 := st1.hold hlt h2 l2
  have st := st1.after o1
  unfold qK
  generalize qB e bs = b at hb st
  obtain ⟨k, e1, b1⟩ := b
  have hb : k < 256 := hb
  have st : QStep A A2 fc fr v v1 e1 b1 := st
  refine wo_conv rfl rfl rfl rfl (k : Int) (wrap_byte hb) ?_
  repeat refine wo_build rfl rfl rfl ?_
  refine wo_alloc rfl rfl rfl ?_
  refine qZ rfl rfl rfl rfl rfl rfl (by rw [AW.add_get, if_pos rfl]) rfl ?_
  refine wo_A (fun A3 => Only A2 A3 none' ∧ A3.heap.get A2.nxt = some (.cells 0 false 2 [.int .i64 (k : Int), .str []])) ⟨made st.only.wf, by rw [AW.put_get, if_pos rfl]; rfl⟩ ?_
  rintro A3 ⟨o3, h3⟩
  have n23 : f2 ≠ A2.nxt := fun e => by
    have := st.only.wf _ _ h2
    omega
  have l3 := st.only.nxt
  generalize A2.nxt = f3 at h3 n23 l3
  have h2 := o3.keep _ _ h2 fun h => h
  have st := st.quiet o3
  repeat (first | refine qO ?_ | refine qA ?_ | refine qG ?_ | refine qI rfl rfl rfl ?_ | refine qP rfl rfl rfl rfl (by assumption) rfl ?_ | refine xD rfl rfl rfl ?_)
  refine qV rfl (fun c4 => ?_) fun c4 => ?_
  · have c4 : (k : Int) = 4 := c4
    rw [if_pos c4]
    repeat (first | refine qA ?_ | refine qJ rfl rfl ?_)
    refine qU rfl rfl orc_cons rfl (qtext_spec st.only.wf st.ps) ?_
    rintro r A4 ⟨rfl, v2, st2⟩
    have h2 := st2.hold hlt h2 l2
    have h3 := st2.hold hlt h3 l3
    have st := st.trans st2
    repeat refine qI rfl rfl rfl ?_
    refine qZ rfl rfl rfl rfl rfl rfl h3 rfl ?_
    have op := Only.put (x := .cells 0 false 2 [.int .i64 (k : Int), .str (qT e1 b1).1]) st.only.wf (st.only.wf _ _ h3)
    refine wo_A (fun A5 => Only A4 A5 (one f3) ∧ A5.heap.get f3 = some (.cells 0 false 2 [.int .i64 (k : Int), .str (qT e1 b1).1])) ⟨op, by rw [AW.put_get, if_pos rfl]⟩ ?_
    rintro A5 ⟨o5, h3⟩
    have h2 := o5.keep _ _ h2 fun e => n23 e
    have st := st.fresh hw h o5 fun g hg => by cases hg; exact l3
    repeat (first | refine qO ?_ | refine qA ?_ | refine qG ?_)
    refine xG rfl rfl rfl rfl h3 rfl ?_
    refine qZ rfl rfl rfl rfl rfl rfl h2 rfl ?_
    repeat refine qG ?_
    refine wg_ret1 rfl rfl (loadN_eq rfl rfl (by rw [AW.put_get, if_pos rfl]) rfl) ?_
    refine ⟨by rw [c4]; rfl, v2, st.fresh hw h (Only.put st.only.wf (st.only.wf _ _ h2)) fun g hg => by cases hg; exact l2⟩
  · have c4 : ¬ (k : Int) = 4 := c4
    rw [if_neg c4]
    repeat (first | refine qO ?_ | refine qS ?_ | refine qA ?_)
    refine xG rfl rfl rfl rfl h3 rfl ?_
    refine qZ rfl rfl rfl rfl rfl rfl h2 rfl ?_
    repeat refine qG ?_
    refine wg_ret1 rfl rfl (loadN_eq rfl rfl (by rw [AW.put_get, if_pos rfl]) rfl) ?_
    refine ⟨rfl, v1, st.fresh hw h (Only.put st.only.wf (st.only.wf _ _ h2)) fun g hg => by cases hg; exact l2⟩
end Go.Proofs.YtiecclkgjcnaoaaGreat.Ae
namespace Go.Proofs.YtiecclkgjcnaoaaGreat.Ae
open Go.AE
set_option linter.unusedVariables false
set_option maxRecDepth 100000
def qCo' (k : Nat) (b : Bool) (bs : List Nat) : CoT × Int × Bool × List Nat :=
  if (k : Int) = 1 then (⟨1, (rdZ bs).1, (0, 0), [], []⟩, ((rdZ bs).2.1 : Int), b, bs.drop (rdZ bs).2.2)
  else if (k : Int) = 2 then (⟨2, 0, (rdX bs).1, [], []⟩, ((rdX bs).2.1 : Int), b, bs.drop (rdX bs).2.2)
  else if (k : Int) = 3 then (⟨3, 0, (0, 0), (qT b bs).1, []⟩, 0, (qT b bs).2)
  else (⟨(k : Int), 0, (0, 0), (qT b bs).1, (qT (qT b bs).2.1 (qT b bs).2.2).1⟩, 0, (qT (qT b bs).2.1 (qT b bs).2.2).2)
def qEnd (y : CoT × Int × Bool × List Nat) : CoT × Bool × List Nat := (y.1, y.2.2.1 || decide (y.2.1 ≠ 0), y.2.2.2)
def qCo (b : Bool) (bs : List Nat) : CoT × Bool × List Nat := qEnd (qCo' (qB b bs).1 (qB b bs).2.1 (qB b bs).2.2)
set_option maxHeartbeats 4000000 in
theorem qconst_spec {K : FuncId} {A : AW} {fc fr : Nat} {v : AV} {e : Bool} {bs : List Nat} (hw : Wf A) (h : QS A fc fr v e bs) :
    CallP (ES K) 26 [.ptr fc 0 0] A fun r A1 => r = .agg (coc (qCo e bs).1) ∧ ∃ v', QStep A A1 fc fr v v' (qCo e bs).2.1 (qCo e bs).2.2 := by
  refine call_of rfl rfl rfl ?_
  have hlt := h.lt hw
  repeat (first | refine qO ?_ | refine qA ?_)
  refine wo_alloc rfl rfl rfl ?_
  refine wo_A (fun A1 => Only A A1 none' ∧ A1.heap.get A.nxt = some (.cells 0 false 5 (coc zCo))) ⟨Only.add hw _, by rw [AW.add_get, if_pos rfl]; rfl⟩ ?_
  rintro A1 ⟨o1, h2⟩
  generalize hf2 : A.nxt = f2 at h2
  have l2 : A.nxt ≤ f2 := by omega
  repeat (first | refine qO ?_ | refine qA ?_ | refine qG ?_ | refine qJ rfl rfl ?_)
  refine qU rfl rfl orc_cons rfl (qbyt_spec o1.wf (h.keep o1)) ?_
  rintro r A2 ⟨rfl, v1, st1⟩
  have hb := qB_lt (h.keep o1)
  unfold qCo
  generalize qB e bs = b at hb st1
  obtain ⟨k, e1, b1⟩ := b
  have hb : k < 256 := hb
  have st1 : QStep A1 A2 fc fr v v1 e1 b1 := st1
  refine wo_conv rfl rfl rfl rfl (k : Int) (wrap_byte hb) ?_
  repeat refine wo_build rfl rfl rfl ?_
  refine wo_alloc rfl rfl rfl ?_
  refine qZ rfl rfl rfl rfl rfl rfl (by rw [AW.add_get, if_pos rfl]) rfl ?_
  refine wo_A (fun A3 => Only A2 A3 none' ∧ A3.heap.get A2.nxt = some (.cells 0 false 5 (coc ⟨(k : Int), 0, (0, 0), [], []⟩))) ⟨made st1.only.wf, by rw [AW.put_get, if_pos rfl]; rfl⟩ ?_
  rintro A3 ⟨o3, h3⟩
  have n23 : f2 ≠ A2.nxt := fun e => by
    have := st1.only.wf _ _ (st1.hold hlt h2 l2)
    omega
  have l3 := (st1.after o1).only.nxt
  generalize A2.nxt = f3 at h3 n23 l3
  have S : SQ A A3 fc fr v v1 e1 b1 f2 f3 (coc zCo) (coc ⟨(k : Int), 0, (0, 0), [], []⟩) := SQ.made hlt l2 o1 h2 st1 o3 h3
  have h3 := S.h3
  repeat (first | refine qO ?_ | refine qY ?_ | refine qA ?_ | refine qG ?_ | refine qE rfl rfl ?_ | refine qI rfl rfl rfl ?_ | refine qP rfl rfl rfl rfl (by assumption) rfl ?_ | refine xD rfl rfl rfl ?_)
  refine wg_cut (fun l1 A4 => (Kn.put 0 (.ptr fc 0 0) (.put 2 (.ptr f2 0 0) (.put 3 (.ptr f3 0 0) (.put 4 (.int .i64 (qCo' k e1 b1).2.1) .nil)))).le l1 ∧ ∃ v4, SQ A A4 fc fr v v4 (qCo' k e1 b1).2.2.1 (qCo' k e1 b1).2.2.2 f2 f3 (coc zCo) (coc (qCo' k e1 b1).1)) (fun k' hk => ?_) ?_
  · skip
    refine qV rfl (fun c1 => ?_) fun c1 => ?_
    · have c1 : (k : Int) = 1 := c1
      have e0 : qCo' k e1 b1 = (⟨1, (rdZ b1).1, (0, 0), [], []⟩, ((rdZ b1).2.1 : Int), e1, b1.drop (rdZ b1).2.2) := by unfold qCo'; rw [if_pos c1]
      have hc := S.st.ps.cell
      repeat (first | refine qA ?_ | refine qJ rfl rfl ?_ | refine qI rfl rfl rfl ?_ | refine qW rfl rfl ?_ | refine qP rfl rfl rfl rfl (by assumption) rfl ?_)
      refine qU rfl rfl orc_cons rfl (ref_int S.st.only.wf S.st.ps.rd S.st.ps.len) ?_
      rintro r A4 ⟨rfl, v2, st2⟩
      have S := S.read hlt l2 l3 (QStep.rd S.st.ps st2 drop_le)
      repeat (first | refine qJ rfl rfl ?_ | refine qI rfl rfl rfl ?_ | refine xK rfl rfl rfl ?_)
      refine qZ rfl rfl rfl rfl rfl rfl S.h3 rfl ?_
      have S := S.put hw h l3 n23 (cs' := coc ⟨1, (rdZ b1).1, (0, 0), [], []⟩) rfl
      rw [c1]
      repeat (first | refine qG ?_ | refine qE rfl rfl ?_)
      exact hk _ _ ⟨⟨rfl, rfl, rfl, by rw [e0]; rfl, trivial⟩, v2, by rw [e0]; exact S⟩
    have c1 : ¬ (k : Int) = 1 := c1
    repeat (first | refine qO ?_ | refine qA ?_ | refine qG ?_ | refine qE rfl rfl ?_ | refine xD rfl rfl rfl ?_)
    refine qV rfl (fun c2 => ?_) fun c2 => ?_
    · have c2 : (k : Int) = 2 := c2
      have e0 : qCo' k e1 b1 = (⟨2, 0, (rdX b1).1, [], []⟩, ((rdX b1).2.1 : Int), e1, b1.drop (rdX b1).2.2) := by unfold qCo'; rw [if_neg c1, if_pos c2]
      have hc := S.st.ps.cell
      repeat (first | refine qA ?_ | refine qJ rfl rfl ?_ | refine qI rfl rfl rfl ?_ | refine qW rfl rfl ?_ | refine qP rfl rfl rfl rfl (by assumption) rfl ?_)
      refine qU rfl rfl orc_cons rfl (ref_cplx S.st.only.wf S.st.ps.rd) ?_
      rintro r A4 ⟨rfl, v2, st2⟩
      have S := S.read hlt l2 l3 (QStep.rd S.st.ps st2 drop_le)
      repeat (first | refine qJ rfl rfl ?_ | refine qI rfl rfl rfl ?_ | refine xK rfl rfl rfl ?_)
      refine qZ rfl rfl rfl rfl rfl rfl S.h3 rfl ?_
      have S := S.put hw h l3 n23 (cs' := coc ⟨2, 0, (rdX b1).1, [], []⟩) rfl
      rw [c2]
      repeat (first | refine qG ?_ | refine qE rfl rfl ?_)
      exact hk _ _ ⟨⟨rfl, rfl, rfl, by rw [e0]; rfl, trivial⟩, v2, by rw [e0]; exact S⟩
    have c2 : ¬ (k : Int) = 2 := c2
    repeat (first | refine qO ?_ | refine qA ?_ | refine qJ rfl rfl ?_)
    refine qU rfl rfl orc_cons rfl (qtext_spec S.st.only.wf S.st.ps) ?_
    rintro r A4 ⟨rfl, v2, st2⟩
    have S := S.read hlt l2 l3 st2
    repeat refine qI rfl rfl rfl ?_
    refine qZ rfl rfl rfl rfl rfl rfl S.h3 rfl ?_
    refine wo_A (fun A6 => SQ A A6 fc fr v v2 (qT e1 b1).2.1 (qT e1 b1).2.2 f2 f3 (coc zCo) (coc ⟨(k : Int), 0, (0, 0), (qT e1 b1).1, []⟩)) (S.put hw h l3 n23 (cs' := coc ⟨(k : Int), 0, (0, 0), (qT e1 b1).1, []⟩) rfl) ?_
    intro A6 S
    have h3 := S.h3
    unfold coc at h3
    repeat (first | refine qO ?_ | refine qA ?_ | refine qG ?_ | refine qI rfl rfl rfl ?_ | refine qP rfl rfl rfl rfl (by assumption) rfl ?_ | refine xL rfl rfl rfl ?_)
    refine qV rfl (fun c3 => ?_) fun c3 => ?_
    · have c3 : ¬ (k : Int) = 3 := c3
      have e0 : qCo' k e1 b1 = (⟨(k : Int), 0, (0, 0), (qT e1 b1).1, (qT (qT e1 b1).2.1 (qT e1 b1).2.2).1⟩, 0, (qT (qT e1 b1).2.1 (qT e1 b1).2.2).2) := by unfold qCo'; rw [if_neg c1, if_neg c2, if_neg c3]
      repeat (first | refine qA ?_ | refine qJ rfl rfl ?_)
      refine qU rfl rfl orc_cons rfl (qtext_spec S.st.only.wf S.st.ps) ?_
      rintro r A7 ⟨rfl, v3, st3⟩
      have S := S.read hlt l2 l3 st3
      repeat refine qI rfl rfl rfl ?_
      refine qZ rfl rfl rfl rfl rfl rfl S.h3 rfl ?_
      have S := S.put hw h l3 n23 (cs' := coc ⟨(k : Int), 0, (0, 0), (qT e1 b1).1, (qT (qT e1 b1).2.1 (qT e1 b1).2.2).1⟩) rfl
      repeat refine qG ?_
      exact hk _ _ ⟨⟨rfl, rfl, rfl, by rw [e0]; rfl, trivial⟩, v3, by rw [e0]; exact S⟩
    · have c3 : (k : Int) = 3 := Decidable.byContradiction c3
      have e0 : qCo' k e1 b1 = (⟨(k : Int), 0, (0, 0), (qT e1 b1).1, []⟩, 0, (qT e1 b1).2) := by unfold qCo'; rw [if_neg c1, if_neg c2, if_pos c3, c3]
      repeat refine qS ?_
      exact hk _ _ ⟨⟨rfl, rfl, rfl, by rw [e0]; rfl, trivial⟩, v2, by rw [e0]; exact S⟩
  rintro l1 A4 ⟨hl1, v4, S⟩
  refine wg_le _ ?_ hl1
  unfold qEnd
  show WG _ _ _ _ _ fun r A1 => r = .agg (coc (qCo' k e1 b1).1) ∧ ∃ v', QStep A A1 fc fr v v' ((qCo' k e1 b1).2.2.1 || decide ((qCo' k e1 b1).2.1 ≠ 0)) (qCo' k e1 b1).2.2.2
  generalize qCo' k e1 b1 = y at S
  obtain ⟨y, ye, yb, ys⟩ := y
  have S : SQ A A4 fc fr v v4 yb ys f2 f3 (coc zCo) (coc y) := S
  have hc := S.st.ps.cell
  repeat (first | refine qO ?_ | refine xB ?_ | refine qA ?_ | refine qJ rfl rfl ?_ | refine qI rfl rfl rfl ?_ | refine qW rfl rfl ?_ | refine qP rfl rfl rfl rfl (by assumption) rfl ?_)
  cases yb with
  | true =>
    repeat (first | refine qI rfl rfl rfl ?_ | refine qW rfl rfl ?_ | refine qR rfl rfl rfl ?_ | refine xE rfl rfl ?_)
    refine qZ rfl rfl rfl rfl rfl rfl hc rfl ?_
    refine wo_A (fun A5 => SQ A A5 fc fr v v4 (true || decide (ye ≠ 0)) ys f2 f3 (coc zCo) (coc y)) (S.read hlt l2 l3 (QStep.err S.st.only.wf S.st.ps)) ?_
    intro A5 S
    have h2 := S.h2
    have h3 := S.h3
    unfold coc at h3
    repeat (first | refine qO ?_ | refine qA ?_ | refine qG ?_)
    refine xG rfl rfl rfl rfl h3 rfl ?_
    refine qZ rfl rfl rfl rfl rfl rfl h2 rfl ?_
    repeat refine qG ?_
    refine wg_ret1 rfl rfl (loadN_eq rfl rfl (by rw [AW.put_get, if_pos rfl]) rfl) ?_
    exact ⟨rfl, v4, S.done hw h l2⟩
  | false =>
    repeat (first | refine qJ rfl rfl ?_ | refine qI rfl rfl rfl ?_ | refine qW rfl rfl ?_ | refine xL rfl rfl rfl ?_ | refine qR rfl rfl rfl ?_ | refine qX rfl ?_)
    refine qZ rfl rfl rfl rfl rfl rfl hc rfl ?_
    refine wo_A (fun A5 => SQ A A5 fc fr v v4 (false || decide (ye ≠ 0)) ys f2 f3 (coc zCo) (coc y)) (S.read hlt l2 l3 (QStep.err S.st.only.wf S.st.ps)) ?_
    intro A5 S
    have h2 := S.h2
    have h3 := S.h3
    unfold coc at h3
    repeat (first | refine qO ?_ | refine qA ?_ | refine qG ?_)
    refine xG rfl rfl rfl rfl h3 rfl ?_
    refine qZ rfl rfl rfl rfl rfl rfl h2 rfl ?_
    repeat refine qG ?_
    refine wg_ret1 rfl rfl (loadN_eq rfl rfl (by rw [AW.put_get, if_pos rfl]) rfl) ?_
    exact ⟨rfl, v4, S.done hw h l2⟩
end Go.Proofs.YtiecclkgjcnaoaaGreat.Ae
