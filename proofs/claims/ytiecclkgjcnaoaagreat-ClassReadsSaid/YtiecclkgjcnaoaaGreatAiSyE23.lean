/-
  CLASSREADS, by the rules.
  ROWS THAT COME IN: a slice of an input, as a family that is only looked at.
  CLASSREADS: for every input (the law's call, in the model).
-/
import Derived.Test.YtiecclkgjcnaoaaGreatAiSyE17
import Derived.Test.YtiecclkgjcnaoaaGreatAiSyE13
import Derived.Test.YtiecclkgjcnaoaaGreatAiSy5
import Derived.Deep.Slices
import Derived.WideShapes
import Derived.Carry
import Derived.Test.YtiecclkgjcnaoaaGreatAiSyE15
namespace Go.Proofs.YtiecclkgjcnaoaaGreat.Ae
open Go.AE
set_option linter.unusedVariables false
set_option maxRecDepth 100000
structure ReadsOk (bs : List Nat) : Prop where
  e : okE (dec bs).2
  s : shC (qD (bs.drop 5)).1
  i : ∀ x ∈ (qD (bs.drop 5)).1.pool, intR x.int
  no : ¬ docOk bs → ¬ ((dec bs).2 = 0 ∧ clsOk (dec bs).1)
  yes : docOk bs → (dec bs).2 = 0 ∧ (dec bs).1 = (qD (bs.drop 5)).1
set_option maxHeartbeats 8000000 in
theorem classReads_spec {A : AW} {v : AV} {bs : List Nat} (hw : Wf A) (hb : Full A 1 v bs.length (bys bs)) (h256 : ∀ b ∈ bs, b < 256) (hlen : bs.length < 9223372036854775808) (hP : bs.length ≤ 3000 → ReadsOk bs) :
    CallP (ES 4) 3 [v] A fun r A1 => r = .bool true := by
  refine call_of rfl rfl rfl ?_
  repeat (first | refine qO ?_ | refine qA ?_ | refine qG ?_ | refine qE rfl rfl ?_)
  refine wo_orc rfl rfl rfl rfl ?_
  repeat (first | refine qG ?_ | refine wo_not rfl rfl ?_)
  refine wg_false rfl ?_
  repeat (first | refine qO ?_ | refine qS ?_ | refine qA ?_ | refine qJ rfl rfl ?_)
  refine xJ rfl rfl rfl hb.row.lenV ?_
  repeat (first | refine qG ?_ | refine wo_gtr rfl rfl rfl ?_)
  refine qV rfl (fun h => ?_) fun h3000 => ?_
  · repeat (first | refine qO ?_ | refine qA ?_ | refine qG ?_ | refine qE rfl rfl ?_)
    exact qQ rfl rfl
  have h3000 : bs.length ≤ 3000 := by
    have : ¬ (3000 : Int) < (bs.length : Int) := h3000
    omega
  obtain ⟨p1, p2, p3, p4, p5⟩ := hP h3000
  repeat (first | refine qO ?_ | refine qS ?_ | refine qA ?_ | refine qJ rfl rfl ?_)
  refine wo_append rfl rfl rfl rfl rfl (append_buf (de := d5) (v := .nils) (n := 0) (cs := []) rfl rfl rfl rfl hw (.inl ⟨rfl, rfl, rfl⟩) hb.row.src (by rw [bys_length]; exact (Nat.mul_one _).symm) (by decide) (room_of (by omega) (by decide))) ?_
  intro vc A1 g
  have bc : Buf A1 1 vc bs.length (bys bs) := by
    have := g.buf
    rw [Nat.zero_add] at this
    exact this
  have o1 : Only A A1 none' := g.only.mono fun _ h => h
  refine qU rfl rfl orc_cons rfl (cdec_spec o1.wf bc.row h3000 h256 p1) ?_
  rintro r A2 ⟨o2, c, pv, fv, mv, e, rfl, hR, _, hres⟩
  have o12 := o1.same o2
  repeat (first | refine qJ rfl rfl ?_ | refine xK rfl rfl rfl ?_)
  refine wo_alloc rfl rfl rfl ?_
  refine qZ rfl rfl rfl rfl rfl rfl (by rw [AW.add_get, if_pos rfl]) rfl ?_
  refine wo_A (fun A3 => Only A2 A3 none' ∧ A3.heap.get A2.nxt = some (.cells 0 false 5 (clc c.name c.super pv fv mv))) ⟨made o12.wf, by rw [AW.put_get, if_pos rfl]; rfl⟩ ?_
  rintro A3 ⟨o3, h3⟩
  generalize A2.nxt = f3 at h3
  have o13 := o12.same o3
  have hR := hR.keep o3
  repeat (first | refine qO ?_ | refine qA ?_ | refine qG ?_ | refine qJ rfl rfl ?_ | refine qE rfl rfl ?_)
  refine qU rfl rfl orc_cons rfl (rdecode_spec o13.wf (hb.row.keep o13 fun _ _ h => h) h3000 h256 p2 p3) ?_
  rintro r A4 ⟨o4, hres2⟩
  have h3 := o4.keep _ _ h3 fun h => h
  have hR := hR.keep o4
  have o14 := o13.same o4
  rcases hres2 with ⟨rfl, hno⟩ | ⟨pu, fu, mu, rfl, hok, hR2⟩
  · rcases hres with ⟨_, h1, h2, _⟩ | ⟨l1, l2, rfl, ⟨rfl, rfl, rfl⟩, _⟩
    · exact absurd ⟨h1, h2⟩ (p4 hno)
    repeat (first | refine qJ rfl rfl ?_ | refine xK rfl rfl rfl ?_)
    refine wo_alloc rfl rfl rfl ?_
    refine qZ rfl rfl rfl rfl rfl rfl (by rw [AW.add_get, if_pos rfl]) rfl ?_
    refine wo_A (fun A5 => Only A4 A5 none') (made o14.wf) ?_
    intro A5 o5
    have h3 := o5.keep _ _ h3 fun h => h
    repeat (first | refine qO ?_ | refine qA ?_ | refine qG ?_ | refine qJ rfl rfl ?_ | refine qE rfl rfl ?_ | refine wo_not rfl rfl ?_)
    refine xH rfl ?_
    repeat (first | refine qO ?_ | refine qA ?_ | refine qJ rfl rfl ?_ | refine wo_geq rfl rfl rfl ?_)
    refine xA 27 true rfl (decide_eq_true l1) ?_
    repeat (first | refine qJ rfl rfl ?_ | refine wo_leq rfl rfl rfl ?_ | refine qR rfl rfl rfl ?_ | refine qX rfl ?_)
    refine xA 31 true rfl (decide_eq_true l2) ?_
    repeat refine qX rfl ?_
    refine xG (vs := clc [] [] .nils .nils .nils) rfl rfl rfl rfl h3 rfl ?_
    repeat (first | refine wo_build rfl rfl rfl ?_ | refine qX rfl ?_)
    refine qU rfl rfl orc_cons rfl (csameZ_spec (o14.same o5).wf) ?_
    rintro r A6 rfl
    repeat (first | refine qG ?_ | refine qE rfl rfl ?_ | refine qR rfl rfl rfl ?_)
    exact qQ rfl rfl
  · obtain ⟨y1, y2⟩ := p5 hok
    have hcl := hok.2.2.1
    have hres : e = 0 ∧ c = (dec bs).1 := by
      rcases hres with ⟨h1, _, _, hc⟩ | ⟨_, _, _, _, hn⟩
      · exact ⟨h1, hc⟩
      · exact absurd ⟨y1, y2 ▸ hcl⟩ hn
    obtain ⟨rfl, hc⟩ := hres
    rw [y2] at hc
    subst hc
    generalize (qD (bs.drop 5)).1 = c at hR hR2 h3 hcl
    repeat (first | refine qJ rfl rfl ?_ | refine xK rfl rfl rfl ?_)
    refine wo_alloc rfl rfl rfl ?_
    refine qZ rfl rfl rfl rfl rfl rfl (by rw [AW.add_get, if_pos rfl]) rfl ?_
    refine wo_A (fun A5 => Only A4 A5 none' ∧ A5.heap.get A4.nxt = some (.cells 0 false 5 (clc c.name c.super pu fu mu))) ⟨made o14.wf, by rw [AW.put_get, if_pos rfl]; rfl⟩ ?_
    rintro A5 ⟨o5, h5⟩
    generalize A4.nxt = f5 at h5
    have h3 := o5.keep _ _ h3 fun h => h
    have hR := hR.keep o5
    have hR2 := hR2.keep o5
    repeat (first | refine qO ?_ | refine qA ?_ | refine qG ?_ | refine qJ rfl rfl ?_ | refine qE rfl rfl ?_ | refine wo_not rfl rfl ?_)
    refine wg_false rfl ?_
    repeat (first | refine qO ?_ | refine qS ?_ | refine qA ?_ | refine qJ rfl rfl ?_ | refine xD rfl rfl rfl ?_ | refine qX rfl ?_)
    refine xG (vs := clc c.name c.super pv fv mv) rfl rfl rfl rfl h3 rfl ?_
    repeat refine qX rfl ?_
    refine xG (vs := clc c.name c.super pu fu mu) rfl rfl rfl rfl h5 rfl ?_
    repeat refine qX rfl ?_
    refine qU rfl rfl orc_cons rfl (rsame_spec (c := c) (o14.same o5).wf hR hR2 (by have := hcl.2.2.1; omega) (by have := hcl.2.2.2.2.1.1; omega) (by have := hcl.2.2.2.2.2.1; omega) fun m hm => ?_) ?_
    · obtain ⟨i, hi⟩ := List.getElem?_of_mem hm
      have hmo := hcl.2.2.2.2.2.2 i m hi
      have a1 := hmo.2.1
      have a2 := hmo.2.2.2.2.2.2.2.1.2
      have a3 := hmo.2.2.2.2.2.2.2.2.2.2.1
      omega
    rintro r A6 rfl
    repeat (first | refine qG ?_ | refine qE rfl rfl ?_ | refine qR rfl rfl rfl ?_)
    exact qQ rfl rfl
end Go.Proofs.YtiecclkgjcnaoaaGreat.Ae
namespace Go.AE
open Go.ChangeShapes Go.Deep
set_option linter.unusedVariables false
set_option linter.unusedSimpArgs false
variable [Rho]
def Same (l : List AV) (vs : List Value) : Prop := l.length = vs.length ∧ ∀ (i : Nat) a x, l[i]? = some a → vs[i]? = some x → a.one = true ∧ ∀ μ, VRel μ a x
theorem Same.nil : Same [] [] := ⟨rfl, by simp⟩
theorem Same.cons {a : AV} {x : Value} {l : List AV} {vs : List Value} (h1 : a.one = true) (h2 : ∀ μ, VRel μ a x) (h : Same l vs) : Same (a :: l) (x :: vs) := by
  refine ⟨by simp [h.1], fun i b y hb hy => ?_⟩
  cases i with
  | zero => simp at hb hy; subst hb hy; exact ⟨h1, h2⟩
  | succ i => exact h.2 i b y (by simpa using hb) (by simpa using hy)
def ArgS (w : World) (es : Nat) (v : Value) (n : Nat) (cs : List AV) : Prop :=
  (v = .slice none 0 0 ∧ n = 0 ∧ cs = []) ∨ (∃ a cap, v = .slice (some a) 0 cap ∧ n = 0 ∧ cs = []) ∨
  ∃ c off cap arr elem fz, v = .slice (some ⟨c, off, none⟩) n cap ∧ 0 < n ∧ n ≤ cap ∧ off + cap * es ≤ arr.size ∧ w.heap[c]? = some (.cells arr elem fz) ∧ cs.length = n * es ∧
    ∀ (i : Nat) a, cs[i]? = some a → a.one = true ∧ ∃ cv, arr[off + i]? = some cv ∧ ∀ μ, VRel μ a cv
omit [Rho] in
theorem choose_list {α : Type} {p : Nat → α → Prop} : ∀ (n : Nat), (∀ i, i < n → ∃ x, p i x) → ∃ l : List α, l.length = n ∧ ∀ i x, l[i]? = some x → p i x
  | 0, _ => ⟨[], rfl, by simp⟩
  | n + 1, h => by
    obtain ⟨l, hl, hp⟩ := choose_list n fun i hi => h i (by omega)
    obtain ⟨x, hx⟩ := h n (by omega)
    refine ⟨l ++ [x], by simp [hl], fun i y hy => ?_⟩
    by_cases hi : i < n
    · rw [List.getElem?_append_left (by omega)] at hy
      exact hp i y hy
    · rw [List.getElem?_append_right (by omega)] at hy
      have : i = n := by
        by_cases h : i - l.length = 0
        · omega
        · rw [List.getElem?_cons, if_neg h] at hy
          simp at hy
      subst this
      rw [hl, Nat.sub_self] at hy
      simp at hy
      subst hy
      exact hx
omit [Rho] in
theorem flat_get {α β : Type} {f : α → List β} {es : Nat} (hf : ∀ a, (f a).length = es) : ∀ {l : List α} {i : Nat} {b : β}, (l.flatMap f)[i]? = some b → ∃ a, l[i / es]? = some a ∧ (f a)[i % es]? = some b ∧ 0 < es
  | [], i, b, h => by simp at h
  | x :: l, i, b, h => by
    rw [List.flatMap_cons] at h
    by_cases hi : i < es
    · rw [List.getElem?_append_left (by rw [hf]; exact hi)] at h
      exact ⟨x, by rw [Nat.div_eq_of_lt hi]; rfl, by rw [Nat.mod_eq_of_lt hi]; exact h, by omega⟩
    · rw [List.getElem?_append_right (by rw [hf]; omega), hf] at h
      obtain ⟨a, h1, h2, h3⟩ := flat_get hf h
      refine ⟨a, ?_, ?_, h3⟩
      · rw [show i / es = (i - es) / es + 1 from by rw [← Nat.sub_add_cancel (show es ≤ i by omega), Nat.add_div_right _ h3]; simp]
        simpa using h1
      · rw [Nat.mod_eq_sub_mod (by omega)]
        exact h2
section
variable {H : Type} {enc : TypeId × Value → H} {P : Program} {w : World} {held : Bool}
omit [Rho] in
theorem take_drop1 {α : Type} : ∀ {l : List α} {i : Nat} {c : α}, l[i]? = some c → (l.drop i).take 1 = [c]
  | [], i, c, h => by simp at h
  | a :: l, 0, c, h => by simp at h; subst h; simp
  | a :: l, i + 1, c, h => by
    rw [List.drop_succ_cons]
    exact take_drop1 (by simpa using h)
omit [Rho] in
theorem fld {fs : Array Field} {n : Nat} {cs : List Value} {xs : List (DataW H × List MemPlace)} (hf : ∀ (i : Nat) (f : Field), fs[i]? = some f → DataW.trod enc P w 0 (fun _ => true) held n f.type ((cs.drop f.offset).take (P.cellsOf f.type)) = xs[i]?)
    (i : Nat) {f : Field} (t : TypeId) (off : Nat) {c : Value} {x : DataW H × List MemPlace} (hi : fs[i]? = some f) (ht : f.type = t) (ho : f.offset = off) (hc : P.cellsOf t = 1) (hcs : cs[off]? = some c) (hx : xs[i]? = some x) :
    DataW.trod enc P w 0 (fun _ => true) held n t [c] = some x := by
  have h := hf i f hi
  rw [ht, ho, hc, take_drop1 hcs, hx] at h
  exact h
theorem open_arg {α : Type} {f : α → List AV} {ok : α → Prop} {es : Nat} {t e : TypeId} {v : Value} {d : DataW H} {ps : List MemPlace} (ht : P.underlying t = some (.slice e)) (hc : P.cellsOf e = es) (h0 : 0 < es) (hf : ∀ a, (f a).length = es)
    (hel : ∀ n cs y, DataW.trod enc P w 0 (fun _ => true) held n e cs = some y → ∃ x : α, ok x ∧ Same (f x) cs) (hv : ∃ a n c, v = .slice a n c) (h : DataW.Trod enc P w 0 (fun _ => true) held t v d ps) :
    ∃ xs : List α, (∀ x ∈ xs, ok x) ∧ xs.length ≤ maxLen ∧ ArgS w es v xs.length (xs.flatMap f) := by
  obtain ⟨fuel, hk⟩ := h
  obtain ⟨sa, sn, sc, rfl⟩ := hv
  rcases open_slice ht hk with ⟨hcs, _⟩ | ⟨a, len, cap, m, n, D, Pl, hcs, _, hl, hm, rfl, _, hx⟩
  · simp [Value.cells] at hcs
    obtain ⟨rfl, rfl, rfl⟩ := hcs
    exact ⟨[], by simp, Nat.zero_le _, .inl ⟨rfl, rfl, rfl⟩⟩
  · simp [Value.cells] at hcs
    obtain ⟨rfl, rfl, rfl⟩ := hcs
    have hx : ∀ i, i < sc → ∃ cs', w.cells? 0 (a.add (i * P.cellsOf e)) (P.cellsOf e) = some cs' ∧ DataW.trod enc P w 0 (fun _ => true) held n e cs' = some (D i, Pl i) := hx
    by_cases hn : sn = 0
    · subst hn
      exact ⟨[], by simp, Nat.zero_le _, .inr (.inl ⟨a, sc, rfl, rfl, rfl⟩)⟩
    · have hz : ∃ xs : List α, xs.length = sn ∧ ∀ i x, xs[i]? = some x → ok x ∧ ∃ cs', w.cells? 0 (a.add (i * es)) es = some cs' ∧ Same (f x) cs' :=
        choose_list sn fun i hi => by
          obtain ⟨cs', h1, h2⟩ := hx i (by omega)
          obtain ⟨x, h3, h4⟩ := hel _ _ _ h2
          rw [hc] at h1
          exact ⟨x, h3, cs', h1, h4⟩
      obtain ⟨xs, hlen, hxs⟩ := hz
      have hcell : ∀ j, j < sc * es → ∃ cv, w.cell? (a.add j) = some cv := fun j hj => by
        have hi : j / es < sc := Nat.div_lt_of_lt_mul (by rw [Nat.mul_comm]; exact hj)
        obtain ⟨cs', h1, _⟩ := hx (j / es) hi
        rw [hc] at h1
        obtain ⟨_, h2, h3⟩ := World.cells?_some h1
        have hm := Nat.mod_lt j h0
        have := h3 (j % es) hm
        rw [add_add, show j / es * es + j % es = j from by rw [Nat.mul_comm]; exact Nat.div_add_mod j es, List.getElem?_eq_getElem (by omega)] at this
        exact ⟨_, this⟩
      have hpos : 0 < sc * es := Nat.mul_pos (by omega) h0
      obtain ⟨cv0, hcv0⟩ := hcell 0 hpos
      have hblk : ∃ arr elem fz, w.heap[a.block]? = some (.cells arr elem fz) ∧ a.spot = none := by
        have e0 : a.add 0 = a := by simp [Addr.add]
        rw [e0] at hcv0
        unfold World.cell? at hcv0
        split at hcv0
        · rename_i arr elem fz hb
          refine ⟨arr, elem, fz, hb, ?_⟩
          cases hs : a.spot with
          | none => rfl
          | some k => rw [hs] at hcv0; simp at hcv0
        · cases hcv0
      obtain ⟨arr, elem, fz, hb, hsp⟩ := hblk
      have hat : ∀ j cv, w.cell? (a.add j) = some cv → arr[a.off + j]? = some cv := fun j cv hj => by
        unfold World.cell? Addr.add at hj
        by_cases h0 : j = 0
        · subst h0
          simp only [if_true, hb, hsp] at hj
          simpa using hj
        · simp only [if_neg h0, hb] at hj
          simpa using hj
      have ha : a = ⟨a.block, a.off, none⟩ := by cases a; simp only at hsp; subst hsp; rfl
      refine ⟨xs, fun x hx' => ?_, by omega, .inr (.inr ⟨a.block, a.off, sc, arr, elem, fz, by rw [hlen, ← ha], by omega, by omega, ?_, hb, flat_len hf xs, fun i b hi => ?_⟩)⟩
      · obtain ⟨i, hi⟩ := List.getElem?_of_mem hx'
        exact (hxs i x hi).1
      · obtain ⟨cv, hcv⟩ := hcell (sc * es - 1) (by omega)
        have := (Array.getElem?_eq_some_iff.1 (hat _ _ hcv)).1
        omega
      · obtain ⟨x, h1, h2, _⟩ := flat_get hf hi
        obtain ⟨_, cs', h3, h4⟩ := hxs _ _ h1
        obtain ⟨_, h5, h6⟩ := World.cells?_some h3
        have hm := Nat.mod_lt i h0
        have h7 := h6 (i % es) hm
        rw [add_add, show i / es * es + i % es = i from by rw [Nat.mul_comm]; exact Nat.div_add_mod i es, List.getElem?_eq_getElem (by omega)] at h7
        obtain ⟨o1, o2⟩ := h4.2 (i % es) b _ h2 (List.getElem?_eq_getElem (by omega))
        exact ⟨o1, _, hat _ _ h7, o2⟩
end
theorem add_arg {base : Nat} {μ : Mp} {A : AW} {w : World} {es n : Nat} {v : Value} {cs : List AV} (h : Rel base μ A w) (hro : AllRo A) (hs : ArgS w es v n cs) :
    ∃ a A' μ', Rel base μ' A' w ∧ AllRo A' ∧ Only A A' none' ∧ Full A' es a n cs ∧ VRel μ' a v ∧ ∀ f t p, μ f t = some p → μ' f t = some p := by
  have hwf : Wf A := h.lt
  rcases hs with ⟨rfl, rfl, rfl⟩ | ⟨ad, cap, rfl, rfl, rfl⟩ | ⟨c, off, cap, arr, elem, fz, rfl, hn, hcap, hsz, hb, hlen, hcs⟩
  · exact ⟨.nils, A, μ, h, hro, Only.refl hwf _, .inl ⟨.inl rfl, rfl, rfl⟩, .nils, fun _ _ _ h => h⟩
  · exact ⟨.emp false, A, μ, h, hro, Only.refl hwf _, .inl ⟨.inr ⟨false, rfl⟩, rfl, rfl⟩, .emp ad (fun h => by cases h), fun _ _ _ h => h⟩
  · have hnone : ∀ t, μ A.nxt t = none := fun t => by
      cases hp : μ A.nxt t with
      | none => rfl
      | some q =>
        obtain ⟨_, F, hF, _⟩ := h.dom _ _ _ hp
        have := h.lt _ _ hF
        omega
    have hkeep : ∀ f t p, μ f t = some p → (μ.put A.nxt 0 ⟨c, off, 0, arr.size, es⟩) f t = some p := fun f t q hq => by
      rw [Mp.put_ne]
      · exact hq
      · by_cases e : f = A.nxt
        · subst e; rw [hnone t] at hq; cases hq
        · exact .inl e
    have hinv : ∀ f t q, (μ.put A.nxt 0 ⟨c, off, 0, arr.size, es⟩) f t = some q → (f = A.nxt ∧ t = 0 ∧ q = ⟨c, off, 0, arr.size, es⟩) ∨ (f ≠ A.nxt ∧ μ f t = some q) := fun f t q hq => by
      unfold Mp.put at hq
      split at hq
      · rename_i e; cases hq; exact .inl ⟨e.1, e.2, rfl⟩
      · rename_i e
        refine .inr ⟨fun e' => ?_, hq⟩
        subst e'
        rw [hnone t] at hq
        cases hq
    have hclt : c < w.heap.size := (Array.getElem?_eq_some_iff.1 hb).1
    refine ⟨.slice A.nxt 0 0 n n false, A.add (.cells 0 true es cs), μ.put A.nxt 0 ⟨c, off, 0, arr.size, es⟩, ⟨h.base_le, ?_, ?_, ?_, ?_, ?_⟩, ?_, Only.add hwf _, .inr ⟨A.nxt, 0, 0, n, false, true, cs, rfl, by simp, Nat.le_refl _, ?_⟩, ?_, hkeep⟩
    · intro f F hF
      rw [AW.add_get] at hF
      rw [AW.add_nxt]
      split at hF
      · omega
      · have := h.lt _ _ hF
        omega
    · intro f t q hq
      rcases hinv f t q hq with ⟨rfl, rfl, rfl⟩ | ⟨e, hq⟩
      · exact ⟨hclt, _, by rw [AW.add_get, if_pos rfl], Nat.le_refl _⟩
      · obtain ⟨a1, F, b1, c1⟩ := h.dom _ _ _ hq
        exact ⟨a1, F, by rw [AW.add_get, if_neg e]; exact b1, c1⟩
    · intro f f' F t t' q q' hF hr hq hq' hcc
      rw [AW.add_get] at hF
      split at hF
      · cases hF; cases hr
      · rw [hro f F hF] at hr; cases hr
    · intro f F t q hF hq hr
      rw [AW.add_get] at hF
      split at hF
      · cases hF; cases hr
      · rw [hro f F hF] at hr; cases hr
    · intro f F q hF hq
      rw [AW.add_get] at hF
      by_cases e : f = A.nxt
      · rw [if_pos e] at hF
        cases hF
        rcases hinv _ _ _ hq with ⟨_, _, rfl⟩ | ⟨e', _⟩
        · refine ⟨arr, elem, fz, hb, rfl, rfl, (fun h : true = false => by cases h), fun i a ha _ => ?_⟩
          obtain ⟨o1, cv, o2, o3⟩ := hcs i a ha
          exact ⟨o1, cv, by show arr[i + off - 0]? = _; rw [Nat.sub_zero, Nat.add_comm]; exact o2, o3 _⟩
        · exact absurd e e'
      · rw [if_neg e] at hF
        rcases hinv _ _ _ hq with ⟨e', _⟩ | ⟨_, hq'⟩
        · exact absurd e' e
        · exact (h.con f F q hF hq').mono hkeep rfl
    · intro f F hF
      rw [AW.add_get] at hF
      split at hF
      · cases hF; rfl
      · exact hro f F hF
    · rw [show dropN 0 cs = cs from rfl, takeN_some _ _ (by omega), ← hlen, List.take_length]
    · exact .slice (p := ⟨c, off, 0, arr.size, es⟩) (Mp.put_same _ _ _ _) (by show off + 0 = 0 + off; omega) (Nat.le_refl _) hcap (fun h => by cases h) hsz
end Go.AE
namespace Go.Proofs.YtiecclkgjcnaoaaGreat.Ae
open Go.AE Go.ChangeShapes Go.RowKit
set_option linter.unusedVariables false
set_option maxRecDepth 100000
instance rho0 : Rho := ⟨fun _ => 0, fun _ => false, fun _ => [], fun _ => Nat.zero_le _⟩
theorem readsOk {bs : List Nat} (hs : small bs) : ReadsOk bs := ⟨(dec_fwd bs).1, qD_sh _, fun x hx => (qD_in _ x hx).1, fun h => reads_no hs h, fun h => reads_yes h⟩
theorem wf_u8 {n : Int} (h : (Lit.int .u8 n).wf = true) : ∃ m : Nat, n = (m : Int) ∧ m < 256 := by
  simp only [Lit.wf, Bool.and_eq_true, decide_eq_true_eq] at h
  have h1 : IntKind.u8.min = 0 := by decide
  have h2 : IntKind.u8.max = 255 := by decide
  rw [h1, h2] at h
  exact ⟨n.toNat, by omega, by omega⟩
theorem bys_flat : ∀ l : List Nat, (l.flatMap fun b : Nat => [AV.int .u8 (b : Int)]) = bys l
  | [] => rfl
  | b :: l => by rw [List.flatMap_cons, bys_flat l]; rfl
section
variable {H : Type} {enc : TypeId × Value → H} {w : World} {held : Bool}
theorem open_bytes {v : Value} {d : DataW H} {ps : List MemPlace} (hv : ∃ a n c, v = .slice a n c) (h : DataW.Trod enc Tryz.prog w 0 (fun _ => true) held 22 v d ps) :
    ∃ xs : List Nat, (∀ x ∈ xs, x < 256) ∧ xs.length ≤ maxLen ∧ ArgS w 1 v xs.length (bys xs) := by
  obtain ⟨xs, h1, h2, h3⟩ := open_arg (f := fun b : Nat => [AV.int .u8 (b : Int)]) (ok := fun b => b < 256) Tryz.underlying22 (by kernel_rfl) (by decide) (fun _ => rfl) (fun n cs y h => by
    obtain ⟨m, rfl, _, hm⟩ := DataW.trod_int Tryz.underlying5 h
    obtain ⟨b, rfl, hb⟩ := wf_u8 hm
    exact ⟨b, hb, .cons rfl (fun _ => .int _ _) .nil⟩) hv h
  rw [bys_flat] at h3
  exact ⟨xs, h1, h2, h3⟩
end
theorem classReads {W : World} {v0 : Value} (bs : List Nat) (h256 : ∀ x ∈ bs, x < 256) (hl0 : bs.length ≤ maxLen) (hs0 : ArgS W 1 v0 bs.length (bys bs)) :
    Calls Tryz.prog 3 #[v0] W fun e W' => e = .returned (.bool true) ∧ Below W.heap.size W W' := by
  obtain ⟨a, A, μ, h1, h2, ho, h3, h4, _⟩ := add_arg (rel_none W.heap.size W (Nat.le_refl _)) (fun f F hF => by simp [Tr.get] at hF) hs0
  have hm : maxLen < 9223372036854775808 := by decide
  exact topP (ES_ok envKnown) (classReads_spec h1.lt h3 h256 (by omega) fun _ => readsOk h256) (fun _ _ h => h) h2 h1 (.cons h4 (.nil _))
end Go.Proofs.YtiecclkgjcnaoaaGreat.Ae
