/-
  THE DOCUMENT'S READER OF CLASSES: a field, a class; a class under way.
  NUMBERS IN GROUPS ARE READ BACK; AND SO ARE INSTRUCTIONS: plain, without the program.
-/
import Derived.Test.YtiecclkgjcnaoaaGreatAiSyE11
import Derived.Test.YtiecclkgjcnaoaaGreatAiSyD16
import Derived.Test.YtiecclkgjcnaoaaGreatAiSyC6
namespace Go.Proofs.YtiecclkgjcnaoaaGreat.Ae
open Go.AE
set_option linter.unusedVariables false
set_option maxRecDepth 100000
def qF3 (n : Str × Bool × List Nat) (k : Ty' × Bool × List Nat) (v : Nat × Bool × List Nat) : FiT × Bool × List Nat := (⟨n.1, k.1, decide ((v.1 : Int) = 1)⟩, v.2.1 || decide ((1 : Int) < (v.1 : Int)), v.2.2)
def qF (e : Bool) (bs : List Nat) : FiT × Bool × List Nat :=
  let n := qT e bs
  let k := qK n.2.1 n.2.2
  qF3 n k (qB k.2.1 k.2.2)
def qD5 (n su : Str × Bool × List Nat) (po : List CoT × Bool × List Nat) (fi : List FiT × Bool × List Nat) (me : List MeT × Bool × List Nat) : ClT × Bool :=
  (⟨n.1, su.1, po.1, fi.1, me.1⟩, me.2.1 || decide ((0 : Int) < (me.2.2.length : Int)))
def qD (bs : List Nat) : ClT × Bool :=
  let n := qT false bs
  let su := qT n.2.1 n.2.2
  let po := qM qCo 128 su.2.1 su.2.2
  let fi := qM qF 8 po.2.1 po.2.2
  qD5 n su po fi (qM qMe 12 fi.2.1 fi.2.2)
def docOk (bs : List Nat) : Prop := (5 ≤ bs.length ∧ bs.take 5 = [76, 79, 79, 77, 1]) ∧ (qD (bs.drop 5)).2 = false ∧ clsOk (qD (bs.drop 5)).1 ∧ mods (encC (qD (bs.drop 5)).1) = bs
structure DQ (A A1 : AW) (fc fr : Nat) (v v' : AV) (e : Bool) (bs : List Nat) (f2 f6 N : Nat) (c : ClT) (pv fv mv : AV) : Prop where
  st : QStep A A1 fc fr v v' e bs
  h2 : A1.heap.get f2 = some (.cells 0 false 5 (clc [] [] .nils .nils .nils))
  h6 : A1.heap.get f6 = some (.cells 0 false 5 (clc c.name c.super pv fv mv))
  p : Buf A1 5 pv c.pool.length (c.pool.flatMap coc)
  f : Buf A1 4 fv c.fields.length (c.fields.flatMap fic)
  m : ∃ cs, Buf A1 8 mv c.methods.length cs ∧ MeL A1 N c.methods cs
  op : ∀ g, pv.isFam g → N ≤ g
  of : ∀ g, fv.isFam g → N ≤ g
  om : ∀ g, mv.isFam g → N ≤ g
  hn : N ≤ A1.nxt
theorem DQ.R {A A1 : AW} {fc fr : Nat} {v v1 : AV} {e : Bool} {bs : List Nat} {f2 f6 N : Nat} {c : ClT} {pv fv mv : AV} (h : DQ A A1 fc fr v v1 e bs f2 f6 N c pv fv mv) : ClR A1 N c pv fv mv := by
  obtain ⟨cs, h1, h2⟩ := h.m
  exact ⟨h.p.full, h.f.full, cs, h1.full, h2⟩
theorem DQ.rows {A A1 : AW} {N : Nat} {c : ClT} {pv fv mv : AV} {T : Nat → Prop} (p : Buf A 5 pv c.pool.length (c.pool.flatMap coc)) (f : Buf A 4 fv c.fields.length (c.fields.flatMap fic)) (m : ∃ cs, Buf A 8 mv c.methods.length cs ∧ MeL A N c.methods cs)
    (op : ∀ g, pv.isFam g → N ≤ g) (of : ∀ g, fv.isFam g → N ≤ g) (om : ∀ g, mv.isFam g → N ≤ g) (o : Only A A1 T) (hT : ∀ g, T g → g < N) :
    Buf A1 5 pv c.pool.length (c.pool.flatMap coc) ∧ Buf A1 4 fv c.fields.length (c.fields.flatMap fic) ∧ ∃ cs, Buf A1 8 mv c.methods.length cs ∧ MeL A1 N c.methods cs := by
  obtain ⟨cs, h1, h2⟩ := m
  have key : ∀ {v : AV}, (∀ g, v.isFam g → N ≤ g) → Disj v.isFam T := fun hv g hg ht => by
    have := hv g hg
    have := hT g ht
    omega
  exact ⟨p.keep o (key op), f.keep o (key of), cs, h1.keep o (key om), h2.keep o fun g hg => .inl (hT g hg)⟩
theorem DQ.read {A A1 A2 : AW} {fc fr : Nat} {v v1 v2 : AV} {e e1 : Bool} {bs b1 : List Nat} {f2 f6 N : Nat} {c : ClT} {pv fv mv : AV} (n2 : f2 ≠ fc ∧ f2 ≠ fr) (n6 : f6 ≠ fc ∧ f6 ≠ fr) (hc : fc < N ∧ fr < N)
    (h : DQ A A1 fc fr v v1 e bs f2 f6 N c pv fv mv) (k : QStep A1 A2 fc fr v1 v2 e1 b1) : DQ A A2 fc fr v v2 e1 b1 f2 f6 N c pv fv mv := by
  obtain ⟨p, f, m⟩ := DQ.rows h.p h.f h.m h.op h.of h.om k.only fun g hg => by rcases hg with hg | hg <;> cases hg <;> omega
  exact ⟨h.st.trans k, k.only.keep _ _ h.h2 fun hb => hb.elim n2.1 n2.2, k.only.keep _ _ h.h6 fun hb => hb.elim n6.1 n6.2, p, f, m, h.op, h.of, h.om, Nat.le_trans h.hn k.only.nxt⟩
theorem DQ.put {A A1 A2 : AW} {fc fr : Nat} {v v1 : AV} {e e0 : Bool} {bs b0 : List Nat} {f2 f6 N : Nat} {c c' : ClT} {pv fv mv pv' fv' mv' : AV} {T : Nat → Prop} (hw : Wf A) (h0 : QS A fc fr v e0 b0) (l6 : A.nxt ≤ f6) (n26 : f2 ≠ f6) (s6 : f6 < N) (s2 : f2 < N) (hAN : A.nxt ≤ N)
    (h : DQ A A1 fc fr v v1 e bs f2 f6 N c pv fv mv) (o : Only A1 A2 T) (hT : ∀ g, T g → N ≤ g) (p : Buf A2 5 pv' c'.pool.length (c'.pool.flatMap coc)) (f : Buf A2 4 fv' c'.fields.length (c'.fields.flatMap fic)) (m : ∃ cs, Buf A2 8 mv' c'.methods.length cs ∧ MeL A2 N c'.methods cs)
    (op : ∀ g, pv'.isFam g → N ≤ g) (of : ∀ g, fv'.isFam g → N ≤ g) (om : ∀ g, mv'.isFam g → N ≤ g) :
    A2.heap.get f6 = some (.cells 0 false 5 (clc c.name c.super pv fv mv)) ∧ DQ A (A2.put f6 (.cells 0 false 5 (clc c'.name c'.super pv' fv' mv'))) fc fr v v1 e bs f2 f6 N c' pv' fv' mv' := by
  have h6 := o.keep _ _ h.h6 fun ht => by
    have := hT _ ht
    omega
  have h2 := o.keep _ _ h.h2 fun ht => by
    have := hT _ ht
    omega
  have st := h.st.fresh hw h0 o fun g hg => Nat.le_trans hAN (hT g hg)
  have o6 := Only.put (x := .cells 0 false 5 (clc c'.name c'.super pv' fv' mv')) o.wf (o.wf _ _ h6)
  obtain ⟨p, f, m⟩ := DQ.rows p f m op of om o6 fun g hg => by cases hg; exact s6
  exact ⟨h6, st.fresh hw h0 o6 fun g hg => by cases hg; exact l6, o6.keep _ _ h2 fun e => n26 e, by rw [AW.put_get, if_pos rfl], p, f, m, op, of, om, Nat.le_trans h.hn (Nat.le_trans o.nxt o6.nxt)⟩
theorem DQ.keep {A A1 A2 : AW} {fc fr : Nat} {v v1 : AV} {e e0 : Bool} {bs b0 : List Nat} {f2 f6 N : Nat} {c : ClT} {pv fv mv : AV} {T : Nat → Prop} (hw : Wf A) (h0 : QS A fc fr v e0 b0) (hm0 : c.methods = []) (h : DQ A A1 fc fr v v1 e bs f2 f6 N c pv fv mv) (o : Only A1 A2 T)
    (hT : ∀ g, T g → A.nxt ≤ g ∧ (g ≠ f2 ∧ g ≠ f6) ∧ ¬ pv.isFam g ∧ ¬ fv.isFam g ∧ ¬ mv.isFam g) : DQ A A2 fc fr v v1 e bs f2 f6 N c pv fv mv := by
  obtain ⟨cs, h1, h2⟩ := h.m
  exact ⟨h.st.fresh hw h0 o fun g hg => (hT g hg).1, o.keep _ _ h.h2 fun ht => (hT _ ht).2.1.1 rfl, o.keep _ _ h.h6 fun ht => (hT _ ht).2.1.2 rfl, h.p.keep o fun g hg ht => (hT g ht).2.2.1 hg, h.f.keep o fun g hg ht => (hT g ht).2.2.2.1 hg,
    ⟨cs, h1.keep o fun g hg ht => (hT g ht).2.2.2.2 hg, by rw [hm0] at h2 ⊢; exact h2⟩, h.op, h.of, h.om, Nat.le_trans h.hn o.nxt⟩
theorem DQ.quiet {A A1 A2 : AW} {fc fr : Nat} {v v1 : AV} {e : Bool} {bs : List Nat} {f2 f6 N : Nat} {c : ClT} {pv fv mv : AV} (h : DQ A A1 fc fr v v1 e bs f2 f6 N c pv fv mv) (o : Only A1 A2 none') : DQ A A2 fc fr v v1 e bs f2 f6 N c pv fv mv := by
  obtain ⟨p, f, m⟩ := DQ.rows h.p h.f h.m h.op h.of h.om o fun g hg => hg.elim
  exact ⟨h.st.quiet o, o.keep _ _ h.h2 fun h => h, o.keep _ _ h.h6 fun h => h, p, f, m, h.op, h.of, h.om, Nat.le_trans h.hn o.nxt⟩
theorem buf_es {A : AW} {es : Nat} {v : AV} {n : Nat} {cs : List AV} (h : Buf A es v n cs) {g : Nat} (hg : v.isFam g) : ∃ t cs', A.heap.get g = some (.cells t false es cs') := by
  rcases h with ⟨rfl, _, _⟩ | ⟨f, t, rfl, h1, _, _⟩
  · exact hg.elim
  · cases hg
    exact ⟨t, _, h1⟩
theorem qL_len {α : Type} {p : Bool → List Nat → α × Bool × List Nat} : ∀ (n : Nat) (e : Bool) (bs : List Nat), (qL p n e bs).1.length ≤ n
  | 0, e, bs => Nat.le_refl _
  | n + 1, e, bs => by
    unfold qL
    split
    · exact Nat.zero_le _
    · show (_ :: (qL p n _ _).1).length ≤ n + 1
      rw [List.length_cons]
      have := qL_len (p := p) n (p e bs).2.1 (p e bs).2.2
      omega
theorem qM_len {α : Type} {p : Bool → List Nat → α × Bool × List Nat} {m : Int} {e : Bool} {bs : List Nat} (hm : 0 ≤ m) : ((qM p m e bs).1.length : Int) ≤ m := by
  have h1 := qC_most (b := e) (bs := bs) hm
  have h2 := qL_len (p := p) (qC m e bs).1 (qC m e bs).2.1 (qC m e bs).2.2
  unfold qM
  omega
end Go.Proofs.YtiecclkgjcnaoaaGreat.Ae
namespace Go.Proofs.YtiecclkgjcnaoaaGreat.Ae
open Go.AE
set_option linter.unusedVariables false
theorem or_add {a x k : Nat} (h : a < 2 ^ k) : a ||| (x * 2 ^ k) = a + x * 2 ^ k := by
  have := Nat.shiftLeft_add_eq_or_of_lt h x
  rw [Nat.shiftLeft_eq] at this
  rw [Nat.or_comm, ← this, Nat.add_comm]
theorem pow7 (i : Nat) : 2 ^ (7 * (i + 1)) = 128 * 2 ^ (7 * i) := by
  rw [show 7 * (i + 1) = 7 * i + 7 from by omega, Nat.pow_add, Nat.mul_comm]
theorem pow7_10 {i : Nat} (h : 2 ^ (7 * (i + 1)) < 18446744073709551616) : i + 1 ≤ 9 := by
  have h2 : (2 : Nat) ^ (7 * (i + 1)) < 2 ^ 64 := h
  have := (Nat.pow_lt_pow_iff_right (by decide : 1 < 2)).1 h2
  omega
theorem orG_eq {a m i : Nat} (ha : a < 2 ^ (7 * i)) (hm : a + m % 128 * 2 ^ (7 * i) < 18446744073709551616) : orG a m i = a + m % 128 * 2 ^ (7 * i) := by
  unfold orG
  rw [Nat.mod_eq_of_lt (by omega), or_add ha]
theorem rdG_grp : ∀ (m i a : Nat) (rest : List Nat), i ≤ 9 → a < 2 ^ (7 * i) → (0 < i → 0 < m) → a + m * 2 ^ (7 * i) < 18446744073709551616 → rdG (grp m ++ rest) i a = (a + m * 2 ^ (7 * i), 0, i + (grp m).length) := by
  intro m
  induction m using Nat.strongRecOn with
  | ind m ih =>
    intro i a rest hi ha h0 hlt
    by_cases hm : m < 128
    · rw [grp_lt hm]
      show rdG (m :: rest) i a = _
      rw [rdG_cons, if_neg, if_neg (by omega), orG_eq ha (by rw [Nat.mod_eq_of_lt hm]; exact hlt), Nat.mod_eq_of_lt hm]
      · rfl
      · rintro (⟨rfl, h1⟩ | ⟨h1, h2⟩)
        · have := h0 (by decide)
          have : m * 2 ^ (7 * 9) < 18446744073709551616 := by omega
          have e : (2 : Nat) ^ (7 * 9) = 9223372036854775808 := by decide
          rw [e] at this
          omega
        · have := h0 h1
          omega
    · rw [grp_ge hm]
      have hp : 0 < 2 ^ (7 * i) := Nat.pow_pos (by decide)
      have hsplit : m * 2 ^ (7 * i) = m % 128 * 2 ^ (7 * i) + m / 128 * 2 ^ (7 * (i + 1)) := by
        rw [pow7, ← Nat.mul_assoc, ← Nat.add_mul]
        congr 1
        omega
      have h1 : 1 ≤ m / 128 := by omega
      have hbig : 2 ^ (7 * (i + 1)) ≤ m / 128 * 2 ^ (7 * (i + 1)) := Nat.le_mul_of_pos_left _ h1
      have hi9 : i + 1 ≤ 9 := pow7_10 (by omega)
      show rdG ((m % 128 + 128) :: (grp (m / 128) ++ rest)) i a = _
      rw [rdG_cons, if_neg (by omega), if_pos (by omega)]
      have e : orG a (m % 128 + 128) i = a + m % 128 * 2 ^ (7 * i) := by
        have : (m % 128 + 128) % 128 = m % 128 := by omega
        have h := orG_eq (m := m % 128 + 128) ha (by rw [this]; omega)
        rw [this] at h
        exact h
      rw [e, ih (m / 128) (by omega) (i + 1) _ rest hi9 _ (fun _ => h1) (by omega)]
      · rw [hsplit, List.length_cons]
        simp only [Prod.mk.injEq, true_and]
        omega
      · rw [pow7]
        have : m % 128 * 2 ^ (7 * i) ≤ 127 * 2 ^ (7 * i) := Nat.mul_le_mul_right _ (by omega)
        omega
theorem rdG_back {n : Nat} (h : n < 18446744073709551616) (rest : List Nat) : rdG (grp n ++ rest) 0 0 = (n, 0, (grp n).length) := by
  have := rdG_grp n 0 0 rest (by decide) (by decide) (fun h => absurd h (by decide)) (by simpa using h)
  simpa using this
theorem grp_256 : ∀ (m : Nat), ∀ b ∈ grp m, b < 256 := by
  intro m
  induction m using Nat.strongRecOn with
  | ind m ih =>
    intro b hb
    by_cases hm : m < 128
    · rw [grp_lt hm] at hb
      simp at hb
      omega
    · rw [grp_ge hm] at hb
      rcases List.mem_cons.1 hb with rfl | hb
      · omega
      · exact ih (m / 128) (by omega) b hb
theorem rdC_back {n : Nat} (h : n ≤ 200) (rest : List Nat) : rdC 200 (grp n ++ rest) = (n, 0, (grp n).length) := by
  unfold rdC
  rw [rdG_back (by omega), if_pos rfl, if_neg (by simp only; omega)]
theorem encI_256 {x : In} (h : isP x.1 x.2) : ∀ b ∈ encI x, b < 256 := by
  have hr := (opd_range x.1).2.2 h.1
  intro b hb
  unfold encI at hb
  rcases List.mem_cons.1 hb with rfl | hb
  · omega
  · split at hb
    · exact grp_256 _ b hb
    · exact absurd hb (List.not_mem_nil)
theorem rdI_back {x : In} (h : isP x.1 x.2) (rest : List Nat) : rdI (encI x ++ rest) = (x, 0, (encI x).length) := by
  obtain ⟨op, a⟩ := x
  obtain ⟨h1, h2, h3⟩ := h
  have h1 : opd op ≠ -1 := h1
  have h2 : opd op = 0 → a = 0 := h2
  have h3 : opd op ≠ 0 → 0 ≤ a ∧ a ≤ 999 := h3
  have hr := opd_range op
  have hr2 := hr.2.2 h1
  have e : ((op.toNat : Nat) : Int) = op := by omega
  unfold encI rdI
  simp only [List.cons_append, rdB, e, List.drop_succ_cons, List.drop_zero, List.length_cons]
  rw [if_neg (by decide), if_neg (by omega)]
  by_cases h0 : opd op = 0
  · rw [if_pos h0, if_neg (by omega), h2 h0]
    rfl
  · have ha := h3 h0
    have e2 : ((a.toNat : Nat) : Int) = a := by omega
    rw [if_neg h0]
    simp only [if_pos (show 0 < opd op by omega)]
    rw [rdG_back (by omega), if_neg (fun h => h rfl), if_neg (by simp only; omega)]
    simp only [e2, Nat.add_comm]
theorem rdNs_back : ∀ (l : List In) (acc : List In) (rest : List Nat), (∀ x ∈ l, isP x.1 x.2) → rdNs l.length (l.flatMap encI ++ rest) acc = if 0 < rest.length then ([], 31) else (acc ++ l, 0)
  | [], acc, rest, _ => by
    show (if 0 < rest.length then (([] : List In), (31 : Int)) else (acc, 0)) = _
    rw [List.append_nil]
  | x :: l, acc, rest, h => by
    have h1 := rdI_back (h x (List.mem_cons_self ..)) (l.flatMap encI ++ rest)
    have ih := rdNs_back l (acc ++ [x]) rest fun y hy => h y (List.mem_cons_of_mem _ hy)
    rw [List.flatMap_cons, List.append_assoc]
    rw [List.length_cons, rdNs, h1, if_neg (fun h => h rfl)]
    simp only [List.drop_left]
    rw [ih, List.append_assoc]
    rfl
theorem getL_back {l : List In} (hl : l.length ≤ 200) (h : ∀ x ∈ l, isP x.1 x.2) (rest : List Nat) : getL (grp l.length ++ l.flatMap encI ++ rest) = if 0 < rest.length then ([], 31) else (l, 0) := by
  unfold getL
  rw [List.append_assoc, rdC_back hl, if_neg (fun h => h rfl)]
  simp only [List.drop_left]
  exact rdNs_back l [] rest h
theorem putL_lt (l : List In) : ∀ b ∈ (putL l).1, b < 256 := by
  unfold putL
  split
  · exact fun b hb => absurd hb (List.not_mem_nil)
  · split
    · exact fun b hb => absurd hb (List.not_mem_nil)
    · rename_i hl hp
      intro b hb
      rcases List.mem_append.1 hb with hb | hb
      · exact grp_256 _ b hb
      · obtain ⟨x, hx, hb⟩ := List.mem_flatMap.1 hb
        exact encI_256 (Decidable.byContradiction fun hn => hp ⟨x, hx, hn⟩) b hb
theorem putL_cases (l : List In) : ((putL l).1 = [] ∧ (putL l).2 ≠ 0) ∨ ((putL l).2 = 0 ∧ l.length ≤ 200 ∧ (∀ x ∈ l, isP x.1 x.2) ∧ (putL l).1 = grp l.length ++ l.flatMap encI) := by
  unfold putL
  split
  · exact .inl ⟨rfl, by decide⟩
  · split
    · exact .inl ⟨rfl, by decide⟩
    · rename_i hl hp
      exact .inr ⟨rfl, by omega, fun x hx => Decidable.byContradiction fun hn => hp ⟨x, hx, hn⟩, rfl⟩
theorem putL_len (l : List In) : (putL l).1.length ≤ 3000 := by
  rcases putL_cases l with ⟨h, _⟩ | ⟨_, h1, h2, h3⟩
  · rw [h]; exact Nat.zero_le _
  · have a := flat_le h2
    have b := grp_len10 (n := l.length) (by omega)
    rw [h3, List.length_append]
    omega
end Go.Proofs.YtiecclkgjcnaoaaGreat.Ae
