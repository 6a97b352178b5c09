/-
  THE DOCUMENT'S NEW, by the rules.
-/
import Derived.Test.YtokieeiohfcgdaaAiSyT19
namespace Go.Proofs.Ytokieeiohfcgdaa.Ae
open Go.AE
set_option linter.unusedVariables false
set_option maxRecDepth 100000

theorem ix_app : ∀ (l : List Str) (x k : Str) (i : Nat), ix (l ++ [x]) k i = if k ∈ l then ix l k i else if k = x then ((i + l.length : Nat) : Int) else -1
  | [], x, k, i => by
    rw [if_neg (List.not_mem_nil)]
    rfl
  | y :: l, x, k, i => by
    show (if k = y then (i : Int) else ix (l ++ [x]) k (i + 1)) = if k ∈ y :: l then (if k = y then (i : Int) else ix l k (i + 1)) else _
    by_cases h : k = y
    · rw [if_pos h, if_pos h, if_pos (h ▸ List.mem_cons_self ..)]
    · rw [if_neg h, if_neg h, ix_app l x k (i + 1)]
      by_cases hm : k ∈ l
      · rw [if_pos hm, if_pos (List.mem_cons_of_mem _ hm)]
      · rw [if_neg hm, if_neg (fun e => (List.mem_cons.1 e).elim h hm), List.length_cons, show i + 1 + l.length = i + (l.length + 1) from by omega]
/-- Each name lies but once. -/
def Uq (hs : Hs) : Prop := ∀ (i : Nat) (p : Str × Str), hs[i]? = some p → ix (hs.map Prod.fst) p.1 0 = (i : Int)
theorem uq_base : Uq base := fun i p h => by
  match i, h with
  | 0, h => cases h; rfl
  | 1, h => cases h; rfl
  | i + 2, h => cases h
theorem uq_app {hs : Hs} (h : Uq hs) {n s : Str} (hn : has hs n = false) : Uq (hs ++ [(n, s)]) := fun i p hp => by
  rw [List.map_append]
  show ix (hs.map Prod.fst ++ [n]) p.1 0 = _
  rw [ix_app]
  by_cases hi : i < hs.length
  · rw [List.getElem?_append_left hi] at hp
    rw [if_pos (List.mem_map.2 ⟨p, List.mem_of_getElem? hp, rfl⟩)]
    exact h i p hp
  · rw [List.getElem?_append_right (by omega)] at hp
    have hl := (List.getElem?_eq_some_iff.1 hp).1
    rw [List.length_singleton] at hl
    have e : i = hs.length := by omega
    subst e
    rw [Nat.sub_self] at hp
    cases hp
    have hno : ¬ n ∈ hs.map Prod.fst := fun hm => by
      have := (ix_has hs n).1 ((ix_mem _ n 0).2 hm)
      rw [hn] at this
      cases this
    rw [if_neg hno, if_pos rfl, List.length_map, Nat.zero_add]
theorem uq_lk {hs : Hs} (h : Uq hs) {i : Nat} {k s : Str} (hp : hs[i]? = some (k, s)) : has hs k = true ∧ lk hs k = some s := by
  have hx : ix (hs.map Prod.fst) k 0 = (i : Int) := h i _ hp
  have hh : has hs k = true := (ix_has hs k).1 (by rw [hx]; omega)
  refine ⟨hh, ?_⟩
  obtain ⟨v, hv⟩ : ∃ v, lk hs k = some v := by
    unfold has at hh
    exact Option.isSome_iff_exists.1 hh
  obtain ⟨j, h1, h2⟩ := lk_ix hs k v 0 hv
  rw [hx] at h1
  have e : i = j := by omega
  subst e
  rw [hp] at h2
  cases h2
  exact hv
theorem hd_app {hs : Hs} (h : Hd hs) (p : Str × Str) : Hd (hs ++ [p]) := by
  obtain ⟨l, rfl⟩ := h
  exact ⟨l ++ [p], rfl⟩
/-- The list that is whole. -/
structure Whole (ns : List Str) (hs : Hs) : Prop where
  uq : Uq hs
  names : hs.map Prod.fst = objN :: fauN :: ns
  sup : hs[1]? = some (fauN, objN)
theorem Whole.obj {ns : List Str} {hs : Hs} (h : Whole ns hs) : has hs objN = true := (ix_has hs objN).1 (by
  rw [h.names]
  show 0 ≤ (if objN = objN then ((0 : Nat) : Int) else _)
  rw [if_pos rfl]
  exact Int.le_refl _)
theorem Whole.at {ns : List Str} {hs : Hs} (h : Whole ns hs) {i : Nat} {p : Str × Str} (hp : hs[i]? = some p) (hi : 1 ≤ i) : (i = 1 ∧ p = (fauN, objN)) ∨ p.1 ∈ ns := by
  match i, hi, hp with
  | 1, _, hp =>
    rw [h.sup] at hp
    cases hp
    exact .inl ⟨rfl, rfl⟩
  | i + 2, _, hp =>
    have : (hs.map Prod.fst)[i + 2]? = some p.1 := by rw [List.getElem?_map, hp]; rfl
    rw [h.names] at this
    exact .inr (List.mem_of_getElem? (show ns[i]? = some p.1 from this))
theorem Whole.of {ns : List Str} {hs : Hs} (h : Whole ns hs) {n : Str} (hn : n ∈ ns) : ∃ i s, 1 ≤ i ∧ hs[i]? = some (n, s) := by
  obtain ⟨i, hi⟩ := List.getElem?_of_mem hn
  have : (hs.map Prod.fst)[i + 2]? = some n := by rw [h.names]; exact hi
  rw [List.getElem?_map] at this
  obtain ⟨p, hp, e⟩ := Option.map_eq_some_iff.1 this
  subst e
  exact ⟨i + 2, p.2, by omega, hp⟩
theorem up_of {hs : Hs} {k s : Str} (h : lk hs k = some s) : up hs k = s := by unfold up; rw [h]; rfl
theorem Whole.lost {ns : List Str} {hs : Hs} (h : Whole ns hs) {i : Nat} {k s : Str} (hp : hs[i]? = some (k, s)) (hi : 1 ≤ i) (hx : ¬ has hs s = true) : ∃ n ∈ ns, ¬ has hs (up hs n) = true := by
  rcases h.at hp hi with ⟨_, e⟩ | e
  · cases e
    exact absurd h.obj hx
  · exact ⟨k, e, by rw [up_of (uq_lk h.uq hp).2]; exact hx⟩
theorem Whole.found {ns : List Str} {hs : Hs} (h : Whole ns hs) (ha : ∀ (i : Nat) (p : Str × Str), 1 ≤ i → hs[i]? = some p → has hs p.2 = true) : ¬ ∃ n ∈ ns, ¬ has hs (up hs n) = true := fun ⟨n, hn, hx⟩ => by
  obtain ⟨i, s, hi, hp⟩ := h.of hn
  refine hx ?_
  rw [up_of (uq_lk h.uq hp).2]
  exact ha i _ hi hp
theorem Whole.ring {ns : List Str} {hs : Hs} (h : Whole ns hs) {i : Nat} {p : Str × Str} (hp : hs[i]? = some p) (hi : 1 ≤ i) (hx : rndF hs (hs.length + 1) p.1 = true) : ∃ n ∈ ns, rndF hs (hs.length + 1) n = true := by
  rcases h.at hp hi with ⟨_, e⟩ | e
  · rw [e] at hx
    have hu : up hs fauN = objN := up_of (uq_lk h.uq h.sup).2
    unfold rndF at hx
    rw [if_neg (by decide), hu] at hx
    cases hl : hs.length with
    | zero =>
      have := (List.getElem?_eq_some_iff.1 h.sup).1
      omega
    | succ m =>
      rw [hl] at hx
      unfold rndF at hx
      rw [if_pos rfl] at hx
      cases hx
  · exact ⟨_, e, hx⟩
theorem Whole.noring {ns : List Str} {hs : Hs} (h : Whole ns hs) (ha : ∀ (i : Nat) (p : Str × Str), 1 ≤ i → hs[i]? = some p → rndF hs (hs.length + 1) p.1 = false) : ¬ ∃ n ∈ ns, rndF hs (hs.length + 1) n = true := fun ⟨n, hn, hx⟩ => by
  obtain ⟨i, s, hi, hp⟩ := h.of hn
  have := ha i _ hi hp
  rw [this] at hx
  cases hx

/-! ### In memory -/
theorem vec_still {A : AW} {es : Nat} {v : AV} {n : Nat} {cs : List AV} (h : Vec A es v n cs) : valEq v v = true := by
  have key : ∀ (f t : Nat) (ex : Bool), valEq (.slice f t 0 n n ex) (.slice f t 0 n n ex) = true := fun f t ex => by
    show (Nat.beq f f && Nat.beq t t && Nat.beq 0 0 && Nat.beq n n && Nat.beq n n && (ex == ex)) = true
    simp only [Nat.beq_refl, beq_self_eq_true, Bool.and_self]
  rcases h with (⟨rfl, _⟩ | ⟨f, t, rfl, _⟩) | ⟨f, t, rfl, _⟩
  · rfl
  · exact key f t false
  · exact key f t true
theorem vec_under {A : AW} {es : Nat} {v : AV} {n : Nat} {cs : List AV} (hw : Wf A) (h : Vec A es v n cs) : Under A v.isFam := fun g hg => by
  obtain ⟨t, ht⟩ := vec_fam h hg
  exact hw _ _ ht
theorem src_one {A : AW} {f : Nat} {x : AV} (h : A.heap.get f = some (.cells 0 false 1 [x])) : srcA A 1 (.slice f 0 0 1 1 true) = some (1, [x]) := by
  simp only [srcA, readCells, h]
  rfl
theorem vec_put {E : Env} {A : AW} {t e : TypeId} {d de : ATy} {z : List AV} {v x : AV} {n : Nat} {cs xs : List AV} (ht : E.tys.get t = some d) (hs : d.desc = .slice e) (he : E.tys.get e = some de) (hz : de.zero = some z)
    (hw : Wf A) (hb : Vec A de.size v n cs) (hx : srcA A de.size x = some (1, xs)) (hl : xs.length = 1 * de.size) (h1 : 1 ≤ de.size) (hr : roomA (n + 1) de.bytes = true) :
    ∃ v' A1, appendA E t v x A = .val v' A1 ∧ Grew A A1 de.size v v' (n + 1) (cs ++ xs) := by
  rcases hb with hb | ⟨f, u, rfl, g1, g2⟩
  · exact append_buf ht hs he hz hw hb hx hl h1 hr
  · have o2 : Only A (A.add (.cells 0 false de.size (cs ++ xs))) none' := Only.add hw _
    have e1 : Nat.ble 1 de.size = true := Nat.ble_eq_true_of_le h1
    have e2 : Nat.ble (Nat.add n 1) n = false := by
      rw [ble_dec]
      exact decide_eq_false (by show ¬ n + 1 ≤ n; omega)
    have e3 : takeN (Nat.mul n de.size) (dropN 0 cs) = some cs := by
      rw [show dropN 0 cs = cs from rfl, takeN_some _ _ (by rw [g2]; exact Nat.le_refl _), show Nat.mul n de.size = n * de.size from rfl, ← g2, List.take_length]
    have hr' : roomA (Nat.add n 1) de.bytes = true := hr
    refine ⟨.slice A.nxt 0 0 (Nat.add n 1) (Nat.add n 1) false, A.add (.cells 0 false de.size (cs ++ xs)), ?_, .inr ⟨_, 0, rfl, by rw [AW.add_get, if_pos rfl], by rw [List.length_append, g2, hl, Nat.add_mul], Nat.succ_pos _⟩, o2.mono fun g h => h.elim, fun g hg => .inr ?_⟩
    · unfold appendA
      simp only [ht, hs, he, hz, hx, show Nat.beq 1 0 = false from rfl, cond_false, e1, cond_true, appendRow, g1, Nat.beq_refl, Bool.and_self, e2, hr', e3]
      rfl
    · cases hg
      exact Nat.le_refl _
/-- The document's hierarchy under way. -/
structure NR (A A1 : AW) (fr : Nat) (vn vs : AV) (hs : Hs) : Prop where
  ri : Ri A1 fr vn vs hs
  only : Only A A1 none'
  n1 : A.nxt ≤ fr
  n2 : ∀ g, vn.isFam g → A.nxt ≤ g
  n3 : ∀ g, vs.isFam g → A.nxt ≤ g
  dj : Disj vn.isFam vs.isFam
theorem Ri.nn {A : AW} {fr : Nat} {vn vs : AV} {hs : Hs} (h : Ri A fr vn vs hs) : ¬ vn.isFam fr := fun e => by
  obtain ⟨t, ht⟩ := vec_fam h.n e
  rw [h.cell] at ht
  cases ht
theorem Ri.ns {A : AW} {fr : Nat} {vn vs : AV} {hs : Hs} (h : Ri A fr vn vs hs) : ¬ vs.isFam fr := fun e => by
  obtain ⟨t, ht⟩ := vec_fam h.s e
  rw [h.cell] at ht
  cases ht
theorem NR.keep {A A1 A2 : AW} {fr : Nat} {vn vs : AV} {hs : Hs} (h : NR A A1 fr vn vs hs) (o : Only A1 A2 none') : NR A A2 fr vn vs hs :=
  ⟨h.ri.keep o, h.only.same o, h.n1, h.n2, h.n3, h.dj⟩
/-- One name more, one above it. -/
theorem NR.push {A A1 A2 A3 : AW} {fr : Nat} {vn vs vn' vs' : AV} {hs : Hs} {n s : Str} (hw : Wf A) (h : NR A A1 fr vn vs hs) (g1 : Grew A1 A2 1 vn vn' (hs.length + 1) (sts (hs.map Prod.fst) ++ [.str n]))
    (g2 : Grew A2 A3 1 vs vs' (hs.length + 1) (sts (hs.map Prod.snd) ++ [.str s])) :
    A3.heap.get fr = some (.cells 0 false 2 [vn, vs]) ∧ ∀ A4, Only A3 A4 (one fr) → A4.heap.get fr = some (.cells 0 false 2 [vn', vs']) → NR A A4 fr vn' vs' (hs ++ [(n, s)]) := by
  have c2 := g1.only.keep _ _ h.ri.cell h.ri.nn
  have c3 := g2.only.keep _ _ c2 h.ri.ns
  have un := vec_under h.only.wf h.ri.n
  have us := vec_under h.only.wf h.ri.s
  have o2 : Only A A2 none' := Only.fresh hw h.only g1.only h.n2
  have o3 : Only A A3 none' := Only.fresh hw o2 g2.only h.n3
  have d1 : Disj vn'.isFam vs.isFam := fun g hg hg' => by
    rcases g1.grow g hg with e | e
    · exact h.dj g e hg'
    · have := us g hg'
      omega
  have b1 : Buf A3 1 vn' (hs.length + 1) (sts (hs.map Prod.fst) ++ [.str n]) := g1.buf.keep g2.only d1
  have un2 : Under A2 vn'.isFam := vec_under o2.wf (.inl g1.buf)
  have d2 : Disj vn'.isFam vs'.isFam := fun g hg hg' => by
    rcases g2.grow g hg' with e | e
    · exact d1 g hg e
    · have := un2 g hg
      omega
  have nf : ∀ {v : AV} {cs : List AV} {k : Nat}, Buf A3 1 v k cs → Disj v.isFam (one fr) := fun {v cs k} b g hg e => by
    cases e
    obtain ⟨t, ht⟩ := vec_fam (.inl b) hg
    rw [c3] at ht
    cases ht
  refine ⟨c3, fun A4 op c4 => ⟨⟨c4, ?_, ?_⟩, Only.fresh hw o3 op fun g hg => by cases hg; exact h.n1, h.n1, fun g hg => ?_, fun g hg => ?_, d2⟩⟩
  · rw [List.map_append, sts_append, List.length_append, List.length_singleton]
    exact .inl (b1.keep op (nf b1))
  · rw [List.map_append, sts_append, List.length_append, List.length_singleton]
    exact .inl (g2.buf.keep op (nf g2.buf))
  · rcases g1.grow g hg with e | e
    · exact h.n2 g e
    · exact Nat.le_trans h.only.nxt e
  · rcases g2.grow g hg with e | e
    · exact h.n3 g e
    · exact Nat.le_trans o2.nxt e
theorem stillS {K : FuncId} {C : FnE} {l : Kn} {A : AW} {d : Option Tmp} {t : Tmp} {pos : String} {ty : TypeId} {after : Array Edge} {g : Option (Nat × Bool)} {f : Nat} {vn vs : AV} {n : Nat} {cs : List AV} (hl : l.find t = some (.ptr f 0 1)) (hf : A.heap.get f = some (.cells 0 false 2 [vn, vs])) (hv : Vec A 1 vs n cs) :
    (∀ F, Kf C l F → execA (ES K) F ⟨d, .load 23 (.tmp t), ty, pos, after, g⟩ A = .val vs A) ∧ valEq vs vs = true := by
  refine ⟨fun F hF => ?_, vec_still hv⟩
  show liftR (loadA (ES K) 23 (ev F (.tmp t)) A) = _
  rw [hF.ev (x := .tmp t) (v := .ptr f 0 1) hl, loadA_eq (dt := d23) rfl rfl hf rfl]
  rfl
end Go.Proofs.Ytokieeiohfcgdaa.Ae
namespace Go.Proofs.Ytokieeiohfcgdaa.Ae
open Go.AE
set_option linter.unusedVariables false
set_option maxRecDepth 100000

theorem rnew_err {A1 : AW} {ns ss : List Str} {r : AV} {e : Int} (h : newT ns ss = ([], e)) (he : e ≠ 0) (hr : r = .tuple [.nilp, .int .i64 e]) :
    ((newT ns ss).2 ≠ 0 ∧ r = .tuple [.nilp, .int .i64 (newT ns ss).2]) ∨ ((newT ns ss).2 = 0 ∧ ∃ fr vn vs, r = .tuple [.ptr fr 0 0, .int .i64 0] ∧ Ri A1 fr vn vs (newT ns ss).1 ∧ Hd (newT ns ss).1) := by
  rw [h]
  exact .inl ⟨he, hr⟩
set_option maxHeartbeats 4000000 in
theorem rmk_spec {K : FuncId} {A : AW} {v0 v1 : AV} {ns ss : List Str} (hw : Wf A) (hr0 : Row A 1 v0 ns.length (sts ns)) (hr1 : Row A 1 v1 ss.length (sts ss)) (hln : ∀ n ∈ ns, n.length < 9223372036854775807) :
    CallP (ES K) 25 [v0, v1] A fun r A1 => Only A A1 none' ∧
      (((newT ns ss).2 ≠ 0 ∧ r = .tuple [.nilp, .int .i64 (newT ns ss).2]) ∨ ((newT ns ss).2 = 0 ∧ ∃ fr vn vs, r = .tuple [.ptr fr 0 0, .int .i64 0] ∧ Ri A1 fr vn vs (newT ns ss).1 ∧ Hd (newT ns ss).1)) := by
  refine call_of rfl rfl rfl ?_
  repeat (first | refine wg_seq ?_ | refine wg_region ?_ | refine wo_nil ?_ | refine wo_move rfl rfl ?_ | refine wo_assign rfl rfl ?_)
  refine wo_len rfl rfl rfl hr0.lenV ?_
  repeat refine wo_move rfl rfl ?_
  refine wo_len rfl rfl rfl hr1.lenV ?_
  repeat (first | refine wo_nil ?_ | refine wo_neq rfl rfl rfl ?_)
  refine wg_dec rfl (fun h1 => ?_) fun h1 => ?_
  · have h1 : ns.length ≠ ss.length := fun e => h1 (by rw [e])
    have e : newT ns ss = ([], 50) := by unfold newT; rw [if_pos h1]
    repeat (first | refine wg_seq ?_ | refine wg_region ?_ | refine wo_nil ?_ | refine wo_assign rfl rfl ?_)
    exact wg_ret rfl ⟨Only.refl hw _, rnew_err e (by decide) rfl⟩
  have h1 : ns.length = ss.length := by
    have h1 : ¬ (ns.length : Int) ≠ (ss.length : Int) := h1
    omega
  repeat (first | refine wg_seq ?_ | refine wg_skip ?_ | refine wg_region ?_ | refine wo_move rfl rfl ?_)
  refine wo_len rfl rfl rfl hr0.lenV ?_
  repeat (first | refine wo_nil ?_ | refine wo_gtr rfl rfl rfl ?_)
  refine wg_dec rfl (fun h2 => ?_) fun h2 => ?_
  · have h2 : 16 < ns.length := by
      have : (16 : Int) < (ns.length : Int) := h2
      omega
    have e : newT ns ss = ([], 32) := by unfold newT; rw [if_neg (fun h => h h1), if_pos h2]
    repeat (first | refine wg_seq ?_ | refine wg_region ?_ | refine wo_nil ?_ | refine wo_assign rfl rfl ?_)
    exact wg_ret rfl ⟨Only.refl hw _, rnew_err e (by decide) rfl⟩
  have h2 : ¬ 16 < ns.length := by
    have : ¬ (16 : Int) < (ns.length : Int) := h2
    omega
  have hN : newT ns ss = if (addAll (ns.zip ss) base).2 ≠ 0 then ([], (addAll (ns.zip ss) base).2) else if ∃ n ∈ ns, ¬ has (addAll (ns.zip ss) base).1 (up (addAll (ns.zip ss) base).1 n) = true then ([], 70)
      else if ∃ n ∈ ns, rndF (addAll (ns.zip ss) base).1 ((addAll (ns.zip ss) base).1.length + 1) n = true then ([], 71) else ((addAll (ns.zip ss) base).1, 0) := by
    unfold newT
    rw [if_neg (fun h => h h1), if_neg h2]
  repeat (first | refine wg_seq ?_ | refine wg_skip ?_)
  refine wg_region ?_
  refine wo_buildSlice rfl rfl rfl ?_
  refine wo_A (fun A1 => Only A A1 none' ∧ A1.heap.get A.nxt = some (.cells 0 false 1 [.str objN, .str fauN])) ⟨Only.add hw _, by rw [AW.add_get, if_pos rfl]; rfl⟩ ?_
  rintro A1 ⟨o1, hn1⟩
  generalize hfn : A.nxt = fn at hn1
  have n1 : A.nxt ≤ fn := by omega
  have ln1 := o1.wf _ _ hn1
  refine wo_buildSlice rfl rfl rfl ?_
  refine wo_A (fun A2 => Only A1 A2 none' ∧ A2.heap.get A1.nxt = some (.cells 0 false 1 [.str [], .str objN])) ⟨Only.add o1.wf _, by rw [AW.add_get, if_pos rfl]; rfl⟩ ?_
  rintro A2 ⟨o2, hs2⟩
  have n2 := o1.nxt
  have hne : fn ≠ A1.nxt := by omega
  generalize A1.nxt = fs at hs2 n2 hne
  have hn2 := o2.keep _ _ hn1 fun h => h
  have o12 := o1.same o2
  repeat refine wo_build rfl rfl rfl ?_
  refine wo_box rfl rfl rfl rfl ?_
  refine wo_A (fun A5 => NR A A5 A2.nxt (.slice fn 0 0 2 2 true) (.slice fs 0 0 2 2 true) base) ⟨⟨by rw [AW.add_get, if_pos rfl]; rfl, .inr ⟨fn, 0, rfl, (Only.add o12.wf none').keep _ _ hn2 fun h => h, rfl⟩, .inr ⟨fs, 0, rfl, (Only.add o12.wf none').keep _ _ hs2 fun h => h, rfl⟩⟩, o12.same (Only.add o12.wf _), o12.nxt, fun g hg => by cases hg; exact n1, fun g hg => by cases hg; exact n2, fun g hg hg' => by cases hg; exact hne hg'⟩ ?_
  rintro A5 ni
  generalize A2.nxt = fr at ni
  repeat (first | refine wg_seq ?_ | refine wg_block ?_ | refine wg_region ?_ | refine wo_nil ?_ | refine wo_assign rfl rfl ?_)
  refine wg_loop ?_
  refine wg_le (.put 0 v0 (.put 1 v1 (.put 6 (.ptr fr 0 0) (.put 7 (.int .i64 ((0 : Nat) : Int)) .nil)))) ?_ ⟨rfl, rfl, rfl, rfl, trivial⟩
  refine wg_ind (ι := Nat × Hs × AV × AV) (fun i => ns.length - i.1) (fun i => .put 0 v0 (.put 1 v1 (.put 6 (.ptr fr 0 0) (.put 7 (.int .i64 (i.1 : Int)) .nil))))
    (fun i A1 => NR A A1 fr i.2.2.1 i.2.2.2 i.2.1 ∧ i.1 ≤ ns.length ∧ i.2.1.length = i.1 + 2 ∧ addAll ((ns.zip ss).drop i.1) i.2.1 = addAll (ns.zip ss) base ∧ Uq i.2.1 ∧ Hd i.2.1 ∧ i.2.1.map Prod.fst = objN :: fauN :: ns.take i.1 ∧ i.2.1[1]? = some (fauN, objN)) ?_ (0, base, .slice fn 0 0 2 2 true, .slice fs 0 0 2 2 true) A5 ⟨ni, Nat.zero_le _, rfl, rfl, uq_base, ⟨_, rfl⟩, rfl, rfl⟩
  rintro ⟨i, hs, vn, vs⟩ A1 ⟨ni, hi, hl, hadd, huq, hhd, hnm, hsp⟩ ih
  have ni : NR A A1 fr vn vs hs := ni
  have hi : i ≤ ns.length := hi
  have hl : hs.length = i + 2 := hl
  have hadd : addAll ((ns.zip ss).drop i) hs = addAll (ns.zip ss) base := hadd
  have huq : Uq hs := huq
  have hhd : Hd hs := hhd
  have hnm : hs.map Prod.fst = objN :: fauN :: ns.take i := hnm
  have hsp : hs[1]? = some (fauN, objN) := hsp
  have hr0' := hr0.keep ni.only fun _ _ h => h
  have hr1' := hr1.keep ni.only fun _ _ h => h
  repeat (first | refine wg_seq ?_ | refine wg_region ?_ | refine wo_move rfl rfl ?_)
  refine wo_len rfl rfl rfl hr0'.lenV ?_
  repeat (first | refine wo_nil ?_ | refine wo_lss rfl rfl rfl ?_)
  refine wg_dec rfl (fun hlt => ?_) fun hge => ?_
  · have hlt : i < ns.length := Int.ofNat_lt.1 hlt
    have hlt1 : i < ss.length := by omega
    obtain ⟨n, hn⟩ : ∃ n, ns[i]? = some n := ⟨ns[i], List.getElem?_eq_getElem hlt⟩
    obtain ⟨s, hs1⟩ : ∃ s, ss[i]? = some s := ⟨ss[i], List.getElem?_eq_getElem hlt1⟩
    have hz : (ns.zip ss)[i]? = some (n, s) := List.getElem?_zip_eq_some.2 ⟨hn, hs1⟩
    have hzl := (List.getElem?_eq_some_iff.1 hz).1
    have hd : (ns.zip ss).drop i = (n, s) :: (ns.zip ss).drop (i + 1) := by
      rw [List.getElem?_eq_getElem hzl, Option.some.injEq] at hz
      rw [← hz]
      exact List.drop_eq_getElem_cons hzl
    rw [hd] at hadd
    have hadd : (if ¬ isN n then ([], 50) else if has hs n = true then ([], 53) else addAll ((ns.zip ss).drop (i + 1)) (hs ++ [(n, if s = [] then objN else s)])) = addAll (ns.zip ss) base := hadd
    obtain ⟨f, t, o, c, ex, ro, all, e0, hh, _, hat⟩ := row_str hr0' hn
    obtain ⟨f1, t1, o1', c1, ex1, ro1, all1, e1, hh1, _, hat1⟩ := row_str hr1' hs1
    repeat (first | refine wg_seq ?_ | refine wg_skip ?_ | refine wg_block ?_ | refine wg_region ?_ | refine wo_move rfl rfl ?_)
    refine wo_indexAddr i rfl (congrArg some e0) rfl rfl rfl hlt ?_
    refine wo_load rfl rfl rfl rfl hh hat ?_
    refine wo_call rfl rfl orc_cons rfl (rname_spec (hln n (List.mem_of_getElem? hn))) ?_
    rintro r A2 ⟨rfl, e2⟩
    obtain rfl : A1 = A2 := e2.symm
    repeat (first | refine wo_nil ?_ | refine wo_not rfl rfl ?_)
    refine wg_if rfl (fun hb => ?_) fun hb => ?_
    · have hb : ¬ isN n := fun h => by rw [decide_eq_true h] at hb; cases hb
      rw [if_pos hb] at hadd
      have e : newT ns ss = ([], 50) := by rw [hN, ← hadd, if_pos (by decide)]
      repeat (first | refine wg_seq ?_ | refine wg_region ?_ | refine wo_nil ?_ | refine wo_assign rfl rfl ?_)
      exact wg_ret rfl ⟨ni.only, rnew_err e (by decide) rfl⟩
    have hb : isN n := Decidable.byContradiction fun h => by rw [decide_eq_false h] at hb; cases hb
    rw [if_neg (fun h => h hb)] at hadd
    repeat (first | refine wg_seq ?_ | refine wg_skip ?_ | refine wg_region ?_ | refine wo_move rfl rfl ?_)
    refine wo_indexAddr i rfl (congrArg some e0) rfl rfl rfl hlt ?_
    refine wo_load rfl rfl rfl rfl hh hat ?_
    refine wo_call rfl rfl orc_cons rfl (at_spec ni.ri (by omega)) ?_
    rintro r A2 ⟨rfl, e2⟩
    obtain rfl : A1 = A2 := e2.symm
    repeat (first | refine wo_nil ?_ | refine wo_geq rfl rfl rfl ?_)
    refine wg_dec rfl (fun hb2 => ?_) fun hb2 => ?_
    · rw [if_pos ((ix_has hs n).1 hb2)] at hadd
      have e : newT ns ss = ([], 53) := by rw [hN, ← hadd, if_pos (by decide)]
      repeat (first | refine wg_seq ?_ | refine wg_region ?_ | refine wo_nil ?_ | refine wo_assign rfl rfl ?_)
      exact wg_ret rfl ⟨ni.only, rnew_err e (by decide) rfl⟩
    have hb2 : ¬ has hs n = true := fun h => hb2 ((ix_has hs n).2 h)
    rw [if_neg hb2] at hadd
    have hno : has hs n = false := by
      cases hx : has hs n
      · rfl
      · exact absurd hx hb2
    generalize hw' : (if s = [] then objN else s) = w at hadd
    repeat (first | refine wg_seq ?_ | refine wg_skip ?_ | refine wg_region ?_ | refine wo_move rfl rfl ?_)
    refine wo_indexAddr i rfl (congrArg some e1) rfl rfl rfl hlt1 ?_
    refine wo_load rfl rfl rfl rfl hh1 hat1 ?_
    repeat (first | refine wg_seq ?_ | refine wg_region ?_ | refine wo_nil ?_ | refine wo_move rfl rfl ?_ | refine wo_assign rfl rfl ?_ | refine wo_strEq rfl rfl rfl ?_)
    refine wg_cut (fun l1 A2 => (Kn.put 0 v0 (.put 1 v1 (.put 6 (.ptr fr 0 0) (.put 7 (.int .i64 (i : Int)) (.put 8 (.str w) .nil))))).le l1 ∧ A2 = A1) (fun k' hk => ?_) ?_
    · refine wg_dec rfl (fun h0 => ?_) fun h0 => ?_
      · have h0 : s = [] := h0
        rw [if_pos h0] at hw'
        repeat (first | refine wg_region ?_ | refine wo_nil ?_ | refine wo_assign rfl rfl ?_)
        exact hk _ _ ⟨⟨rfl, rfl, rfl, rfl, by rw [← hw']; rfl, trivial⟩, rfl⟩
      · have h0 : ¬ s = [] := h0
        rw [if_neg h0] at hw'
        repeat refine wg_skip ?_
        exact hk _ _ ⟨⟨rfl, rfl, rfl, rfl, by rw [← hw']; rfl, trivial⟩, rfl⟩
    rintro l1 A2 ⟨hl1, e2⟩
    obtain rfl : A1 = A2 := e2.symm
    refine wg_le _ ?_ hl1
    have hc := ni.ri.cell
    refine wg_draw rfl ?_
    repeat (first
      | (refine wd_pure rfl rfl rfl rfl rfl ?_
         repeat (first | refine wo_nil ?_ | refine wo_move rfl rfl ?_ | refine wo_fieldAddr rfl rfl rfl ?_ | refine wo_nilCheck rfl rfl ?_)
         refine ⟨rfl, ?_⟩)
      | (refine wd_read rfl rfl rfl rfl rfl rfl rfl ?_
         repeat (first | refine wo_nil ?_ | refine wo_load rfl rfl rfl rfl (by assumption) rfl ?_)
         refine ⟨rfl, _, rfl, ?_⟩))
    refine wd_pure rfl rfl rfl rfl rfl ?_
    refine wo_indexAddr i rfl (congrArg some e0) rfl rfl rfl hlt ?_
    repeat refine wo_nil ?_
    refine ⟨rfl, ?_⟩
    refine wd_read rfl rfl rfl rfl rfl rfl rfl ?_
    refine wo_load rfl rfl rfl rfl hh hat ?_
    repeat refine wo_nil ?_
    refine ⟨rfl, _, rfl, ?_⟩
    refine wd_make rfl rfl rfl rfl ?_
    refine wo_buildSlice rfl rfl rfl ?_
    refine wo_A (fun A2 => Only A1 A2 none' ∧ A2.heap.get A1.nxt = some (.cells 0 false 1 [.str n])) ⟨Only.add ni.only.wf _, by rw [AW.add_get, if_pos rfl]; rfl⟩ ?_
    rintro A2 ⟨o2, hm2⟩
    generalize A1.nxt = f10 at hm2
    have ni2 := ni.keep o2
    have hc2 := ni2.ri.cell
    repeat refine wo_nil ?_
    repeat (first
      | (refine wd_pure rfl rfl rfl rfl rfl ?_
         repeat (first | refine wo_nil ?_ | refine wo_move rfl rfl ?_ | refine wo_fieldAddr rfl rfl rfl ?_ | refine wo_nilCheck rfl rfl ?_)
         refine ⟨rfl, ?_⟩)
      | (refine wd_read rfl rfl rfl rfl rfl rfl rfl ?_
         repeat (first | refine wo_nil ?_ | refine wo_load rfl rfl rfl rfl (by assumption) rfl ?_)
         refine ⟨rfl, _, rfl, ?_⟩))
    refine wd_make rfl rfl rfl rfl ?_
    refine wo_buildSlice rfl rfl rfl ?_
    refine wo_A (fun A3 => Only A2 A3 none' ∧ A3.heap.get A2.nxt = some (.cells 0 false 1 [.str w])) ⟨Only.add ni2.only.wf _, by rw [AW.add_get, if_pos rfl]; rfl⟩ ?_
    rintro A3 ⟨o3, hm3⟩
    generalize hf17 : A2.nxt = f17 at hm3
    have hm2 := o3.keep _ _ hm2 fun h => h
    have ni3 := ni2.keep o3
    repeat refine wo_nil ?_
    refine wd_act rfl rfl rfl ?_
    refine wo_append rfl rfl rfl rfl rfl (vec_put (n := hs.length) (de := d9) rfl rfl rfl rfl ni3.only.wf ni3.ri.n (src_one hm2) rfl (by decide) (room_of (by omega) (by decide))) ?_
    intro vn' A4 g1
    have c4 := g1.only.keep _ _ ni3.ri.cell ni3.ri.nn
    have v4 : Vec A4 1 vs hs.length (sts (hs.map Prod.snd)) := vec_keep ni3.ri.s g1.only fun g hg hg' => ni3.dj g hg' hg
    have m4 := g1.only.keep _ _ hm3 fun e => by
      have := vec_under ni2.only.wf ni2.ri.n _ e
      omega
    repeat refine wo_nil ?_
    refine ⟨⟨.inr (stillS rfl c4 v4), .inl (by show bit 2044 9 = true; rfl), .inl (by show bit 2044 5 = true; rfl), trivial⟩, ?_⟩
    have w4 : Wf A4 := g1.only.wf
    refine wd_act rfl rfl rfl ?_
    refine wo_append rfl rfl rfl rfl rfl (vec_put (n := hs.length) (de := d9) rfl rfl rfl rfl w4 v4 (src_one m4) rfl (by decide) (room_of (by omega) (by decide))) ?_
    intro vs' A5 g2
    obtain ⟨c5, hpush⟩ := ni3.push hw g1 g2
    have w5 : Wf A5 := g2.only.wf
    repeat refine wo_nil ?_
    refine ⟨⟨.inl (by show bit 262140 15 = true; rfl), .inl (by show bit 262140 9 = true; rfl), .inl (by show bit 262140 5 = true; rfl), trivial⟩, ?_⟩
    repeat (first
      | (refine wd_pure rfl rfl rfl rfl rfl ?_
         repeat (first | refine wo_nil ?_ | refine wo_fieldAddr rfl rfl rfl ?_ | refine wo_nilCheck rfl rfl ?_)
         refine ⟨rfl, ?_⟩))
    refine wd_act rfl rfl rfl ?_
    refine wo_store rfl rfl g1.buf.cells rfl rfl rfl c5 rfl ?_
    refine wo_A (fun A6 => Only A5 A6 (one fr) ∧ A6.heap.get fr = some (.cells 0 false 2 [vn', vs])) ⟨Only.put w5 (w5 _ _ c5), by rw [AW.put_get, if_pos rfl]⟩ ?_
    rintro A6 ⟨o6, c6⟩
    have w6 := o6.wf
    repeat refine wo_nil ?_
    refine ⟨⟨.inl (by show bit 2097149 15 = true; rfl), .inl (by show bit 2097149 9 = true; rfl), .inl (by show bit 2097149 5 = true; rfl), trivial⟩, ?_⟩
    repeat (first
      | (refine wd_pure rfl rfl rfl rfl rfl ?_
         repeat (first | refine wo_nil ?_ | refine wo_fieldAddr rfl rfl rfl ?_ | refine wo_nilCheck rfl rfl ?_)
         refine ⟨rfl, ?_⟩))
    refine wd_act rfl rfl rfl ?_
    refine wo_store rfl rfl g2.buf.cells rfl rfl rfl c6 rfl ?_
    refine wo_A (fun A7 => Only A6 A7 (one fr) ∧ A7.heap.get fr = some (.cells 0 false 2 [vn', vs'])) ⟨Only.put w6 (w6 _ _ c6), by rw [AW.put_get, if_pos rfl]⟩ ?_
    rintro A7 ⟨o7, c7⟩
    have ni7 := hpush A7 (o6.same o7) c7
    repeat refine wo_nil ?_
    refine ⟨⟨.inl (by show bit 16777215 15 = true; rfl), .inl (by show bit 16777215 9 = true; rfl), .inl (by show bit 16777215 5 = true; rfl), trivial⟩, wd_nil ?_⟩
    repeat (first | refine wg_inBlock ?_ | refine wg_region ?_ | refine wo_move rfl rfl ?_)
    refine wo_add rfl rfl rfl (by omega) (by omega) ?_
    repeat (first | refine wo_nil ?_ | refine wo_assign rfl rfl ?_)
    refine wg_inLoop ?_
    refine wg_le (.put 0 v0 (.put 1 v1 (.put 6 (.ptr fr 0 0) (.put 7 (.int .i64 ((i + 1 : Nat) : Int)) .nil)))) ?_ ⟨rfl, rfl, rfl, rfl, trivial⟩
    refine ih (i + 1, hs ++ [(n, w)], vn', vs') A7 (by simp only; omega) ⟨ni7, hlt, by simp only [List.length_append, List.length_singleton]; omega, hadd, uq_app huq hno, hd_app hhd _, ?_, ?_⟩
    · show (hs ++ [(n, w)]).map Prod.fst = objN :: fauN :: ns.take (i + 1)
      rw [List.map_append, hnm, List.take_add_one, hn]
      rfl
    · show (hs ++ [(n, w)])[1]? = _
      rw [List.getElem?_append_left (by omega)]
      exact hsp
  have hge : i = ns.length := by
    have : ¬ (i : Int) < (ns.length : Int) := hge
    omega
  have hdz : (ns.zip ss).drop i = [] := List.drop_eq_nil_of_le (by rw [List.length_zip]; omega)
  rw [hdz] at hadd
  have hadd : addAll (ns.zip ss) base = (hs, 0) := hadd.symm
  rw [hadd] at hN
  have hN : newT ns ss = if ∃ n ∈ ns, ¬ has hs (up hs n) = true then ([], 70) else if ∃ n ∈ ns, rndF hs (hs.length + 1) n = true then ([], 71) else (hs, 0) := hN.trans (if_neg fun h => h rfl)
  have hW : Whole ns hs := ⟨huq, by rw [hnm, hge, List.take_length], hsp⟩
  have hri := ni.ri
  have hc := hri.cell
  have h100 : hs.length ≤ 100 := by omega
  refine wg_exit rfl ?_
  repeat (first | refine wg_seq ?_ | refine wg_block ?_ | refine wg_region ?_ | refine wo_nil ?_ | refine wo_assign rfl rfl ?_)
  refine wg_loop ?_
  refine wg_le (.put 6 (.ptr fr 0 0) (.put 9 (.int .i64 ((1 : Nat) : Int)) .nil)) ?_ ⟨rfl, rfl, trivial⟩
  refine wg_ind (ι := Nat) (fun j => hs.length - j) (fun j => .put 6 (.ptr fr 0 0) (.put 9 (.int .i64 (j : Int)) .nil)) (fun j A2 => A2 = A1 ∧ 1 ≤ j ∧ j ≤ hs.length ∧ ∀ (m : Nat) (p : Str × Str), 1 ≤ m → m < j → hs[m]? = some p → has hs p.2 = true) ?_ 1 A1 ⟨rfl, Nat.le_refl _, by omega, fun m p h h' => by omega⟩
  rintro j A2 ⟨e2, hj1, hj, hp⟩ ih2
  obtain rfl : A1 = A2 := e2.symm
  repeat (first | refine wg_seq ?_ | refine wg_region ?_ | refine wo_move rfl rfl ?_ | refine wo_fieldAddr rfl rfl rfl ?_ | refine wo_nilCheck rfl rfl ?_ | refine wo_load rfl rfl rfl rfl (by assumption) rfl ?_)
  refine wo_len rfl rfl rfl (vec_lenV hri.n) ?_
  repeat (first | refine wo_nil ?_ | refine wo_lss rfl rfl rfl ?_)
  refine wg_dec rfl (fun hlt => ?_) fun hge2 => ?_
  · have hlt : j < hs.length := Int.ofNat_lt.1 hlt
    obtain ⟨⟨k, s⟩, hks⟩ : ∃ p, hs[j]? = some p := ⟨hs[j], List.getElem?_eq_getElem hlt⟩
    have hS : (hs.map Prod.snd)[j]? = some s := by rw [List.getElem?_map, hks]; rfl
    obtain ⟨fb, tb, ob, cb, exb, rob, allb, eb, hhb, hlb, hatb⟩ := row_str hri.rs hS
    repeat (first | refine wg_seq ?_ | refine wg_skip ?_ | refine wg_block ?_ | refine wg_region ?_ | refine wo_move rfl rfl ?_ | refine wo_fieldAddr rfl rfl rfl ?_ | refine wo_nilCheck rfl rfl ?_ | refine wo_load rfl rfl rfl rfl (by assumption) rfl ?_)
    refine wo_indexAddr j rfl (congrArg some eb) rfl rfl rfl hlb ?_
    refine wo_load rfl rfl rfl rfl hhb hatb ?_
    refine wo_call rfl rfl orc_cons rfl (at_spec hri h100) ?_
    rintro r A2 ⟨rfl, e2⟩
    obtain rfl : A1 = A2 := e2.symm
    repeat (first | refine wo_nil ?_ | refine wo_lss rfl rfl rfl ?_)
    refine wg_dec rfl (fun hx => ?_) fun hx => ?_
    · have hx : ¬ has hs s = true := fun h => by
        have h := (ix_has hs s).2 h
        have hx : ix (hs.map Prod.fst) s 0 < 0 := hx
        omega
      have e : newT ns ss = ([], 70) := hN.trans (if_pos (hW.lost hks hj1 hx))
      repeat (first | refine wg_seq ?_ | refine wg_region ?_ | refine wo_nil ?_ | refine wo_assign rfl rfl ?_)
      exact wg_ret rfl ⟨ni.only, rnew_err e (by decide) rfl⟩
    · have hx : has hs s = true := (ix_has hs s).1 (by
        have hx : ¬ ix (hs.map Prod.fst) s 0 < 0 := hx
        omega)
      repeat (first | refine wg_skip ?_ | refine wg_inBlock ?_ | refine wg_region ?_ | refine wo_move rfl rfl ?_)
      refine wo_add rfl rfl rfl (by omega) (by omega) ?_
      repeat (first | refine wo_nil ?_ | refine wo_assign rfl rfl ?_)
      refine wg_inLoop ?_
      refine wg_le (.put 6 (.ptr fr 0 0) (.put 9 (.int .i64 ((j + 1 : Nat) : Int)) .nil)) ?_ ⟨rfl, rfl, trivial⟩
      refine ih2 (j + 1) A1 (by omega) ⟨rfl, by omega, hlt, fun m p h1 h2 h3 => ?_⟩
      by_cases hm : m = j
      · subst hm
        rw [hks] at h3
        cases h3
        exact hx
      · exact hp m p h1 (by omega) h3
  have hge2 : j = hs.length := by
    have : ¬ (j : Int) < (hs.length : Int) := hge2
    omega
  have hall : ∀ (m : Nat) (p : Str × Str), 1 ≤ m → hs[m]? = some p → has hs p.2 = true := fun m p h1 h2 => hp m p h1 (by
    have := (List.getElem?_eq_some_iff.1 h2).1
    omega) h2
  have hN : newT ns ss = if ∃ n ∈ ns, rndF hs (hs.length + 1) n = true then ([], 71) else (hs, 0) := hN.trans (if_neg (hW.found hall))
  refine wg_exit rfl ?_
  repeat (first | refine wg_seq ?_ | refine wg_block ?_ | refine wg_region ?_ | refine wo_nil ?_ | refine wo_assign rfl rfl ?_)
  refine wg_loop ?_
  refine wg_le (.put 6 (.ptr fr 0 0) (.put 10 (.int .i64 ((1 : Nat) : Int)) .nil)) ?_ ⟨rfl, rfl, trivial⟩
  refine wg_ind (ι := Nat) (fun j => hs.length - j) (fun j => .put 6 (.ptr fr 0 0) (.put 10 (.int .i64 (j : Int)) .nil)) (fun j A2 => A2 = A1 ∧ 1 ≤ j ∧ j ≤ hs.length ∧ ∀ (m : Nat) (p : Str × Str), 1 ≤ m → m < j → hs[m]? = some p → rndF hs (hs.length + 1) p.1 = false) ?_ 1 A1 ⟨rfl, Nat.le_refl _, by omega, fun m p h h' => by omega⟩
  rintro k A2 ⟨e2, hk1, hk, hq⟩ ih3
  obtain rfl : A1 = A2 := e2.symm
  repeat (first | refine wg_seq ?_ | refine wg_region ?_ | refine wo_move rfl rfl ?_ | refine wo_fieldAddr rfl rfl rfl ?_ | refine wo_nilCheck rfl rfl ?_ | refine wo_load rfl rfl rfl rfl (by assumption) rfl ?_)
  refine wo_len rfl rfl rfl (vec_lenV hri.n) ?_
  repeat (first | refine wo_nil ?_ | refine wo_lss rfl rfl rfl ?_)
  refine wg_dec rfl (fun hlt => ?_) fun hge3 => ?_
  · have hlt : k < hs.length := Int.ofNat_lt.1 hlt
    obtain ⟨⟨n0, s0⟩, hks⟩ : ∃ p, hs[k]? = some p := ⟨hs[k], List.getElem?_eq_getElem hlt⟩
    have hn0 := (uq_lk huq hks).1
    have hix : ix (hs.map Prod.fst) n0 0 = (k : Int) := huq k _ hks
    repeat (first | refine wg_seq ?_ | refine wg_skip ?_ | refine wg_block ?_ | refine wg_region ?_ | refine wo_nil ?_ | refine wo_move rfl rfl ?_ | refine wo_assign rfl rfl ?_)
    refine wg_loop ?_
    refine wg_le (.put 6 (.ptr fr 0 0) (.put 10 (.int .i64 (k : Int)) (.put 11 (.int .i64 (ix (hs.map Prod.fst) n0 0)) (.put 12 (.int .i64 ((0 : Nat) : Int)) .nil)))) ?_ ⟨rfl, rfl, by rw [hix]; rfl, rfl, trivial⟩
    refine wg_ind (ι := Nat × Str) (fun i => hs.length + 2 - i.1) (fun i => .put 6 (.ptr fr 0 0) (.put 10 (.int .i64 (k : Int)) (.put 11 (.int .i64 (ix (hs.map Prod.fst) i.2 0)) (.put 12 (.int .i64 (i.1 : Int)) .nil))))
      (fun i A2 => A2 = A1 ∧ i.1 ≤ hs.length + 1 ∧ has hs i.2 = true ∧ rndF hs (hs.length + 1 - i.1) i.2 = rndF hs (hs.length + 1) n0) ?_ (0, n0) A1 ⟨rfl, Nat.zero_le _, hn0, rfl⟩
    rintro ⟨m, q⟩ A2 ⟨e2, hm, hqh, hrq⟩ ih4
    obtain rfl : A1 = A2 := e2.symm
    have hm : m ≤ hs.length + 1 := hm
    have hqh : has hs q = true := hqh
    have hrq : rndF hs (hs.length + 1 - m) q = rndF hs (hs.length + 1) n0 := hrq
    have hq0 := (ix_has hs q).2 hqh
    repeat (first | refine wg_seq ?_ | refine wg_region ?_ | refine wo_move rfl rfl ?_ | refine wo_gtr rfl rfl rfl ?_)
    by_cases c1 : 0 < ix (hs.map Prod.fst) q 0
    · refine wo_is 104 true rfl (decide_eq_true c1) ?_
      have hqo : ¬ q = objN := fun e => by
        have := (ix_obj hhd q).2 e
        omega
      repeat (first | refine wo_move rfl rfl ?_ | refine wo_fieldAddr rfl rfl rfl ?_ | refine wo_nilCheck rfl rfl ?_ | refine wo_load rfl rfl rfl rfl (by assumption) rfl ?_ | refine wo_on rfl ?_)
      refine wo_len rfl rfl rfl (vec_lenV hri.n) ?_
      repeat (first | refine wo_nil ?_ | refine wo_leq rfl rfl rfl ?_ | refine wo_pick rfl rfl rfl ?_ | refine wo_on rfl ?_)
      refine wg_dec rfl (fun hml => ?_) fun hml => ?_
      · have hml : m ≤ hs.length := Int.ofNat_le.1 hml
        obtain ⟨w, hlk⟩ : ∃ w, lk hs q = some w := by
          unfold has at hqh
          exact Option.isSome_iff_exists.1 hqh
        obtain ⟨j', hj1', hj2'⟩ := lk_ix hs q w 0 hlk
        rw [Nat.zero_add] at hj1'
        have hup := up_of hlk
        have hS : (hs.map Prod.snd)[j']? = some w := by rw [List.getElem?_map, hj2']; rfl
        obtain ⟨fb, tb, ob, cb, exb, rob, allb, eb, hhb, hlb, hatb⟩ := row_str hri.rs hS
        have hwh : has hs w = true := hall j' _ (by omega) hj2'
        have e : rndF hs (hs.length + 1 - m) q = rndF hs (hs.length + 1 - (m + 1)) w := by
          rw [show hs.length + 1 - m = (hs.length + 1 - (m + 1)) + 1 from by omega]
          conv => lhs; unfold rndF
          rw [if_neg hqo, hup]
        repeat (first | refine wg_seq ?_ | refine wg_skip ?_ | refine wg_block ?_ | refine wg_region ?_ | refine wo_move rfl rfl ?_ | refine wo_fieldAddr rfl rfl rfl ?_ | refine wo_nilCheck rfl rfl ?_ | refine wo_load rfl rfl rfl rfl (by assumption) rfl ?_)
        refine wo_indexAddr j' rfl (congrArg some eb) rfl rfl hj1' hlb ?_
        refine wo_load rfl rfl rfl rfl hhb hatb ?_
        refine wo_call rfl rfl orc_cons rfl (at_spec hri h100) ?_
        rintro r A2 ⟨rfl, e2⟩
        obtain rfl : A1 = A2 := e2.symm
        repeat (first | refine wg_region ?_ | refine wo_nil ?_ | refine wo_move rfl rfl ?_ | refine wo_assign rfl rfl ?_)
        refine wo_add rfl rfl rfl (by omega) (by omega) ?_
        repeat (first | refine wg_inBlock ?_ | refine wo_nil ?_ | refine wo_assign rfl rfl ?_)
        refine wg_inLoop ?_
        refine wg_le (.put 6 (.ptr fr 0 0) (.put 10 (.int .i64 (k : Int)) (.put 11 (.int .i64 (ix (hs.map Prod.fst) w 0)) (.put 12 (.int .i64 ((m + 1 : Nat) : Int)) .nil)))) ?_ ⟨rfl, rfl, rfl, rfl, trivial⟩
        exact ih4 (m + 1, w) A1 (by simp only; omega) ⟨rfl, by simp only; omega, hwh, by rw [← hrq, e]⟩
      · have hml : ¬ (m : Int) ≤ (hs.length : Int) := hml
        have hml : m = hs.length + 1 := by omega
        have hr : rndF hs (hs.length + 1) n0 = true := by
          rw [← hrq, hml, Nat.sub_self]
          exact decide_eq_true hqo
        have e : newT ns ss = ([], 71) := hN.trans (if_pos (hW.ring hks hk1 hr))
        refine wg_exit rfl ?_
        repeat (first | refine wg_seq ?_ | refine wg_region ?_ | refine wo_nil ?_ | refine wo_move rfl rfl ?_ | refine wo_neq rfl rfl rfl ?_)
        refine wg_dec rfl (fun _ => ?_) fun h => absurd (fun e => hqo ((ix_obj hhd q).1 e)) h
        repeat (first | refine wg_seq ?_ | refine wg_region ?_ | refine wo_nil ?_ | refine wo_assign rfl rfl ?_)
        exact wg_ret rfl ⟨ni.only, rnew_err e (by decide) rfl⟩
    · refine wo_is 104 false rfl (decide_eq_false c1) ?_
      have hqo : q = objN := (ix_obj hhd q).1 (by omega)
      have hr : rndF hs (hs.length + 1) n0 = false := by
        rw [← hrq, hqo]
        cases hs.length + 1 - m with
        | zero => exact decide_eq_false fun h => h rfl
        | succ x => unfold rndF; rw [if_pos rfl]
      repeat (first | refine wo_nil ?_ | refine wo_pick rfl rfl rfl ?_ | refine wo_off rfl rfl ?_)
      refine wg_false rfl ?_
      refine wg_exit rfl ?_
      repeat (first | refine wg_seq ?_ | refine wg_region ?_ | refine wo_nil ?_ | refine wo_move rfl rfl ?_ | refine wo_neq rfl rfl rfl ?_)
      refine wg_dec rfl (fun h => absurd ((ix_obj hhd q).2 hqo) h) fun _ => ?_
      repeat (first | refine wg_skip ?_ | refine wg_inBlock ?_ | refine wg_region ?_ | refine wo_move rfl rfl ?_)
      refine wo_add rfl rfl rfl (by omega) (by omega) ?_
      repeat (first | refine wo_nil ?_ | refine wo_assign rfl rfl ?_)
      refine wg_inLoop ?_
      refine wg_le (.put 6 (.ptr fr 0 0) (.put 10 (.int .i64 ((k + 1 : Nat) : Int)) .nil)) ?_ ⟨rfl, rfl, trivial⟩
      refine ih3 (k + 1) A1 (by omega) ⟨rfl, by omega, hlt, fun m' p h1 h2 h3 => ?_⟩
      by_cases hm' : m' = k
      · subst hm'
        rw [hks] at h3
        cases h3
        exact hr
      · exact hq m' p h1 (by omega) h3
  have hge3 : k = hs.length := by
    have : ¬ (k : Int) < (hs.length : Int) := hge3
    omega
  have hN : newT ns ss = (hs, 0) := hN.trans (if_neg (hW.noring fun m p h1 h2 => hq m p h1 (by
    have := (List.getElem?_eq_some_iff.1 h2).1
    omega) h2))
  refine wg_exit rfl ?_
  repeat (first | refine wg_seq ?_ | refine wg_region ?_ | refine wo_nil ?_ | refine wo_move rfl rfl ?_ | refine wo_assign rfl rfl ?_)
  refine wg_ret rfl ⟨ni.only, .inr ⟨by rw [hN], fr, vn, vs, rfl, ?_, ?_⟩⟩
  · rw [hN]
    exact hri
  · rw [hN]
    exact hhd
end Go.Proofs.Ytokieeiohfcgdaa.Ae
