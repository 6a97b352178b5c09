/-
  A HIERARCHY IS MADE, by the rules: New.
-/
import Derived.Test.YtokieeiohfcgdaaAiSyT6
namespace Go.Proofs.Ytokieeiohfcgdaa.Ae
open Go.AE
set_option linter.unusedVariables false
set_option maxRecDepth 100000

def fauN : Str := [70, 97, 117, 108, 116]
def base : Hs := [(objN, []), (fauN, objN)]
def addAll : List (Str × Str) → Hs → Hs × Int
  | [], hs => (hs, 0)
  | (n, s) :: l, hs => if ¬ isN n then ([], 50) else if has hs n = true then ([], 53) else addAll l (hs ++ [(n, if s = [] then objN else s)])
/-- What New gives: the hierarchy, the error. -/
def newT (ns ss : List Str) : Hs × Int :=
  if ns.length ≠ ss.length then ([], 50) else if 16 < ns.length then ([], 32) else if (addAll (ns.zip ss) base).2 ≠ 0 then ([], (addAll (ns.zip ss) base).2)
  else if ∃ n ∈ ns, ¬ has (addAll (ns.zip ss) base).1 (up (addAll (ns.zip ss) base).1 n) = true then ([], 70)
  else if ∃ n ∈ ns, rndF (addAll (ns.zip ss) base).1 ((addAll (ns.zip ss) base).1.length + 1) n = true then ([], 71) else ((addAll (ns.zip ss) base).1, 0)
/-- A hierarchy under way. -/
structure NI (A A1 : AW) (fr fm : Nat) (vn : AV) (names : List Str) (hs : Hs) : Prop where
  cell : A1.heap.get fr = some (.cells 0 false 2 [vn, .map fm])
  map : A1.heap.get fm = some (.map (ent hs))
  vec : Vec A1 1 vn names.length (sts names)
  only : Only A A1 none'
  n1 : A.nxt ≤ fr
  n2 : A.nxt ≤ fm
  n3 : ∀ g, vn.isFam g → A.nxt ≤ g
theorem NI.hi {A A1 : AW} {fr fm : Nat} {vn : AV} {names : List Str} {hs : Hs} (h : NI A A1 fr fm vn names hs) (e : names = hs.map Prod.fst) : Hi A1 fr fm vn hs :=
  ⟨h.cell, h.map, by have := h.vec; rw [e, List.length_map] at this; exact this⟩
theorem NI.set {A A1 : AW} {fr fm : Nat} {vn : AV} {names : List Str} {hs : Hs} (hw : Wf A) (h : NI A A1 fr fm vn names hs) (hs' : Hs) : NI A (A1.put fm (.map (ent hs'))) fr fm vn names hs' := by
  have op : Only A1 (A1.put fm (.map (ent hs'))) (one fm) := Only.put h.only.wf (h.only.wf _ _ h.map)
  refine ⟨op.keep _ _ h.cell fun e => ?_, by rw [AW.put_get, if_pos rfl], vec_keep h.vec op fun g hg e => ?_, Only.fresh hw h.only op fun g hg => by cases hg; exact h.n2, h.n1, h.n2, h.n3⟩
  · have e : fr = fm := e
    have := h.cell
    rw [e, h.map] at this
    cases this
  · cases e
    obtain ⟨t, ht⟩ := vec_fam h.vec hg
    rw [h.map] at ht
    cases ht
theorem NI.push {A A1 A2 : AW} {fr fm : Nat} {vn vn' : AV} {names : List Str} {hs : Hs} {n : Str} (hw : Wf A) (h : NI A A1 fr fm vn names hs) (g : Grew A1 A2 1 vn vn' (names.length + 1) (sts names ++ [.str n])) :
    A2.heap.get fr = some (.cells 0 false 2 [vn, .map fm]) ∧ NI A (A2.put fr (.cells 0 false 2 [vn', .map fm])) fr fm vn' (names ++ [n]) hs := by
  have u1 : ¬ vn.isFam fr := fun e => by
    obtain ⟨t, ht⟩ := vec_fam h.vec e
    rw [h.cell] at ht
    cases ht
  have u2 : ¬ vn.isFam fm := fun e => by
    obtain ⟨t, ht⟩ := vec_fam h.vec e
    rw [h.map] at ht
    cases ht
  have c2 := g.only.keep _ _ h.cell u1
  have m2 := g.only.keep _ _ h.map u2
  have o2 : Only A A2 none' := Only.fresh hw h.only g.only h.n3
  have op : Only A2 (A2.put fr (.cells 0 false 2 [vn', .map fm])) (one fr) := Only.put o2.wf (o2.wf _ _ c2)
  refine ⟨c2, by rw [AW.put_get, if_pos rfl], op.keep _ _ m2 fun e => ?_, ?_, Only.fresh hw o2 op fun g hg => by cases hg; exact h.n1, h.n1, h.n2, fun k hk => ?_⟩
  · have e : fm = fr := e
    rw [e, c2] at m2
    cases m2
  · have b : Buf A2 1 vn' (names ++ [n]).length (sts (names ++ [n])) := by
      have := g.buf
      rw [List.length_append, List.length_singleton, sts_append]
      exact this
    refine vec_keep (.inl b) op fun k hk e => ?_
    cases e
    obtain ⟨t, ht⟩ := vec_fam (.inl b) hk
    rw [c2] at ht
    cases ht
  · rcases g.grow k hk with h' | h'
    · exact h.n3 k h'
    · exact Nat.le_trans h.only.nxt h'
theorem lk_app {n : Str} : ∀ (hs : Hs) (p : Str × Str), lk (hs ++ [p]) n = match lk hs n with | some v => some v | none => if n = p.1 then some p.2 else none
  | [], p => rfl
  | q :: l, p => by
    show (if n = q.1 then some q.2 else lk (l ++ [p]) n) = _
    rw [lk_app l p]
    show _ = match (if n = q.1 then some q.2 else lk l n) with | some v => some v | none => if n = p.1 then some p.2 else none
    by_cases h : n = q.1
    · rw [if_pos h, if_pos h]
    · rw [if_neg h, if_neg h]
theorem upd_app {n w : Str} : ∀ (hs : Hs) (s : Str), lk hs n = none → upd (hs ++ [(n, s)]) n w = hs ++ [(n, w)]
  | [], s, _ => by
    show (if n = n then _ else _) = _
    rw [if_pos rfl]
    rfl
  | q :: l, s, h => by
    unfold lk at h
    by_cases hq : n = q.1
    · rw [if_pos hq] at h; cases h
    · rw [if_neg hq] at h
      show (if n = q.1 then _ else q :: upd (l ++ [(n, s)]) n w) = _
      rw [if_neg hq, upd_app l s h]
      rfl
theorem has_none {hs : Hs} {n : Str} (h : has hs n = false) : lk hs n = none := by
  unfold has at h
  cases hx : lk hs n with
  | none => rfl
  | some v => rw [hx] at h; cases h
theorem new_err {A A1 : AW} {ns ss : List Str} {r : AV} {e : Int} (h : newT ns ss = ([], e)) (he : e ≠ 0) (hr : r = .tuple [.nilp, .int .i64 e]) :
    ((newT ns ss).2 ≠ 0 ∧ r = .tuple [.nilp, .int .i64 (newT ns ss).2]) ∨ ((newT ns ss).2 = 0 ∧ ∃ fr fm vn, r = .tuple [.ptr fr 0 0, .int .i64 0] ∧ Hi A1 fr fm vn (newT ns ss).1) := by
  rw [h]
  exact .inl ⟨he, hr⟩
theorem mk_spec {K : FuncId} {A : AW} {v0 v1 : AV} {ns ss : List Str} (hw : Wf A) (hr0 : Row A 1 v0 ns.length (sts ns)) (hr1 : Row A 1 v1 ss.length (sts ss)) :
    CallP (ES K) 15 [v0, v1] A fun r A1 => Only A A1 none' ∧
      (((newT ns ss).2 ≠ 0 ∧ r = .tuple [.nilp, .int .i64 (newT ns ss).2]) ∨ ((newT ns ss).2 = 0 ∧ ∃ fr fm vn, r = .tuple [.ptr fr 0 0, .int .i64 0] ∧ Hi A1 fr fm vn (newT ns ss).1)) := by
  refine call_of rfl rfl rfl ?_
  repeat (first | refine wg_seq ?_ | refine wg_block ?_ | refine wg_region ?_ | refine wo_nil ?_ | refine wo_move rfl rfl ?_ | refine wo_assign rfl rfl ?_)
  refine wo_len rfl rfl rfl hr0.lenV ?_
  repeat refine wo_move rfl rfl ?_
  refine wo_len rfl rfl rfl hr1.lenV ?_
  repeat (first | refine wo_nil ?_ | refine wo_assign rfl rfl ?_ | refine wo_neq rfl rfl rfl ?_)
  refine wg_dec rfl (fun h1 => ?_) fun h1 => ?_
  · have h1 : ns.length ≠ ss.length := fun e => h1 (by rw [e])
    have e : newT ns ss = ([], 50) := by unfold newT; rw [if_pos h1]
    repeat (first | refine wg_seq ?_ | refine wg_region ?_ | refine wo_nil ?_ | refine wo_assign rfl rfl ?_)
    exact wg_ret rfl ⟨Only.refl hw _, new_err (A := A) e (by decide) rfl⟩
  have h1 : ns.length = ss.length := by
    have h1 : ¬ (ns.length : Int) ≠ (ss.length : Int) := h1
    omega
  repeat (first | refine wg_seq ?_ | refine wg_region ?_ | refine wo_move rfl rfl ?_)
  refine wo_len rfl rfl rfl hr0.lenV ?_
  repeat (first | refine wo_nil ?_ | refine wo_assign rfl rfl ?_ | refine wo_gtr rfl rfl rfl ?_)
  refine wg_dec rfl (fun h2 => ?_) fun h2 => ?_
  · have h2 : 16 < ns.length := by
      have : (16 : Int) < (ns.length : Int) := h2
      omega
    have e : newT ns ss = ([], 32) := by unfold newT; rw [if_neg (fun h => h h1), if_pos h2]
    repeat (first | refine wg_seq ?_ | refine wg_region ?_ | refine wo_nil ?_ | refine wo_assign rfl rfl ?_)
    exact wg_ret rfl ⟨Only.refl hw _, new_err (A := A) e (by decide) rfl⟩
  have h2 : ¬ 16 < ns.length := by
    have : ¬ (16 : Int) < (ns.length : Int) := h2
    omega
  have hN : newT ns ss = if (addAll (ns.zip ss) base).2 ≠ 0 then ([], (addAll (ns.zip ss) base).2) else if ∃ n ∈ ns, ¬ has (addAll (ns.zip ss) base).1 (up (addAll (ns.zip ss) base).1 n) = true then ([], 70)
      else if ∃ n ∈ ns, rndF (addAll (ns.zip ss) base).1 ((addAll (ns.zip ss) base).1.length + 1) n = true then ([], 71) else ((addAll (ns.zip ss) base).1, 0) := by
    unfold newT
    rw [if_neg (fun h => h h1), if_neg h2]
  repeat (first | refine wg_seq ?_ | refine wg_skip ?_ | refine wg_inBlock ?_ | refine wg_region ?_ | refine wo_buildSlice rfl rfl rfl ?_)
  refine wo_A (fun A1 => Only A A1 none' ∧ A1.heap.get A.nxt = some (.cells 0 false 1 [.str objN, .str fauN])) ⟨Only.add hw _, by rw [AW.add_get, if_pos rfl]; rfl⟩ ?_
  rintro A1 ⟨o1, hn1⟩
  generalize hfn : A.nxt = fn at hn1
  have n1 : A.nxt ≤ fn := by omega
  refine wo_makeMap rfl ?_
  refine wo_A (fun A2 => Only A1 A2 none' ∧ A2.heap.get A1.nxt = some (.map (ent []))) ⟨Only.add o1.wf _, by rw [AW.add_get, if_pos rfl]; rfl⟩ ?_
  rintro A2 ⟨o2, hm2⟩
  have n2 := o1.nxt
  generalize A1.nxt = fm at hm2 n2
  have hn2 := o2.keep _ _ hn1 fun h => h
  have o12 := o1.same o2
  have ne : fn ≠ fm := fun e => by
    rw [e, hm2] at hn2
    cases hn2
  refine wo_insert (kv := .str objN) (xv := .str []) rfl rfl rfl (update_new (hs := []) hm2 rfl) ?_
  refine wo_A (fun A3 => Only A A3 none' ∧ A3.heap.get fm = some (.map (ent [(objN, [])])) ∧ A3.heap.get fn = some (.cells 0 false 1 [.str objN, .str fauN])) ⟨Only.fresh hw o12 (Only.put o12.wf (o12.wf _ _ hm2)) fun g hg => by cases hg; exact n2, by rw [AW.put_get, if_pos rfl]; rfl, by rw [AW.put_get, if_neg ne]; exact hn2⟩ ?_
  rintro A3 ⟨o3, hm3, hn3⟩
  refine wo_insert (kv := .str fauN) (xv := .str objN) rfl rfl rfl (update_new (hs := [(objN, [])]) hm3 (by decide)) ?_
  refine wo_A (fun A4 => Only A A4 none' ∧ A4.heap.get fm = some (.map (ent base)) ∧ A4.heap.get fn = some (.cells 0 false 1 [.str objN, .str fauN])) ⟨Only.fresh hw o3 (Only.put o3.wf (o3.wf _ _ hm3)) fun g hg => by cases hg; exact n2, by rw [AW.put_get, if_pos rfl]; rfl, by rw [AW.put_get, if_neg ne]; exact hn3⟩ ?_
  rintro A4 ⟨o4, hm4, hn4⟩
  repeat (first | refine wo_move rfl rfl ?_ | refine wo_build rfl rfl rfl ?_)
  refine wo_box rfl rfl rfl rfl ?_
  refine wo_A (fun A5 => NI A A5 A4.nxt fm (.slice fn 0 0 2 2 true) [objN, fauN] base) ⟨by rw [AW.add_get, if_pos rfl]; rfl, (Only.add o4.wf none').keep _ _ hm4 fun h => h, .inr ⟨fn, 0, rfl, (Only.add o4.wf none').keep _ _ hn4 fun h => h, rfl⟩, o4.same (Only.add o4.wf _), o4.nxt, n2, fun g hg => by cases hg; exact n1⟩ ?_
  rintro A5 ni
  generalize A4.nxt = fr at ni
  repeat (first | refine wg_seq ?_ | refine wg_region ?_ | refine wo_nil ?_ | refine wo_move rfl rfl ?_ | refine wo_assign rfl rfl ?_)
  refine wo_len rfl rfl rfl hr0.lenV ?_
  repeat (first | refine wg_block ?_ | refine wo_nil ?_ | refine wo_move rfl rfl ?_)
  refine wg_loop ?_
  refine wg_le (.put 0 v0 (.put 1 v1 (.put 6 (.ptr fr 0 0) (.put 28 v0 (.put 29 (.int .i64 (ns.length : Int)) (.put 30 (.int .i64 ((0 : Nat) : Int)) .nil)))))) ?_ ⟨rfl, rfl, rfl, rfl, rfl, rfl, trivial⟩
  refine wg_ind (ι := Nat × Hs × AV) (fun i => ns.length - i.1) (fun i => .put 0 v0 (.put 1 v1 (.put 6 (.ptr fr 0 0) (.put 28 v0 (.put 29 (.int .i64 (ns.length : Int)) (.put 30 (.int .i64 (i.1 : Int)) .nil))))))
    (fun i A1 => NI A A1 fr fm i.2.2 (i.2.1.map Prod.fst) i.2.1 ∧ i.1 ≤ ns.length ∧ i.2.1.length = i.1 + 2 ∧ addAll ((ns.zip ss).drop i.1) i.2.1 = addAll (ns.zip ss) base) ?_ (0, base, .slice fn 0 0 2 2 true) A5 ⟨ni, Nat.zero_le _, rfl, rfl⟩
  rintro ⟨i, hs, vn⟩ A1 ⟨ni, hi, hl, hadd⟩ ih
  have ni : NI A A1 fr fm vn (hs.map Prod.fst) hs := ni
  have hi : i ≤ ns.length := hi
  have hl : hs.length = i + 2 := hl
  have hadd : addAll ((ns.zip ss).drop i) hs = addAll (ns.zip ss) base := hadd
  have hr0' := hr0.keep ni.only fun _ _ h => h
  repeat (first | refine wg_seq ?_ | refine wg_region ?_ | refine wo_nil ?_ | refine wo_lss rfl rfl rfl ?_)
  refine wg_dec rfl (fun hlt => ?_) fun hge => ?_
  · have hlt : i < ns.length := Int.ofNat_lt.1 hlt
    have hlt1 : i < ss.length := by omega
    obtain ⟨n, hn⟩ : ∃ n, ns[i]? = some n := ⟨ns[i], List.getElem?_eq_getElem hlt⟩
    obtain ⟨s, hs1⟩ : ∃ s, ss[i]? = some s := ⟨ss[i], List.getElem?_eq_getElem hlt1⟩
    have hz : (ns.zip ss)[i]? = some (n, s) := List.getElem?_zip_eq_some.2 ⟨hn, hs1⟩
    have hzl := (List.getElem?_eq_some_iff.1 hz).1
    have hd : (ns.zip ss).drop i = (n, s) :: (ns.zip ss).drop (i + 1) := by
      rw [List.getElem?_eq_getElem hzl, Option.some.injEq] at hz
      rw [← hz]
      exact List.drop_eq_getElem_cons hzl
    rw [hd] at hadd
    have hadd : (if ¬ isN n then ([], 50) else if has hs n = true then ([], 53) else addAll ((ns.zip ss).drop (i + 1)) (hs ++ [(n, if s = [] then objN else s)])) = addAll (ns.zip ss) base := hadd
    obtain ⟨f, t, o, c, ex, ro, all, e0, hh, _, hat⟩ := row_str hr0' hn
    repeat (first | refine wg_seq ?_ | refine wg_skip ?_ | refine wg_block ?_ | refine wg_region ?_ | refine wo_move rfl rfl ?_)
    refine wo_indexAddr i rfl (congrArg some e0) rfl rfl rfl hlt ?_
    refine wo_load rfl rfl rfl rfl hh hat ?_
    repeat (first | refine wg_seq ?_ | refine wg_block ?_ | refine wg_region ?_ | refine wo_nil ?_ | refine wo_move rfl rfl ?_ | refine wo_assign rfl rfl ?_)
    refine wo_call rfl rfl orc_cons rfl isName_spec ?_
    rintro r A2 ⟨rfl, e2⟩
    obtain rfl : A1 = A2 := e2.symm
    repeat (first | refine wo_nil ?_ | refine wo_assign rfl rfl ?_ | refine wo_not rfl rfl ?_)
    refine wg_if rfl (fun hb => ?_) fun hb => ?_
    · have hb : ¬ isN n := fun h => by rw [decide_eq_true h] at hb; cases hb
      rw [if_pos hb] at hadd
      have e : newT ns ss = ([], 50) := by rw [hN, ← hadd, if_pos (by decide)]
      repeat (first | refine wg_seq ?_ | refine wg_region ?_ | refine wo_nil ?_ | refine wo_assign rfl rfl ?_)
      exact wg_ret rfl ⟨ni.only, new_err (A := A) e (by decide) rfl⟩
    have hb : isN n := Decidable.byContradiction fun h => by rw [decide_eq_false h] at hb; cases hb
    rw [if_neg (fun h => h hb)] at hadd
    repeat (first | refine wg_seq ?_ | refine wg_region ?_ | refine wo_move rfl rfl ?_)
    refine wo_call rfl rfl orc_cons rfl (has_spec (ni.hi rfl)) ?_
    rintro r A2 ⟨rfl, e2⟩
    obtain rfl : A1 = A2 := e2.symm
    repeat (first | refine wo_nil ?_ | refine wo_assign rfl rfl ?_)
    refine wg_if rfl (fun hb2 => ?_) fun hb2 => ?_
    · rw [if_pos hb2] at hadd
      have e : newT ns ss = ([], 53) := by rw [hN, ← hadd, if_pos (by decide)]
      repeat (first | refine wg_seq ?_ | refine wg_region ?_ | refine wo_nil ?_ | refine wo_assign rfl rfl ?_)
      exact wg_ret rfl ⟨ni.only, new_err (A := A) e (by decide) rfl⟩
    rw [if_neg (fun h => by rw [hb2] at h; cases h)] at hadd
    have hnone := has_none hb2
    have hc := ni.cell
    repeat (first | refine wg_seq ?_ | refine wg_skip ?_ | refine wg_inBlock ?_ | refine wg_region ?_ | refine wo_move rfl rfl ?_ | refine wo_fieldAddr rfl rfl rfl ?_ | refine wo_nilCheck rfl rfl ?_ | refine wo_load rfl rfl rfl rfl (by assumption) rfl ?_ | refine wo_buildSlice rfl rfl rfl ?_)
    refine wo_append rfl rfl rfl rfl rfl (vec_append (n := (hs.map Prod.fst).length) (de := d9) rfl rfl rfl rfl ni.only.wf ni.vec rfl (by decide) (room_of (by rw [List.length_map]; omega) (by decide))) ?_
    intro vn' A2 g
    obtain ⟨hc2, ni3⟩ := ni.push hw g
    repeat (first | refine wo_fieldAddr rfl rfl rfl ?_ | refine wo_nilCheck rfl rfl ?_)
    refine wo_store rfl rfl g.buf.cells rfl rfl rfl hc2 rfl ?_
    refine wo_A (fun A3 => NI A A3 fr fm vn' (hs.map Prod.fst ++ [n]) hs) ni3 ?_
    intro A3 ni3
    have hc3 := ni3.cell
    obtain ⟨f1, t1, o1', c1, ex1, ro1, all1, e1, hh1, _, hat1⟩ := row_str (hr1.keep ni3.only fun _ _ h => h) hs1
    repeat (first | refine wg_seq ?_ | refine wo_nil ?_)
    refine wg_draw rfl ?_
    repeat (first
      | (refine wd_pure rfl rfl rfl rfl rfl ?_
         repeat (first | refine wo_nil ?_ | refine wo_move rfl rfl ?_ | refine wo_fieldAddr rfl rfl rfl ?_ | refine wo_nilCheck rfl rfl ?_)
         refine ⟨rfl, ?_⟩)
      | (refine wd_read rfl rfl rfl rfl rfl rfl rfl ?_
         repeat (first | refine wo_nil ?_ | refine wo_load rfl rfl rfl rfl (by assumption) rfl ?_)
         refine ⟨rfl, _, rfl, ?_⟩))
    refine wd_pure rfl rfl rfl rfl rfl ?_
    refine wo_indexAddr i rfl (congrArg some e1) rfl rfl rfl hlt1 ?_
    repeat refine wo_nil ?_
    refine ⟨rfl, ?_⟩
    refine wd_read rfl rfl rfl rfl rfl rfl rfl ?_
    refine wo_load rfl rfl rfl rfl hh1 hat1 ?_
    repeat refine wo_nil ?_
    refine ⟨rfl, _, rfl, ?_⟩
    refine wd_act rfl rfl rfl ?_
    refine wo_mapUpdate rfl rfl rfl (update_new ni3.map hnone) ?_
    have ni4 := ni3.set hw (hs ++ [(n, s)])
    refine wo_A (fun A4 => NI A A4 fr fm vn' (hs.map Prod.fst ++ [n]) (hs ++ [(n, s)])) ni4 ?_
    intro A4 ni4
    repeat refine wo_nil ?_
    refine ⟨⟨.inl (by show bit 511 8 = true; rfl), .inl (by show bit 511 3 = true; rfl), trivial⟩, wd_nil ?_⟩
    obtain ⟨f2, t2, o2', c2, ex2, ro2, all2, e2, hh2, _, hat2⟩ := row_str (hr1.keep ni4.only fun _ _ h => h) hs1
    repeat (first | refine wg_seq ?_ | refine wg_region ?_ | refine wo_move rfl rfl ?_)
    refine wo_indexAddr i rfl (congrArg some e2) rfl rfl rfl hlt1 ?_
    refine wo_load rfl rfl rfl rfl hh2 hat2 ?_
    repeat (first | refine wo_nil ?_ | refine wo_strEq rfl rfl rfl ?_)
    refine wg_dec rfl (fun h0 => ?_) fun h0 => ?_
    · have h0 : s = [] := h0
      rw [if_pos h0] at hadd
      have hc4 := ni4.cell
      have hlk : lk (hs ++ [(n, s)]) n = some s := by
        rw [lk_app, hnone]
        exact if_pos rfl
      repeat (first | refine wg_region ?_ | refine wo_move rfl rfl ?_ | refine wo_fieldAddr rfl rfl rfl ?_ | refine wo_nilCheck rfl rfl ?_ | refine wo_load rfl rfl rfl rfl (by assumption) rfl ?_)
      refine wo_mapUpdate (xv := .str objN) rfl rfl rfl (update_old ni4.map hlk) ?_
      rw [upd_app hs s hnone]
      have ni5 := ni4.set hw (hs ++ [(n, objN)])
      refine wo_A (fun A5 => NI A A5 fr fm vn' (hs.map Prod.fst ++ [n]) (hs ++ [(n, objN)])) ni5 ?_
      intro A5 ni5
      repeat (first | refine wg_inBlock ?_ | refine wg_region ?_ | refine wo_nil ?_)
      refine wo_add rfl rfl rfl (by omega) (by omega) ?_
      repeat (first | refine wo_nil ?_ | refine wo_move rfl rfl ?_)
      refine wg_inLoop ?_
      refine wg_le (.put 0 v0 (.put 1 v1 (.put 6 (.ptr fr 0 0) (.put 28 v0 (.put 29 (.int .i64 (ns.length : Int)) (.put 30 (.int .i64 ((i + 1 : Nat) : Int)) .nil)))))) ?_ ⟨rfl, rfl, rfl, rfl, rfl, rfl, trivial⟩
      refine ih (i + 1, hs ++ [(n, objN)], vn') A5 (by simp only; omega) ⟨?_, hlt, by simp only [List.length_append, List.length_singleton]; omega, hadd⟩
      simp only [List.map_append]
      exact ni5
    · have h0 : ¬ s = [] := h0
      rw [if_neg h0] at hadd
      repeat (first | refine wg_skip ?_ | refine wg_inBlock ?_ | refine wg_region ?_)
      refine wo_add rfl rfl rfl (by omega) (by omega) ?_
      repeat (first | refine wo_nil ?_ | refine wo_move rfl rfl ?_)
      refine wg_inLoop ?_
      refine wg_le (.put 0 v0 (.put 1 v1 (.put 6 (.ptr fr 0 0) (.put 28 v0 (.put 29 (.int .i64 (ns.length : Int)) (.put 30 (.int .i64 ((i + 1 : Nat) : Int)) .nil)))))) ?_ ⟨rfl, rfl, rfl, rfl, rfl, rfl, trivial⟩
      refine ih (i + 1, hs ++ [(n, s)], vn') A4 (by simp only; omega) ⟨?_, hlt, by simp only [List.length_append, List.length_singleton]; omega, hadd⟩
      simp only [List.map_append]
      exact ni4
  have hge : i = ns.length := by
    have : ¬ (i : Int) < (ns.length : Int) := hge
    omega
  have hdz : (ns.zip ss).drop i = [] := List.drop_eq_nil_of_le (by rw [List.length_zip]; omega)
  rw [hdz] at hadd
  have hadd : addAll (ns.zip ss) base = (hs, 0) := hadd.symm
  rw [hadd] at hN
  have hN : newT ns ss = if ∃ n ∈ ns, ¬ has hs (up hs n) = true then ([], 70) else if ∃ n ∈ ns, rndF hs (hs.length + 1) n = true then ([], 71) else (hs, 0) := hN.trans (if_neg fun h => h rfl)
  have hi' := ni.hi rfl
  refine wg_exit rfl ?_
  repeat (first | refine wg_seq ?_ | refine wg_region ?_ | refine wo_move rfl rfl ?_)
  refine wo_len rfl rfl rfl hr0'.lenV ?_
  repeat (first | refine wg_block ?_ | refine wo_nil ?_ | refine wo_move rfl rfl ?_)
  refine wg_loop ?_
  refine wg_le (.put 0 v0 (.put 6 (.ptr fr 0 0) (.put 73 v0 (.put 74 (.int .i64 (ns.length : Int)) (.put 75 (.int .i64 ((0 : Nat) : Int)) .nil))))) ?_ ⟨rfl, rfl, rfl, rfl, rfl, trivial⟩
  refine wg_ind (ι := Nat) (fun i => ns.length - i) (fun i => .put 0 v0 (.put 6 (.ptr fr 0 0) (.put 73 v0 (.put 74 (.int .i64 (ns.length : Int)) (.put 75 (.int .i64 (i : Int)) .nil))))) (fun i A2 => A2 = A1 ∧ i ≤ ns.length ∧ ∀ n ∈ ns.take i, has hs (up hs n) = true) ?_ 0 A1 ⟨rfl, Nat.zero_le _, fun n hn => by simp at hn⟩
  rintro j A2 ⟨e2, hj, hp⟩ ih2
  obtain rfl : A1 = A2 := e2.symm
  repeat (first | refine wg_seq ?_ | refine wg_region ?_ | refine wo_nil ?_ | refine wo_lss rfl rfl rfl ?_)
  refine wg_dec rfl (fun hlt => ?_) fun hge2 => ?_
  · have hlt : j < ns.length := Int.ofNat_lt.1 hlt
    obtain ⟨n, hn⟩ : ∃ n, ns[j]? = some n := ⟨ns[j], List.getElem?_eq_getElem hlt⟩
    obtain ⟨f, t, o, c, ex, ro, all, e0, hh, _, hat⟩ := row_str hr0' hn
    have hc := hi'.cell
    repeat (first | refine wg_seq ?_ | refine wg_skip ?_ | refine wg_block ?_ | refine wg_region ?_)
    refine wo_indexAddr j rfl (congrArg some e0) rfl rfl rfl hlt ?_
    refine wo_load rfl rfl rfl rfl hh hat ?_
    repeat (first | refine wg_seq ?_ | refine wg_region ?_ | refine wo_nil ?_ | refine wo_move rfl rfl ?_ | refine wo_assign rfl rfl ?_ | refine wo_fieldAddr rfl rfl rfl ?_ | refine wo_nilCheck rfl rfl ?_ | refine wo_load rfl rfl rfl rfl (by assumption) rfl ?_)
    refine wo_lookup rfl rfl rfl (lookup_eq false hi'.map) ?_
    refine wo_call rfl rfl orc_cons rfl (has_spec hi') ?_
    rintro r A2 ⟨rfl, e2⟩
    obtain rfl : A1 = A2 := e2.symm
    repeat (first | refine wo_nil ?_ | refine wo_not rfl rfl ?_)
    refine wg_if rfl (fun hb => ?_) fun hb => ?_
    · have hb : ¬ has hs (up hs n) = true := fun h => by
        have hb : (!has hs (up hs n)) = true := hb
        rw [h] at hb
        cases hb
      have e : newT ns ss = ([], 70) := hN.trans (if_pos ⟨n, List.mem_of_getElem? hn, hb⟩)
      repeat (first | refine wg_seq ?_ | refine wg_region ?_ | refine wo_nil ?_ | refine wo_assign rfl rfl ?_)
      exact wg_ret rfl ⟨ni.only, new_err (A := A) e (by decide) rfl⟩
    · have hb : has hs (up hs n) = true := by
        have hb : (!has hs (up hs n)) = false := hb
        cases hx : has hs (up hs n)
        · rw [hx] at hb; cases hb
        · rfl
      repeat (first | refine wg_skip ?_ | refine wg_inBlock ?_ | refine wg_region ?_)
      refine wo_add rfl rfl rfl (by omega) (by omega) ?_
      repeat (first | refine wo_nil ?_ | refine wo_move rfl rfl ?_)
      refine wg_inLoop ?_
      refine wg_le (.put 0 v0 (.put 6 (.ptr fr 0 0) (.put 73 v0 (.put 74 (.int .i64 (ns.length : Int)) (.put 75 (.int .i64 ((j + 1 : Nat) : Int)) .nil))))) ?_ ⟨rfl, rfl, rfl, rfl, rfl, trivial⟩
      refine ih2 (j + 1) A1 (by omega) ⟨rfl, hlt, fun m hm => ?_⟩
      rw [List.take_add_one, hn] at hm
      rcases List.mem_append.1 hm with hm | hm
      · exact hp m hm
      · simp at hm
        rw [hm]
        exact hb
  have hge2 : j = ns.length := by
    have : ¬ (j : Int) < (ns.length : Int) := hge2
    omega
  rw [hge2, List.take_length] at hp
  have hN : newT ns ss = if ∃ n ∈ ns, rndF hs (hs.length + 1) n = true then ([], 71) else (hs, 0) := hN.trans (if_neg fun ⟨n, h1, h2⟩ => h2 (hp n h1))
  refine wg_exit rfl ?_
  repeat (first | refine wg_seq ?_ | refine wg_region ?_ | refine wo_move rfl rfl ?_)
  refine wo_len rfl rfl rfl hr0'.lenV ?_
  repeat (first | refine wg_block ?_ | refine wo_nil ?_ | refine wo_move rfl rfl ?_)
  refine wg_loop ?_
  refine wg_le (.put 6 (.ptr fr 0 0) (.put 89 v0 (.put 90 (.int .i64 (ns.length : Int)) (.put 91 (.int .i64 ((0 : Nat) : Int)) .nil)))) ?_ ⟨rfl, rfl, rfl, rfl, trivial⟩
  refine wg_ind (ι := Nat) (fun i => ns.length - i) (fun i => .put 6 (.ptr fr 0 0) (.put 89 v0 (.put 90 (.int .i64 (ns.length : Int)) (.put 91 (.int .i64 (i : Int)) .nil)))) (fun i A2 => A2 = A1 ∧ i ≤ ns.length ∧ ∀ n ∈ ns.take i, ¬ rndF hs (hs.length + 1) n = true) ?_ 0 A1 ⟨rfl, Nat.zero_le _, fun n hn => by simp at hn⟩
  rintro k A2 ⟨e2, hk, hq⟩ ih3
  obtain rfl : A1 = A2 := e2.symm
  repeat (first | refine wg_seq ?_ | refine wg_region ?_ | refine wo_nil ?_ | refine wo_lss rfl rfl rfl ?_)
  refine wg_dec rfl (fun hlt => ?_) fun hge3 => ?_
  · have hlt : k < ns.length := Int.ofNat_lt.1 hlt
    obtain ⟨n, hn⟩ : ∃ n, ns[k]? = some n := ⟨ns[k], List.getElem?_eq_getElem hlt⟩
    obtain ⟨f, t, o, c, ex, ro, all, e0, hh, _, hat⟩ := row_str hr0' hn
    repeat (first | refine wg_seq ?_ | refine wg_skip ?_ | refine wg_block ?_ | refine wg_region ?_)
    refine wo_indexAddr k rfl (congrArg some e0) rfl rfl rfl hlt ?_
    refine wo_load rfl rfl rfl rfl hh hat ?_
    repeat (first | refine wg_seq ?_ | refine wg_region ?_ | refine wo_nil ?_ | refine wo_move rfl rfl ?_ | refine wo_assign rfl rfl ?_)
    refine wo_call rfl rfl orc_cons rfl (round_spec hi' (by omega)) ?_
    rintro r A2 ⟨rfl, e2⟩
    obtain rfl : A1 = A2 := e2.symm
    repeat refine wo_nil ?_
    refine wg_if rfl (fun hb => ?_) fun hb => ?_
    · have e : newT ns ss = ([], 71) := hN.trans (if_pos ⟨n, List.mem_of_getElem? hn, hb⟩)
      repeat (first | refine wg_seq ?_ | refine wg_region ?_ | refine wo_nil ?_ | refine wo_assign rfl rfl ?_)
      exact wg_ret rfl ⟨ni.only, new_err (A := A) e (by decide) rfl⟩
    · repeat (first | refine wg_skip ?_ | refine wg_inBlock ?_ | refine wg_region ?_)
      refine wo_add rfl rfl rfl (by omega) (by omega) ?_
      repeat (first | refine wo_nil ?_ | refine wo_move rfl rfl ?_)
      refine wg_inLoop ?_
      refine wg_le (.put 6 (.ptr fr 0 0) (.put 89 v0 (.put 90 (.int .i64 (ns.length : Int)) (.put 91 (.int .i64 ((k + 1 : Nat) : Int)) .nil)))) ?_ ⟨rfl, rfl, rfl, rfl, trivial⟩
      refine ih3 (k + 1) A1 (by omega) ⟨rfl, hlt, fun m hm => ?_⟩
      rw [List.take_add_one, hn] at hm
      rcases List.mem_append.1 hm with hm | hm
      · exact hq m hm
      · simp at hm
        rw [hm, hb]
        decide
  have hge3 : k = ns.length := by
    have : ¬ (k : Int) < (ns.length : Int) := hge3
    omega
  rw [hge3, List.take_length] at hq
  have hN : newT ns ss = (hs, 0) := hN.trans (if_neg fun ⟨n, h1, h2⟩ => hq n h1 h2)
  refine wg_exit rfl ?_
  repeat (first | refine wg_seq ?_ | refine wg_region ?_ | refine wo_nil ?_ | refine wo_move rfl rfl ?_ | refine wo_assign rfl rfl ?_)
  refine wg_ret rfl ⟨ni.only, .inr ⟨by rw [hN], fr, fm, vn, rfl, ?_⟩⟩
  rw [hN]
  exact hi'
end Go.Proofs.Ytokieeiohfcgdaa.Ae
