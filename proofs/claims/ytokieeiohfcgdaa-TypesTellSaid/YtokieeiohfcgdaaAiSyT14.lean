/-
  THE DOCUMENT'S SUB, COMMON, by the rules.
-/
import Derived.Test.YtokieeiohfcgdaaAiSyT2
namespace Go.Proofs.Ytokieeiohfcgdaa.Ae
open Go.AE
set_option linter.unusedVariables false
set_option maxRecDepth 100000

structure Ri (A : AW) (fr : Nat) (vn vs : AV) (hs : Hs) : Prop where
  cell : A.heap.get fr = some (.cells 0 false 2 [vn, vs])
  n : Vec A 1 vn hs.length (sts (hs.map Prod.fst))
  s : Vec A 1 vs hs.length (sts (hs.map Prod.snd))
theorem Ri.keep {A A1 : AW} {fr : Nat} {vn vs : AV} {hs : Hs} (h : Ri A fr vn vs hs) (ho : Only A A1 none') : Ri A1 fr vn vs hs :=
  ⟨ho.keep _ _ h.cell fun h => h, vec_keep h.n ho fun _ _ h => h, vec_keep h.s ho fun _ _ h => h⟩
theorem Ri.rn {A : AW} {fr : Nat} {vn vs : AV} {hs : Hs} (h : Ri A fr vn vs hs) : Row A 1 vn (hs.map Prod.fst).length (sts (hs.map Prod.fst)) := by
  rw [List.length_map]
  exact vec_row h.n
theorem Ri.rs {A : AW} {fr : Nat} {vn vs : AV} {hs : Hs} (h : Ri A fr vn vs hs) : Row A 1 vs (hs.map Prod.snd).length (sts (hs.map Prod.snd)) := by
  rw [List.length_map]
  exact vec_row h.s
theorem at_spec {K : FuncId} {A : AW} {fr : Nat} {vn vs : AV} {hs : Hs} {k : Str} (h : Ri A fr vn vs hs) (hn : hs.length ≤ 100) : CallP (ES K) 28 [.ptr fr 0 0, .str k] A fun r A1 => r = .int .i64 (ix (hs.map Prod.fst) k 0) ∧ A1 = A := by
  refine call_of rfl rfl rfl ?_
  have hc := h.cell
  repeat (first | refine wg_seq ?_ | refine wg_block ?_ | refine wg_region ?_ | refine wo_nil ?_ | refine wo_assign rfl rfl ?_)
  refine wg_loop ?_
  refine wg_le (.put 0 (.ptr fr 0 0) (.put 1 (.str k) (.put 5 (.int .i64 ((0 : Nat) : Int)) .nil))) ?_ ⟨rfl, rfl, rfl, trivial⟩
  refine wg_ind (ι := Nat) (fun i => hs.length - i) (fun i => .put 0 (.ptr fr 0 0) (.put 1 (.str k) (.put 5 (.int .i64 (i : Int)) .nil))) (fun i A1 => A1 = A ∧ i ≤ hs.length ∧ ix ((hs.map Prod.fst).drop i) k i = ix (hs.map Prod.fst) k 0) ?_ 0 A ⟨rfl, Nat.zero_le _, rfl⟩
  rintro i A1 ⟨rfl, hi, hx⟩ ih
  repeat (first | refine wg_seq ?_ | refine wg_region ?_ | refine wo_move rfl rfl ?_ | refine wo_fieldAddr rfl rfl rfl ?_ | refine wo_nilCheck rfl rfl ?_ | refine wo_load rfl rfl rfl rfl (by assumption) rfl ?_)
  refine wo_len rfl rfl rfl (vec_lenV h.n) ?_
  repeat (first | refine wo_nil ?_ | refine wo_lss rfl rfl rfl ?_)
  refine wg_dec rfl (fun hlt => ?_) fun hge => ?_
  · have hlt : i < hs.length := Int.ofNat_lt.1 hlt
    have hlt' : i < (hs.map Prod.fst).length := by rw [List.length_map]; exact hlt
    obtain ⟨s, hs1⟩ : ∃ s, (hs.map Prod.fst)[i]? = some s := ⟨_, List.getElem?_eq_getElem hlt'⟩
    have hd : (hs.map Prod.fst).drop i = s :: (hs.map Prod.fst).drop (i + 1) := by
      rw [List.getElem?_eq_getElem hlt', Option.some.injEq] at hs1
      rw [← hs1]
      exact List.drop_eq_getElem_cons hlt'
    rw [hd] at hx
    have hx : (if k = s then (i : Int) else ix ((hs.map Prod.fst).drop (i + 1)) k (i + 1)) = ix (hs.map Prod.fst) k 0 := hx
    obtain ⟨f, t, o, c, ex, ro, all, e0, hh, _, hat⟩ := row_str h.rn hs1
    repeat (first | refine wg_seq ?_ | refine wg_skip ?_ | refine wg_block ?_ | refine wg_region ?_ | refine wo_move rfl rfl ?_ | refine wo_fieldAddr rfl rfl rfl ?_ | refine wo_nilCheck rfl rfl ?_ | refine wo_load rfl rfl rfl rfl (by assumption) rfl ?_)
    refine wo_indexAddr i rfl (congrArg some e0) rfl rfl rfl hlt' ?_
    refine wo_load rfl rfl rfl rfl hh hat ?_
    repeat (first | refine wo_nil ?_ | refine wo_move rfl rfl ?_ | refine wo_strEq rfl rfl rfl ?_)
    refine wg_dec rfl (fun he => ?_) fun he => ?_
    · have he : s = k := he
      rw [if_pos he.symm] at hx
      repeat (first | refine wg_seq ?_ | refine wg_region ?_ | refine wo_nil ?_ | refine wo_move rfl rfl ?_ | refine wo_assign rfl rfl ?_)
      exact wg_ret rfl ⟨by rw [← hx]; rfl, rfl⟩
    · have he : ¬ s = k := he
      rw [if_neg (fun h => he h.symm)] at hx
      repeat (first | refine wg_skip ?_ | refine wg_inBlock ?_ | refine wg_region ?_ | refine wo_move rfl rfl ?_)
      refine wo_add rfl rfl rfl (by omega) (by omega) ?_
      repeat (first | refine wo_nil ?_ | refine wo_assign rfl rfl ?_)
      refine wg_inLoop ?_
      refine wg_le (.put 0 (.ptr fr 0 0) (.put 1 (.str k) (.put 5 (.int .i64 ((i + 1 : Nat) : Int)) .nil))) ?_ ⟨rfl, rfl, rfl, trivial⟩
      exact ih (i + 1) _ (by omega) ⟨rfl, hlt, hx⟩
  · have hge : i = hs.length := by
      have : ¬ (i : Int) < (hs.length : Int) := hge
      omega
    rw [List.drop_eq_nil_of_le (by rw [List.length_map]; omega)] at hx
    refine wg_exit rfl ?_
    repeat (first | refine wg_seq ?_ | refine wg_region ?_ | refine wo_nil ?_ | refine wo_assign rfl rfl ?_)
    exact wg_ret rfl ⟨by rw [← hx]; rfl, rfl⟩
/-- Where a name lies. -/
theorem lk_ix : ∀ (hs : Hs) (k v : Str) (i : Nat), lk hs k = some v → ∃ j, ix (hs.map Prod.fst) k i = ((i + j : Nat) : Int) ∧ hs[j]? = some (k, v)
  | [], k, v, i, h => by cases h
  | p :: l, k, v, i, h => by
    have h : (if k = p.1 then some p.2 else lk l k) = some v := h
    show ∃ j, (if k = p.1 then (i : Int) else ix (l.map Prod.fst) k (i + 1)) = _ ∧ _
    by_cases hp : k = p.1
    · rw [if_pos hp] at h ⊢
      cases h
      exact ⟨0, rfl, by rw [hp]; rfl⟩
    · rw [if_neg hp] at h ⊢
      obtain ⟨j, h1, h2⟩ := lk_ix l k v (i + 1) h
      exact ⟨j + 1, by rw [h1]; congr 1; omega, h2⟩
theorem ix_none : ∀ (hs : Hs) (k : Str) (i : Nat), lk hs k = none → ix (hs.map Prod.fst) k i = -1
  | [], k, i, h => rfl
  | p :: l, k, i, h => by
    have h : (if k = p.1 then some p.2 else lk l k) = none := h
    show (if k = p.1 then (i : Int) else ix (l.map Prod.fst) k (i + 1)) = -1
    by_cases hp : k = p.1
    · rw [if_pos hp] at h; cases h
    · rw [if_neg hp] at h ⊢
      exact ix_none l k (i + 1) h
theorem ix_has (hs : Hs) (k : Str) : 0 ≤ ix (hs.map Prod.fst) k 0 ↔ has hs k = true := by
  unfold has
  cases hl : lk hs k with
  | none => rw [ix_none hs k 0 hl]; simp
  | some v =>
    obtain ⟨j, h1, _⟩ := lk_ix hs k v 0 hl
    rw [h1]
    simp
/-- The top lies first. -/
def Hd (hs : Hs) : Prop := ∃ l, hs = (objN, []) :: l
theorem ix_obj {hs : Hs} (h : Hd hs) (k : Str) : ix (hs.map Prod.fst) k 0 = 0 ↔ k = objN := by
  obtain ⟨l, rfl⟩ := h
  show (if k = objN then ((0 : Nat) : Int) else ix (l.map Prod.fst) k 1) = 0 ↔ _
  by_cases hk : k = objN
  · rw [if_pos hk]
    exact ⟨fun _ => hk, fun _ => rfl⟩
  · rw [if_neg hk]
    refine ⟨fun e => ?_, fun e => absurd e hk⟩
    cases hl : lk l k with
    | none => rw [ix_none l k 1 hl] at e; cases e
    | some v =>
      obtain ⟨j, h1, _⟩ := lk_ix l k v 1 hl
      rw [h1] at e
      omega
theorem ranc_spec {K : FuncId} {A : AW} {fr : Nat} {vn vs : AV} {hs : Hs} {k : Str} (hw : Wf A) (h : Ri A fr vn vs hs) (hg : Good hs) (hu : ∀ k, has hs k = true → ¬ k = objN → has hs (up hs k) = true) (hd : Hd hs) (hn : hs.length ≤ 100) :
    CallP (ES K) 29 [.ptr fr 0 0, .str k] A fun r A1 => Buf A1 1 r (anc hs k).length (sts (anc hs k)) ∧ Only A A1 none' ∧ Grow A none' r.isFam := by
  refine call_of rfl rfl rfl ?_
  repeat (first | refine wg_seq ?_ | refine wg_region ?_ | refine wo_nil ?_ | refine wo_move rfl rfl ?_ | refine wo_assign rfl rfl ?_)
  refine wo_call rfl rfl orc_cons rfl (at_spec h hn) ?_
  rintro r A1 ⟨rfl, e1⟩
  obtain rfl : A = A1 := e1.symm
  repeat (first | refine wg_seq ?_ | refine wg_block ?_ | refine wo_nil ?_ | refine wo_assign rfl rfl ?_)
  refine wg_loop ?_
  refine wg_le (.put 0 (.ptr fr 0 0) (.put 5 .nils (.put 6 (.int .i64 (ix (hs.map Prod.fst) k 0)) .nil))) ?_ ⟨rfl, rfl, rfl, trivial⟩
  cases hb : has hs k with
  | false =>
    have ha : anc hs k = [] := by unfold anc; rw [hb]; rfl
    have hx : ¬ 0 ≤ ix (hs.map Prod.fst) k 0 := fun e => by
      have := (ix_has hs k).1 e
      rw [hb] at this
      cases this
    rw [ha]
    repeat (first | refine wg_seq ?_ | refine wg_region ?_ | refine wo_nil ?_ | refine wo_move rfl rfl ?_ | refine wo_geq rfl rfl rfl ?_)
    refine wg_dec rfl (fun e => absurd e hx) fun _ => ?_
    refine wg_exit rfl ?_
    repeat (first | refine wg_seq ?_ | refine wg_region ?_ | refine wo_nil ?_ | refine wo_move rfl rfl ?_ | refine wo_assign rfl rfl ?_)
    exact wg_ret rfl ⟨.inl ⟨rfl, rfl, rfl⟩, Only.refl hw _, fun g hg => .inl hg⟩
  | true =>
    have ha : anc hs k = ancF hs (hs.length + 1) k := by
      unfold anc
      rw [if_pos hb]
    rw [ha]
    refine wg_ind (ι := Nat × Str × List Str × AV) (fun i => i.1) (fun i => .put 0 (.ptr fr 0 0) (.put 5 i.2.2.2 (.put 6 (.int .i64 (ix (hs.map Prod.fst) i.2.1 0)) .nil)))
      (fun i A2 => (rndF hs i.1 i.2.1 = false ∧ has hs i.2.1 = true) ∧ i.2.2.1 ++ ancF hs i.1 i.2.1 = ancF hs (hs.length + 1) k ∧ Buf A2 1 i.2.2.2 i.2.2.1.length (sts i.2.2.1) ∧ Only A A2 none' ∧ (∀ g, i.2.2.2.isFam g → A.nxt ≤ g) ∧ i.2.2.1.length + i.1 = hs.length + 1) ?_
      (hs.length + 1, k, [], .nils) A ⟨⟨hg k hb, hb⟩, rfl, .inl ⟨rfl, rfl, rfl⟩, Only.refl hw _, fun g h => h.elim, by simp⟩
    rintro ⟨f, q, out, v⟩ A2 ⟨⟨h1, hq⟩, h2, h3, h4, h5, h6⟩ ih
    have h1 : rndF hs f q = false := h1
    have hq : has hs q = true := hq
    have h2 : out ++ ancF hs f q = ancF hs (hs.length + 1) k := h2
    have h3 : Buf A2 1 v out.length (sts out) := h3
    have h4 : Only A A2 none' := h4
    have h5 : ∀ g, v.isFam g → A.nxt ≤ g := h5
    have h6 : out.length + f = hs.length + 1 := h6
    obtain ⟨w, hlk⟩ : ∃ w, lk hs q = some w := by
      unfold has at hq
      exact Option.isSome_iff_exists.1 hq
    obtain ⟨j, hj1, hj2⟩ := lk_ix hs q w 0 hlk
    rw [Nat.zero_add] at hj1
    have hup : up hs q = w := by unfold up; rw [hlk]; rfl
    have hjl := (List.getElem?_eq_some_iff.1 hj2).1
    have hN : (hs.map Prod.fst)[j]? = some q := by rw [List.getElem?_map, hj2]; rfl
    have hS : (hs.map Prod.snd)[j]? = some w := by rw [List.getElem?_map, hj2]; rfl
    have hR := h.keep h4
    have hc := hR.cell
    obtain ⟨fa, ta, oa, ca, exa, roa, alla, ea, hha, hla, hata⟩ := row_str hR.rn hN
    repeat (first | refine wg_seq ?_ | refine wg_region ?_ | refine wo_nil ?_ | refine wo_move rfl rfl ?_ | refine wo_geq rfl rfl rfl ?_)
    refine wg_dec rfl (fun _ => ?_) fun e => absurd ((ix_has hs q).2 hq) e
    repeat (first | refine wg_seq ?_ | refine wg_skip ?_ | refine wg_block ?_ | refine wg_region ?_ | refine wo_move rfl rfl ?_ | refine wo_fieldAddr rfl rfl rfl ?_ | refine wo_nilCheck rfl rfl ?_ | refine wo_load rfl rfl rfl rfl (by assumption) rfl ?_)
    refine wo_indexAddr j rfl (congrArg some ea) rfl rfl hj1 hla ?_
    refine wo_load rfl rfl rfl rfl hha hata ?_
    repeat refine wo_buildSlice rfl rfl rfl ?_
    refine wo_append rfl rfl rfl rfl rfl (append_one (n := out.length) (de := d9) rfl rfl rfl rfl h4.wf h3 rfl (by decide) (room_of (by omega) (by decide))) ?_
    intro v' A3 g
    have b3 : Buf A3 1 v' (out ++ [q]).length (sts (out ++ [q])) := by
      have := g.buf
      rw [List.length_append, List.length_singleton, sts_append]
      exact this
    have o3 : Only A A3 none' := Only.fresh hw h4 g.only h5
    have f3 : ∀ k, v'.isFam k → A.nxt ≤ k := fun k hk => (g.grow k hk).elim (h5 k) fun h => Nat.le_trans h4.nxt h
    repeat (first | refine wg_seq ?_ | refine wg_region ?_ | refine wo_nil ?_ | refine wo_move rfl rfl ?_ | refine wo_assign rfl rfl ?_ | refine wo_eql rfl rfl rfl ?_)
    refine wg_dec rfl (fun ho => ?_) fun ho => ?_
    · have ho : q = objN := (ix_obj hd q).1 ho
      rw [ho, ancF_obj] at h2
      rw [← h2]
      rw [ho] at b3
      refine wg_exit rfl ?_
      repeat (first | refine wg_seq ?_ | refine wg_region ?_ | refine wo_nil ?_ | refine wo_move rfl rfl ?_ | refine wo_assign rfl rfl ?_)
      exact wg_ret rfl ⟨b3, o3, fun g hg => .inr (f3 g hg)⟩
    · have hne : ¬ q = objN := fun e => ho ((ix_obj hd q).2 e)
      obtain ⟨m, rfl, e1, e2⟩ := rndF_step h1 hne
      have hR3 := h.keep o3
      have hc3 := hR3.cell
      obtain ⟨fb, tb, ob, cb, exb, rob, allb, eb, hhb, hlb, hatb⟩ := row_str hR3.rs hS
      repeat (first | refine wg_skip ?_ | refine wg_region ?_ | refine wo_move rfl rfl ?_ | refine wo_fieldAddr rfl rfl rfl ?_ | refine wo_nilCheck rfl rfl ?_ | refine wo_load rfl rfl rfl rfl (by assumption) rfl ?_)
      refine wo_indexAddr j rfl (congrArg some eb) rfl rfl hj1 hlb ?_
      refine wo_load rfl rfl rfl rfl hhb hatb ?_
      refine wo_call rfl rfl orc_cons rfl (at_spec hR3 hn) ?_
      rintro r A4 ⟨rfl, e4⟩
      obtain rfl : A3 = A4 := e4.symm
      repeat (first | refine wg_inBlock ?_ | refine wo_nil ?_ | refine wo_assign rfl rfl ?_)
      refine wg_inLoop ?_
      refine wg_le (.put 0 (.ptr fr 0 0) (.put 5 v' (.put 6 (.int .i64 (ix (hs.map Prod.fst) (up hs q) 0)) .nil))) ?_ ⟨rfl, rfl, by rw [hup]; rfl, trivial⟩
      refine ih (m, up hs q, out ++ [q], v') A3 (Nat.lt_succ_self _) ⟨⟨e1, hu q hq hne⟩, ?_, b3, o3, f3, ?_⟩
      · show (out ++ [q]) ++ ancF hs m (up hs q) = _
        rw [← h2, e2, List.append_assoc]
        rfl
      · show (out ++ [q]).length + m = _
        rw [List.length_append, List.length_singleton]
        omega
end Go.Proofs.Ytokieeiohfcgdaa.Ae
namespace Go.Proofs.Ytokieeiohfcgdaa.Ae
open Go.AE
set_option linter.unusedVariables false
set_option maxRecDepth 100000

theorem rsub_spec {K : FuncId} {A : AW} {fr : Nat} {vn vs : AV} {hs : Hs} {a b : Str} (hw : Wf A) (h : Ri A fr vn vs hs) (hg : Good hs) (hu : ∀ k, has hs k = true → ¬ k = objN → has hs (up hs k) = true) (hd : Hd hs) (hn : hs.length ≤ 100) :
    CallP (ES K) 30 [.ptr fr 0 0, .str a, .str b] A fun r A1 => r = .bool (sub hs a b) ∧ Only A A1 none' := by
  have hl := anc_len hs a
  refine call_of rfl rfl rfl ?_
  repeat (first | refine wg_seq ?_ | refine wg_region ?_ | refine wo_nil ?_ | refine wo_move rfl rfl ?_ | refine wo_assign rfl rfl ?_)
  refine wo_call rfl rfl orc_cons rfl (ranc_spec hw h hg hu hd hn) ?_
  rintro v A1 ⟨h1, h2, h3⟩
  unfold sub
  generalize anc hs a = l at h1 hl
  repeat (first | refine wg_seq ?_ | refine wg_block ?_ | refine wg_region ?_ | refine wo_nil ?_ | refine wo_assign rfl rfl ?_)
  refine wg_loop ?_
  refine wg_le (.put 2 (.str b) (.put 7 v (.put 8 (.int .i64 ((0 : Nat) : Int)) .nil))) ?_ ⟨rfl, rfl, rfl, trivial⟩
  refine wg_ind (ι := Nat) (fun i => l.length - i) (fun i => .put 2 (.str b) (.put 7 v (.put 8 (.int .i64 (i : Int)) .nil))) (fun i A2 => A2 = A1 ∧ i ≤ l.length ∧ ¬ b ∈ l.take i) ?_ 0 A1 ⟨rfl, Nat.zero_le _, by simp⟩
  rintro i A2 ⟨rfl, hi, hx⟩ ih
  repeat (first | refine wg_seq ?_ | refine wg_region ?_ | refine wo_move rfl rfl ?_)
  refine wo_len rfl rfl rfl h1.lenV ?_
  repeat (first | refine wo_nil ?_ | refine wo_lss rfl rfl rfl ?_)
  refine wg_dec rfl (fun hlt => ?_) fun hge => ?_
  · have hlt : i < l.length := Int.ofNat_lt.1 hlt
    obtain ⟨s, hs'⟩ : ∃ s, l[i]? = some s := ⟨l[i], List.getElem?_eq_getElem hlt⟩
    obtain ⟨f, t, o, c, ex, ro, all, e0, hh, _, hN⟩ := row_str h1.row hs'
    repeat (first | refine wg_seq ?_ | refine wg_skip ?_ | refine wg_block ?_ | refine wg_region ?_ | refine wo_move rfl rfl ?_)
    refine wo_indexAddr i rfl (congrArg some e0) rfl rfl rfl hlt ?_
    refine wo_load rfl rfl rfl rfl hh hN ?_
    repeat (first | refine wo_nil ?_ | refine wo_move rfl rfl ?_ | refine wo_strEq rfl rfl rfl ?_)
    refine wg_dec rfl (fun he => ?_) fun he => ?_
    · have he : s = b := he
      repeat (first | refine wg_seq ?_ | refine wg_region ?_ | refine wo_nil ?_ | refine wo_assign rfl rfl ?_)
      exact wg_ret rfl ⟨congrArg AV.bool (decide_eq_true (he ▸ List.mem_of_getElem? hs')).symm, h2⟩
    · have he : ¬ s = b := he
      repeat (first | refine wg_skip ?_ | refine wg_inBlock ?_ | refine wg_region ?_ | refine wo_move rfl rfl ?_)
      refine wo_add rfl rfl rfl (by omega) (by omega) ?_
      repeat (first | refine wo_nil ?_ | refine wo_assign rfl rfl ?_)
      refine wg_inLoop ?_
      refine wg_le (.put 2 (.str b) (.put 7 v (.put 8 (.int .i64 ((i + 1 : Nat) : Int)) .nil))) ?_ ⟨rfl, rfl, rfl, trivial⟩
      refine ih (i + 1) _ (by omega) ⟨rfl, hlt, fun hm => ?_⟩
      rw [List.take_add_one, hs'] at hm
      rcases List.mem_append.1 hm with hm | hm
      · exact hx hm
      · simp at hm
        exact he hm.symm
  · have hge : i = l.length := by
      have : ¬ (i : Int) < (l.length : Int) := hge
      omega
    rw [hge, List.take_length] at hx
    refine wg_exit rfl ?_
    repeat (first | refine wg_seq ?_ | refine wg_region ?_ | refine wo_nil ?_ | refine wo_assign rfl rfl ?_)
    exact wg_ret rfl ⟨congrArg AV.bool (decide_eq_false hx).symm, h2⟩
theorem rcom_spec {K : FuncId} {A : AW} {fr : Nat} {vn vs : AV} {hs : Hs} {a b : Str} (hw : Wf A) (h : Ri A fr vn vs hs) (hg : Good hs) (hu : ∀ k, has hs k = true → ¬ k = objN → has hs (up hs k) = true) (hd : Hd hs) (hn : hs.length ≤ 100) :
    CallP (ES K) 31 [.ptr fr 0 0, .str a, .str b] A fun r A1 => r = .str (com hs a b) ∧ Only A A1 none' := by
  have hl := anc_len hs a
  refine call_of rfl rfl rfl ?_
  repeat (first | refine wg_seq ?_ | refine wg_region ?_ | refine wo_nil ?_ | refine wo_move rfl rfl ?_ | refine wo_assign rfl rfl ?_)
  refine wo_call rfl rfl orc_cons rfl (ranc_spec hw h hg hu hd hn) ?_
  rintro v A1 ⟨h1, h2, h3⟩
  unfold com
  generalize anc hs a = l at h1 hl
  repeat (first | refine wg_seq ?_ | refine wg_block ?_ | refine wg_region ?_ | refine wo_nil ?_ | refine wo_assign rfl rfl ?_)
  refine wg_loop ?_
  refine wg_le (.put 0 (.ptr fr 0 0) (.put 2 (.str b) (.put 7 v (.put 8 (.int .i64 ((0 : Nat) : Int)) .nil)))) ?_ ⟨rfl, rfl, rfl, rfl, trivial⟩
  refine wg_ind (ι := Nat) (fun i => l.length - i) (fun i => .put 0 (.ptr fr 0 0) (.put 2 (.str b) (.put 7 v (.put 8 (.int .i64 (i : Int)) .nil)))) (fun i A2 => Only A1 A2 none' ∧ i ≤ l.length ∧ fstIn (l.drop i) (anc hs b) = fstIn l (anc hs b)) ?_ 0 A1 ⟨Only.refl h2.wf _, Nat.zero_le _, rfl⟩
  rintro i A2 ⟨o2, hi, hx⟩ ih
  have b2 := h1.keep o2 fun _ _ h => h
  repeat (first | refine wg_seq ?_ | refine wg_region ?_ | refine wo_move rfl rfl ?_)
  refine wo_len rfl rfl rfl b2.lenV ?_
  repeat (first | refine wo_nil ?_ | refine wo_lss rfl rfl rfl ?_)
  refine wg_dec rfl (fun hlt => ?_) fun hge => ?_
  · have hlt : i < l.length := Int.ofNat_lt.1 hlt
    obtain ⟨s, hs'⟩ : ∃ s, l[i]? = some s := ⟨l[i], List.getElem?_eq_getElem hlt⟩
    have hdr : l.drop i = s :: l.drop (i + 1) := by
      rw [List.getElem?_eq_getElem hlt, Option.some.injEq] at hs'
      rw [← hs']
      exact List.drop_eq_getElem_cons hlt
    rw [hdr] at hx
    have hx : (if s ∈ anc hs b then s else fstIn (l.drop (i + 1)) (anc hs b)) = fstIn l (anc hs b) := hx
    obtain ⟨f, t, o, c, ex, ro, all, e0, hh, _, hN⟩ := row_str b2.row hs'
    repeat (first | refine wg_seq ?_ | refine wg_skip ?_ | refine wg_block ?_ | refine wg_region ?_ | refine wo_move rfl rfl ?_)
    refine wo_indexAddr i rfl (congrArg some e0) rfl rfl rfl hlt ?_
    refine wo_load rfl rfl rfl rfl hh hN ?_
    refine wo_call rfl rfl orc_cons rfl (rsub_spec o2.wf (h.keep (h2.same o2)) hg hu hd hn) ?_
    rintro r A3 ⟨rfl, o3⟩
    have b3 := b2.keep o3 fun _ _ h => h
    obtain ⟨f', t', o', c', ex', ro', all', e0', hh', _, hN'⟩ := row_str b3.row hs'
    repeat refine wo_nil ?_
    refine wg_dec rfl (fun he => ?_) fun he => ?_
    · have he : s ∈ anc hs b := he
      rw [if_pos he] at hx
      repeat (first | refine wg_seq ?_ | refine wg_region ?_ | refine wo_move rfl rfl ?_)
      refine wo_indexAddr i rfl (congrArg some e0') rfl rfl rfl hlt ?_
      refine wo_load rfl rfl rfl rfl hh' hN' ?_
      repeat (first | refine wo_nil ?_ | refine wo_assign rfl rfl ?_)
      exact wg_ret rfl ⟨by rw [← hx]; rfl, h2.same (o2.same o3)⟩
    · have he : ¬ s ∈ anc hs b := he
      rw [if_neg he] at hx
      repeat (first | refine wg_skip ?_ | refine wg_inBlock ?_ | refine wg_region ?_ | refine wo_move rfl rfl ?_)
      refine wo_add rfl rfl rfl (by omega) (by omega) ?_
      repeat (first | refine wo_nil ?_ | refine wo_assign rfl rfl ?_)
      refine wg_inLoop ?_
      refine wg_le (.put 0 (.ptr fr 0 0) (.put 2 (.str b) (.put 7 v (.put 8 (.int .i64 ((i + 1 : Nat) : Int)) .nil)))) ?_ ⟨rfl, rfl, rfl, rfl, trivial⟩
      exact ih (i + 1) A3 (by omega) ⟨o2.same o3, hlt, hx⟩
  · have hge : i = l.length := by
      have : ¬ (i : Int) < (l.length : Int) := hge
      omega
    rw [hge, List.drop_length] at hx
    refine wg_exit rfl ?_
    repeat (first | refine wg_seq ?_ | refine wg_region ?_ | refine wo_nil ?_ | refine wo_assign rfl rfl ?_)
    exact wg_ret rfl ⟨by rw [← hx]; rfl, h2.same o2⟩
end Go.Proofs.Ytokieeiohfcgdaa.Ae
