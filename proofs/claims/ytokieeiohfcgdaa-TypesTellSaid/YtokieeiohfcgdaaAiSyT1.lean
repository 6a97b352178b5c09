/-
  MAPS OF TEXTS, by the rules; a hierarchy; Has, Index, Contains.
-/
import Derived.Test.YtokieeiohfcgdaaAiSyTab
import Derived.Test.YtokieeiohfcgdaaAiSy5
namespace Go.Proofs.Ytokieeiohfcgdaa.Ae
open Go.AE
set_option linter.unusedVariables false
set_option maxRecDepth 100000

theorem Only.fresh {A A1 A2 : AW} {T : Nat → Prop} (hw : Wf A) (h : Only A A1 none') (k : Only A1 A2 T) (ht : ∀ g, T g → A.nxt ≤ g) : Only A A2 none' :=
  h.trans hw (k.mono fun g hg => hg) fun g hg => .inr (ht g hg)

abbrev Str := List Nat
def sts (l : List Str) : List AV := l.flatMap fun s => [AV.str s]
theorem sts_one (s : Str) : ([AV.str s] : List AV).length = 1 := rfl
theorem sts_append (l m : List Str) : sts (l ++ m) = sts l ++ sts m := by unfold sts; rw [List.flatMap_append]
theorem row_str {A : AW} {v : AV} {l : List Str} (h : Row A 1 v l.length (sts l)) {i : Nat} {s : Str} (hs : l[i]? = some s) :
    ∃ f t o c ex ro all, v = .slice f t o l.length c ex ∧ A.heap.get f = some (.cells t ro 1 all) ∧ i < l.length ∧ nth all (Nat.add o (Nat.mul i 1)) = some (.str s) := by
  have hi := (List.getElem?_eq_some_iff.1 hs).1
  obtain ⟨f, t, o, c, ex, ro, all, rfl, hh, hat⟩ := h.at hi
  exact ⟨f, t, o, c, ex, ro, all, rfl, hh, hi, nth_take ((hat 1 0 (by decide)).trans ((take_flat sts_one hs 1 0 (by decide)).trans rfl))⟩

/-! ### Maps -/
abbrev Hs := List (Str × Str)
def ent (hs : Hs) : List (AV × AV) := hs.map fun p => (.str p.1, .str p.2)
def lk : Hs → Str → Option Str
  | [], _ => none
  | p :: l, k => if k = p.1 then some p.2 else lk l k
def upd : Hs → Str → Str → Hs
  | [], _, _ => []
  | p :: l, k, w => if k = p.1 then (k, w) :: l else p :: upd l k w
theorem keyEq_str (a b : Str) : keyEq (.str a) (.str b) = some (decide (a = b)) := congrArg some (strEq_iff a b)
theorem find_none : ∀ (hs : Hs) (k : Str) (i : Nat), lk hs k = none → findKeyA (.str k) (ent hs) i = some none
  | [], k, i, h => rfl
  | p :: l, k, i, h => by
    unfold lk at h
    by_cases hp : k = p.1
    · rw [if_pos hp] at h; cases h
    · rw [if_neg hp] at h
      show (match keyEq (.str k) (.str p.1) with | some true => _ | some false => findKeyA (.str k) (ent l) (Nat.succ i) | none => _) = _
      rw [keyEq_str, decide_eq_false hp]
      exact find_none l k _ h
theorem find_some : ∀ (hs : Hs) (k v w : Str) (i : Nat), lk hs k = some v → ∃ j, findKeyA (.str k) (ent hs) i = some (some (i + j, .str v)) ∧ setAtL j (.str k) (.str w) (ent hs) = ent (upd hs k w)
  | [], k, v, w, i, h => by cases h
  | p :: l, k, v, w, i, h => by
    unfold lk at h
    by_cases hp : k = p.1
    · rw [if_pos hp] at h
      cases h
      refine ⟨0, ?_, ?_⟩
      · show (match keyEq (.str k) (.str p.1) with | some true => some (some (i, AV.str p.2)) | some false => _ | none => _) = _
        rw [keyEq_str, decide_eq_true hp]
        rfl
      · unfold upd
        rw [if_pos hp]
        rfl
    · rw [if_neg hp] at h
      obtain ⟨j, h1, h2⟩ := find_some l k v w (Nat.succ i) h
      refine ⟨j + 1, ?_, ?_⟩
      · show (match keyEq (.str k) (.str p.1) with | some true => _ | some false => findKeyA (.str k) (ent l) (Nat.succ i) | none => _) = _
        rw [keyEq_str, decide_eq_false hp]
        refine h1.trans ?_
        rw [show Nat.succ i + j = i + (j + 1) from by omega]
      · unfold upd
        rw [if_neg hp]
        show (AV.str p.1, AV.str p.2) :: setAtL j _ _ (ent l) = _
        rw [h2]
        rfl
theorem lookup_eq {K : FuncId} {A : AW} {f : Nat} {hs : Hs} {k : Str} (ok : Bool) (h : A.heap.get f = some (.map (ent hs))) :
    lookupA (ES K) 75 (.map f) (.str k) ok A = .val (bif ok then .tuple [.str ((lk hs k).getD []), .bool (lk hs k).isSome] else .str ((lk hs k).getD [])) A := by
  have e1 : (ES K).tys.get 75 = some d75 := rfl
  have e2 : keyOk (ES K) 9 (.str k) = true := rfl
  have e3 : (ES K).tys.get 9 = some d9 := rfl
  have e4 : d75.desc = .map 9 9 := rfl
  unfold lookupA
  rw [e1]
  simp only [e4, e2, cond_true, h]
  cases hl : lk hs k with
  | none =>
    rw [find_none hs k 0 hl]
    simp only [e3]
    rfl
  | some v =>
    obtain ⟨j, h1, _⟩ := find_some hs k v [] 0 hl
    rw [h1]
    rfl
theorem update_new {K : FuncId} {A : AW} {f : Nat} {hs : Hs} {k v : Str} (h : A.heap.get f = some (.map (ent hs))) (hl : lk hs k = none) :
    mapUpdateA (ES K) 75 (.map f) (.str k) (.str v) A = .val .undef (A.put f (.map (ent (hs ++ [(k, v)])))) := by
  have e1 : (ES K).tys.get 75 = some d75 := rfl
  have e2 : keyOk (ES K) 9 (.str k) = true := rfl
  have e4 : d75.desc = .map 9 9 := rfl
  unfold mapUpdateA
  rw [e1]
  simp only [e4, e2, cond_true, h, find_none hs k 0 hl]
  unfold ent
  rw [List.map_append]
  rfl
theorem update_old {K : FuncId} {A : AW} {f : Nat} {hs : Hs} {k v w : Str} (h : A.heap.get f = some (.map (ent hs))) (hl : lk hs k = some v) :
    mapUpdateA (ES K) 75 (.map f) (.str k) (.str w) A = .val .undef (A.put f (.map (ent (upd hs k w)))) := by
  have e1 : (ES K).tys.get 75 = some d75 := rfl
  have e2 : keyOk (ES K) 9 (.str k) = true := rfl
  have e4 : d75.desc = .map 9 9 := rfl
  obtain ⟨j, h1, h2⟩ := find_some hs k v w 0 hl
  unfold mapUpdateA
  rw [e1]
  simp only [e4, e2, cond_true, h, h1]
  rw [Nat.zero_add, h2]
  rfl
section
variable {E : Env} {C : FnE} {all rest : List Oper} {l : Kn} {A A1 : AW} {Q : Kn → AW → Prop} {d : Tmp} {ty : TypeId} {pos : String} {after : Array Edge}
theorem wo_makeMap {t : TypeId} (hd : Nat.blt d C.N = true) (h : WO E C all rest (.put d (.map A.nxt) l) (A.add (.map [])) Q) : WO E C all (⟨some d, .makeMap t none, ty, pos, after, none⟩ :: rest) l A Q :=
  wo_val hd (fun F hF => rfl) h
theorem wo_lookup {t : TypeId} {m k : Operand} {ok : Bool} {mv kv v : AV} (hd : Nat.blt d C.N = true) (hm : evO l m = some mv) (hk : evO l k = some kv) (hv : lookupA E t mv kv ok A = .val v A) (h : WO E C all rest (.put d v l) A Q) :
    WO E C all (⟨some d, .lookup t m k ok, ty, pos, after, none⟩ :: rest) l A Q :=
  wo_val hd (fun F hF => by
    show liftR (lookupA E t (ev F m) (ev F k) ok A) = _
    rw [hF.ev hm, hF.ev hk, hv]
    rfl) h
theorem wo_mapUpdate {t : TypeId} {m k x : Operand} {mv kv xv : AV} (hm : evO l m = some mv) (hk : evO l k = some kv) (hx : evO l x = some xv) (hv : mapUpdateA E t mv kv xv A = .val .undef A1) (h : WO E C all rest l A1 Q) :
    WO E C all (⟨none, .mapUpdate t m k x, ty, pos, after, none⟩ :: rest) l A Q :=
  wo_non (v := .undef) (fun F hF => by
    show liftR (mapUpdateA E t (ev F m) (ev F k) (ev F x) A) = _
    rw [hF.ev hm, hF.ev hk, hF.ev hx, hv]
    rfl) h
theorem wo_insert {t : TypeId} {m k x : Operand} {mv kv xv : AV} (hm : evO l m = some mv) (hk : evO l k = some kv) (hx : evO l x = some xv) (hv : mapUpdateA E t mv kv xv A = .val .undef A1) (h : WO E C all rest l A1 Q) :
    WO E C all (⟨none, .insert t m k x, ty, pos, after, none⟩ :: rest) l A Q :=
  wo_non (v := .undef) (fun F hF => by
    show liftR (mapUpdateA E t (ev F m) (ev F k) (ev F x) A) = _
    rw [hF.ev hm, hF.ev hk, hF.ev hx, hv]
    rfl) h
end

/-! ### Rows that were written down, or that grew -/
def Vec (A : AW) (es : Nat) (v : AV) (n : Nat) (cs : List AV) : Prop :=
  Buf A es v n cs ∨ ∃ f t, v = .slice f t 0 n n true ∧ A.heap.get f = some (.cells t false es cs) ∧ cs.length = n * es
theorem vec_lenV {A : AW} {es : Nat} {v : AV} {n : Nat} {cs : List AV} (h : Vec A es v n cs) : lenV v = some n := by
  rcases h with h | ⟨f, t, rfl, _⟩
  · exact h.lenV
  · rfl
theorem vec_keep {A A1 : AW} {es : Nat} {v : AV} {n : Nat} {cs : List AV} {T : Nat → Prop} (h : Vec A es v n cs) (ho : Only A A1 T) (hd : Disj v.isFam T) : Vec A1 es v n cs := by
  rcases h with h | ⟨f, t, rfl, h1, h2⟩
  · exact .inl (h.keep ho hd)
  · exact .inr ⟨f, t, rfl, ho.keep f _ h1 (hd f rfl), h2⟩
theorem vec_row {A : AW} {es : Nat} {v : AV} {n : Nat} {cs : List AV} (h : Vec A es v n cs) : Row A es v n cs := by
  rcases h with h | ⟨f, t, rfl, h1, h2⟩
  · exact h.row
  · refine .inr ⟨f, t, 0, n, true, false, cs, rfl, h1, Nat.le_refl _, ?_⟩
    rw [show dropN 0 cs = cs from rfl, takeN_some _ _ (by omega), ← h2, List.take_length]
theorem vec_fam {A : AW} {es : Nat} {v : AV} {n : Nat} {cs : List AV} (h : Vec A es v n cs) {g : Nat} (hg : v.isFam g) : ∃ t, A.heap.get g = some (.cells t false es cs) := by
  rcases h with (⟨rfl, _⟩ | ⟨f, t, rfl, h1, _⟩) | ⟨f, t, rfl, h1, _⟩
  · exact hg.elim
  · cases hg; exact ⟨t, h1⟩
  · cases hg; exact ⟨t, h1⟩
theorem vec_append {E : Env} {A : AW} {t e : TypeId} {d de : ATy} {z : List AV} {v : AV} {n : Nat} {cs xs : List AV} (ht : E.tys.get t = some d) (hs : d.desc = .slice e) (he : E.tys.get e = some de) (hz : de.zero = some z)
    (hw : Wf A) (hb : Vec A de.size v n cs) (hl : xs.length = de.size) (h1 : 1 ≤ de.size) (hr : roomA (n + 1) de.bytes = true) :
    ∃ v' A1, appendA E t v (.slice A.nxt 0 0 1 1 true) (A.add (.cells 0 false de.size xs)) = .val v' A1 ∧ Grew A A1 de.size v v' (n + 1) (cs ++ xs) := by
  rcases hb with hb | ⟨f, u, rfl, g1, g2⟩
  · exact append_one ht hs he hz hw hb hl h1 hr
  · have o1 : Only A (A.add (.cells 0 false de.size xs)) none' := Only.add hw _
    have hx : srcA (A.add (.cells 0 false de.size xs)) de.size (.slice A.nxt 0 0 1 1 true) = some (1, xs) := by
      have e : takeN (Nat.mul 1 de.size) xs = some xs := by
        have : Nat.mul 1 de.size = de.size := Nat.one_mul _
        rw [this, takeN_some _ _ (by omega), ← hl, List.take_length]
      simp only [srcA, readCells, dropN]
      rw [AW.add_get, if_pos rfl]
      simp only [Nat.beq_refl, cond_true, e]
    have g3 := o1.keep f _ g1 fun h => h
    have o2 : Only (A.add (.cells 0 false de.size xs)) ((A.add (.cells 0 false de.size xs)).add (.cells 0 false de.size (cs ++ xs))) none' := Only.add o1.wf _
    have e1 : Nat.ble 1 de.size = true := Nat.ble_eq_true_of_le h1
    have e2 : Nat.ble (Nat.add n 1) n = false := by
      rw [ble_dec]
      exact decide_eq_false (by show ¬ n + 1 ≤ n; omega)
    have e3 : takeN (Nat.mul n de.size) (dropN 0 cs) = some cs := by
      rw [show dropN 0 cs = cs from rfl, takeN_some _ _ (by rw [g2]; exact Nat.le_refl _), show Nat.mul n de.size = n * de.size from rfl, ← g2, List.take_length]
    have hr' : roomA (Nat.add n 1) de.bytes = true := hr
    refine ⟨.slice (A.add (.cells 0 false de.size xs)).nxt 0 0 (Nat.add n 1) (Nat.add n 1) false, (A.add (.cells 0 false de.size xs)).add (.cells 0 false de.size (cs ++ xs)), ?_, .inr ⟨_, 0, rfl, by rw [AW.add_get, if_pos rfl], by rw [List.length_append, g2, hl, Nat.add_mul]; omega, Nat.succ_pos _⟩, (o1.same o2).mono fun g h => h.elim, fun g hg => .inr ?_⟩
    · unfold appendA
      simp only [ht, hs, he, hz, hx, show Nat.beq 1 0 = false from rfl, cond_false, e1, cond_true, appendRow, g3, Nat.beq_refl, Bool.and_self, e2, hr', e3]
      rfl
    · cases hg
      exact o1.nxt
/-! ### A hierarchy -/
structure Hi (A : AW) (fr fm : Nat) (vn : AV) (hs : Hs) : Prop where
  cell : A.heap.get fr = some (.cells 0 false 2 [vn, .map fm])
  map : A.heap.get fm = some (.map (ent hs))
  buf : Vec A 1 vn hs.length (sts (hs.map Prod.fst))
theorem Hi.keep {A A1 : AW} {fr fm : Nat} {vn : AV} {hs : Hs} (h : Hi A fr fm vn hs) (ho : Only A A1 none') : Hi A1 fr fm vn hs :=
  ⟨ho.keep _ _ h.cell fun h => h, ho.keep _ _ h.map fun h => h, vec_keep h.buf ho fun _ _ h => h⟩
def has (hs : Hs) (k : Str) : Bool := (lk hs k).isSome
theorem has_spec {K : FuncId} {A : AW} {fr fm : Nat} {vn : AV} {hs : Hs} {k : Str} (h : Hi A fr fm vn hs) : CallP (ES K) 27 [.ptr fr 0 0, .str k] A fun r A1 => r = .bool (has hs k) ∧ A1 = A := by
  refine call_of rfl rfl rfl ?_
  have hc := h.cell
  repeat (first | refine wg_seq ?_ | refine wg_region ?_ | refine wo_nil ?_ | refine wo_move rfl rfl ?_ | refine wo_assign rfl rfl ?_ | refine wo_fieldAddr rfl rfl rfl ?_ | refine wo_nilCheck rfl rfl ?_ | refine wo_load rfl rfl rfl rfl (by assumption) rfl ?_)
  refine wo_lookup rfl rfl rfl (lookup_eq true h.map) ?_
  repeat (first | refine wg_seq ?_ | refine wg_region ?_ | refine wo_nil ?_ | refine wo_move rfl rfl ?_ | refine wo_assign rfl rfl ?_ | refine wo_extract rfl rfl rfl ?_)
  exact wg_ret rfl ⟨rfl, rfl⟩

/-! ### Where a text lies -/
def ix : List Str → Str → Nat → Int
  | [], _, _ => -1
  | x :: l, k, i => if k = x then (i : Int) else ix l k (i + 1)
theorem ix_mem : ∀ (l : List Str) (k : Str) (i : Nat), 0 ≤ ix l k i ↔ k ∈ l
  | [], k, i => by simp [ix]
  | x :: l, k, i => by
    unfold ix
    by_cases h : k = x
    · rw [if_pos h, h]
      simp
    · rw [if_neg h, ix_mem l k (i + 1)]
      simp [h]
theorem index_spec {K : FuncId} {A : AW} {v : AV} {l : List Str} {k : Str} (h : Row A 1 v l.length (sts l)) (hn : l.length < 9223372036854775807) :
    CallP (ES K) 77 [v, .str k] A fun r A1 => r = .int .i64 (ix l k 0) ∧ A1 = A := by
  refine call_of rfl rfl rfl ?_
  repeat (first | refine wg_seq ?_ | refine wg_region ?_ | refine wo_nil ?_ | refine wo_move rfl rfl ?_ | refine wo_assign rfl rfl ?_)
  refine wo_len rfl rfl rfl h.lenV ?_
  repeat (first | refine wg_block ?_ | refine wo_nil ?_ | refine wo_move rfl rfl ?_)
  refine wg_loop ?_
  refine wg_le (.put 0 v (.put 1 (.str k) (.put 7 (.int .i64 (l.length : Int)) (.put 8 (.int .i64 ((0 : Nat) : Int)) .nil)))) ?_ ⟨rfl, rfl, rfl, rfl, trivial⟩
  refine wg_ind (ι := Nat) (fun i => l.length - i) (fun i => .put 0 v (.put 1 (.str k) (.put 7 (.int .i64 (l.length : Int)) (.put 8 (.int .i64 (i : Int)) .nil)))) (fun i A1 => A1 = A ∧ i ≤ l.length ∧ ix (l.drop i) k i = ix l k 0) ?_ 0 A ⟨rfl, Nat.zero_le _, rfl⟩
  rintro i A1 ⟨rfl, hi, hx⟩ ih
  repeat (first | refine wg_seq ?_ | refine wg_region ?_ | refine wo_nil ?_ | refine wo_lss rfl rfl rfl ?_)
  refine wg_dec rfl (fun hlt => ?_) fun hge => ?_
  · have hlt : i < l.length := Int.ofNat_lt.1 hlt
    obtain ⟨s, hs⟩ : ∃ s, l[i]? = some s := ⟨l[i], List.getElem?_eq_getElem hlt⟩
    have hd : l.drop i = s :: l.drop (i + 1) := by
      rw [List.getElem?_eq_getElem hlt, Option.some.injEq] at hs
      rw [← hs]
      exact List.drop_eq_getElem_cons hlt
    rw [hd] at hx
    have hx : (if k = s then (i : Int) else ix (l.drop (i + 1)) k (i + 1)) = ix l k 0 := hx
    obtain ⟨f, t, o, c, ex, ro, all, rfl, hh, _, hN⟩ := row_str h hs
    repeat (first | refine wg_seq ?_ | refine wg_skip ?_ | refine wg_block ?_ | refine wg_region ?_ | refine wo_nil ?_ | refine wo_move rfl rfl ?_ | refine wo_assign rfl rfl ?_)
    refine wo_indexAddr i rfl rfl rfl rfl rfl hlt ?_
    refine wo_load rfl rfl rfl rfl hh hN ?_
    repeat (first | refine wo_nil ?_ | refine wo_strEq rfl rfl rfl ?_)
    refine wg_dec rfl (fun he => ?_) fun he => ?_
    · have he : k = s := he
      rw [if_pos he] at hx
      repeat (first | refine wg_seq ?_ | refine wg_region ?_ | refine wo_nil ?_ | refine wo_move rfl rfl ?_ | refine wo_assign rfl rfl ?_)
      exact wg_ret rfl ⟨by rw [← hx]; rfl, rfl⟩
    · have he : ¬ k = s := he
      rw [if_neg he] at hx
      repeat (first | refine wg_skip ?_ | refine wg_inBlock ?_ | refine wg_region ?_)
      refine wo_add rfl rfl rfl (by omega) (by omega) ?_
      repeat (first | refine wo_nil ?_ | refine wo_move rfl rfl ?_)
      refine wg_inLoop ?_
      refine wg_le (.put 0 (.slice f t o l.length c ex) (.put 1 (.str k) (.put 7 (.int .i64 (l.length : Int)) (.put 8 (.int .i64 ((i + 1 : Nat) : Int)) .nil)))) ?_ ⟨rfl, rfl, rfl, rfl, trivial⟩
      exact ih (i + 1) A1 (by omega) ⟨rfl, hlt, hx⟩
  · have hge : i = l.length := by
      have : ¬ (i : Int) < (l.length : Int) := hge
      omega
    subst hge
    rw [List.drop_length] at hx
    refine wg_exit rfl ?_
    repeat (first | refine wg_seq ?_ | refine wg_region ?_ | refine wo_nil ?_ | refine wo_assign rfl rfl ?_)
    exact wg_ret rfl ⟨by rw [← hx]; rfl, rfl⟩
theorem contains_spec {K : FuncId} {A : AW} {v : AV} {l : List Str} {k : Str} (h : Row A 1 v l.length (sts l)) (hn : l.length < 9223372036854775807) :
    CallP (ES K) 55 [v, .str k] A fun r A1 => r = .bool (decide (k ∈ l)) ∧ A1 = A := by
  refine call_of rfl rfl rfl ?_
  repeat (first | refine wg_seq ?_ | refine wg_region ?_ | refine wo_nil ?_ | refine wo_move rfl rfl ?_ | refine wo_assign rfl rfl ?_)
  refine wo_call rfl rfl orc_cons rfl (index_spec h hn) ?_
  rintro r A1 ⟨rfl, rfl⟩
  repeat (first | refine wo_nil ?_ | refine wo_assign rfl rfl ?_ | refine wo_geq rfl rfl rfl ?_)
  exact wg_ret rfl ⟨congrArg AV.bool (decide_eq_decide.2 (ix_mem l k 0)), rfl⟩
end Go.Proofs.Ytokieeiohfcgdaa.Ae
