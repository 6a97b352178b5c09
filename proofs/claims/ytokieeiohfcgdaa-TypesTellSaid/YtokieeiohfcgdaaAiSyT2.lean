/-
  ANCESTORS, by the rules; Sub, Common.
-/
import Derived.Test.YtokieeiohfcgdaaAiSyT1
namespace Go.Proofs.Ytokieeiohfcgdaa.Ae
open Go.AE
set_option linter.unusedVariables false
set_option maxRecDepth 100000

def objN : Str := [79, 98, 106, 101, 99, 116]
def up (hs : Hs) (k : Str) : Str := (lk hs k).getD []
/-- Not at the top within so many steps. -/
def rndF (hs : Hs) : Nat → Str → Bool
  | 0, k => decide (k ≠ objN)
  | f + 1, k => if k = objN then false else rndF hs f (up hs k)
def ancF (hs : Hs) : Nat → Str → List Str
  | 0, k => [k]
  | f + 1, k => k :: (if k = objN then [] else ancF hs f (up hs k))
def anc (hs : Hs) (k : Str) : List Str := if has hs k = true then ancF hs (hs.length + 1) k else []
def Good (hs : Hs) : Prop := ∀ k, has hs k = true → rndF hs (hs.length + 1) k = false
theorem ancF_obj (hs : Hs) : ∀ f, ancF hs f objN = [objN]
  | 0 => rfl
  | f + 1 => by unfold ancF; rw [if_pos rfl]
theorem rndF_step {hs : Hs} {f : Nat} {k : Str} (h : rndF hs f k = false) (hk : ¬ k = objN) : ∃ g, f = g + 1 ∧ rndF hs g (up hs k) = false ∧ ancF hs f k = k :: ancF hs g (up hs k) := by
  cases f with
  | zero =>
    unfold rndF at h
    rw [decide_eq_true hk] at h
    cases h
  | succ g =>
    unfold rndF at h
    rw [if_neg hk] at h
    refine ⟨g, rfl, h, ?_⟩
    conv => lhs; unfold ancF
    rw [if_neg hk]
theorem ancF_len (hs : Hs) : ∀ f k, (ancF hs f k).length ≤ f + 1
  | 0, k => Nat.le_refl _
  | f + 1, k => by
    unfold ancF
    split
    · simp
    · have := ancF_len hs f (up hs k)
      simp only [List.length_cons]
      omega
theorem anc_len (hs : Hs) (k : Str) : (anc hs k).length ≤ hs.length + 2 := by
  unfold anc
  split
  · exact ancF_len hs _ k
  · exact Nat.zero_le _

theorem anc_spec {K : FuncId} {A : AW} {fr fm : Nat} {vn : AV} {hs : Hs} {k : Str} (hw : Wf A) (h : Hi A fr fm vn hs) (hg : Good hs) (hn : hs.length ≤ 100) :
    CallP (ES K) 18 [.ptr fr 0 0, .str k] A fun r A1 => Buf A1 1 r (anc hs k).length (sts (anc hs k)) ∧ Only A A1 none' ∧ Grow A none' r.isFam := by
  refine call_of rfl rfl rfl ?_
  repeat (first | refine wg_seq ?_ | refine wg_scope ?_ | refine wg_region ?_ | refine wo_nil ?_ | refine wo_move rfl rfl ?_ | refine wo_assign rfl rfl ?_)
  refine wo_call rfl rfl orc_cons rfl (has_spec h) ?_
  rintro r A1 ⟨rfl, rfl⟩
  repeat (first | refine wo_nil ?_ | refine wo_not rfl rfl ?_)
  refine wg_if rfl (fun hb => ?_) fun hb => ?_
  · have hb : has hs k = false := by
      cases hx : has hs k
      · rfl
      · rw [hx] at hb; cases hb
    unfold anc
    rw [hb]
    repeat (first | refine wg_seq ?_ | refine wg_region ?_ | refine wo_nil ?_ | refine wo_assign rfl rfl ?_)
    exact wg_ret rfl ⟨.inl ⟨rfl, rfl, rfl⟩, Only.refl hw _, fun g hg => .inl hg⟩
  have hb : has hs k = true := by
    cases hx : has hs k
    · rw [hx] at hb; cases hb
    · rfl
  have ha : anc hs k = ancF hs (hs.length + 1) k := by
    unfold anc
    rw [if_pos hb]
  rw [ha]
  repeat (first | refine wg_seq ?_ | refine wg_skip ?_ | refine wg_region ?_ | refine wo_nil ?_ | refine wo_assign rfl rfl ?_)
  refine wg_label ?_
  refine wg_le (.put 0 (.ptr fr 0 0) (.put 1 (.str k) (.put 5 .nils .nil))) ?_ ⟨rfl, rfl, rfl, trivial⟩
  refine wg_ind (ι := Nat × Str × List Str × AV) (fun i => i.1) (fun i => .put 0 (.ptr fr 0 0) (.put 1 (.str i.2.1) (.put 5 i.2.2.2 .nil)))
    (fun i A2 => rndF hs i.1 i.2.1 = false ∧ i.2.2.1 ++ ancF hs i.1 i.2.1 = ancF hs (hs.length + 1) k ∧ Buf A2 1 i.2.2.2 i.2.2.1.length (sts i.2.2.1) ∧ Only A1 A2 none' ∧ (∀ g, i.2.2.2.isFam g → A1.nxt ≤ g) ∧ i.2.2.1.length + i.1 = hs.length + 1) ?_
    (hs.length + 1, k, [], .nils) A1 ⟨hg k hb, rfl, .inl ⟨rfl, rfl, rfl⟩, Only.refl hw _, fun g h => h.elim, by simp⟩
  rintro ⟨f, q, out, v⟩ A2 ⟨h1, h2, h3, h4, h5, h6⟩ ih
  have h1 : rndF hs f q = false := h1
  have h2 : out ++ ancF hs f q = ancF hs (hs.length + 1) k := h2
  have h3 : Buf A2 1 v out.length (sts out) := h3
  have h4 : Only A1 A2 none' := h4
  have h5 : ∀ g, v.isFam g → A1.nxt ≤ g := h5
  have h6 : out.length + f = hs.length + 1 := h6
  repeat (first | refine wg_seq ?_ | refine wg_region ?_ | refine wo_move rfl rfl ?_ | refine wo_buildSlice rfl rfl rfl ?_)
  refine wo_append rfl rfl rfl rfl rfl (append_one (n := out.length) (de := d9) rfl rfl rfl rfl h4.wf h3 rfl (by decide) (room_of (by omega) (by decide))) ?_
  intro v' A3 g
  have b3 : Buf A3 1 v' (out ++ [q]).length (sts (out ++ [q])) := by
    have := g.buf
    rw [List.length_append, List.length_singleton, sts_append]
    exact this
  have o3 : Only A1 A3 none' := Only.fresh hw h4 g.only h5
  have f3 : ∀ k, v'.isFam k → A1.nxt ≤ k := fun k hk => (g.grow k hk).elim (h5 k) fun h => Nat.le_trans h4.nxt h
  repeat (first | refine wg_seq ?_ | refine wg_region ?_ | refine wo_nil ?_ | refine wo_move rfl rfl ?_ | refine wo_assign rfl rfl ?_ | refine wo_strEq rfl rfl rfl ?_)
  refine wg_dec rfl (fun ho => ?_) fun ho => ?_
  · have ho : q = objN := ho
    rw [ho, ancF_obj] at h2
    rw [← h2]
    rw [ho] at b3
    repeat (first | refine wg_seq ?_ | refine wg_region ?_ | refine wo_nil ?_ | refine wo_move rfl rfl ?_ | refine wo_assign rfl rfl ?_)
    exact wg_ret rfl ⟨b3, o3, fun g hg => .inr (f3 g hg)⟩
  · have ho : ¬ q = objN := ho
    obtain ⟨m, rfl, e1, e2⟩ := rndF_step h1 ho
    have hc := (h.keep o3).cell
    repeat (first | refine wg_seq ?_ | refine wg_skip ?_ | refine wg_region ?_ | refine wo_move rfl rfl ?_ | refine wo_fieldAddr rfl rfl rfl ?_ | refine wo_nilCheck rfl rfl ?_ | refine wo_load rfl rfl rfl rfl (by assumption) rfl ?_)
    refine wo_lookup rfl rfl rfl (lookup_eq false (h.keep o3).map) ?_
    repeat (first | refine wo_nil ?_ | refine wo_assign rfl rfl ?_)
    refine wg_goto rfl (wg_seq (wg_skip ?_))
    refine wg_le (.put 0 (.ptr fr 0 0) (.put 1 (.str (up hs q)) (.put 5 v' .nil))) ?_ ⟨rfl, rfl, rfl, trivial⟩
    refine ih (m, up hs q, out ++ [q], v') A3 (Nat.lt_succ_self _) ⟨e1, ?_, b3, o3, f3, ?_⟩
    · show (out ++ [q]) ++ ancF hs m (up hs q) = _
      rw [← h2, e2, List.append_assoc]
      rfl
    · show (out ++ [q]).length + m = _
      rw [List.length_append, List.length_singleton]
      omega
/-- Is a below b? -/
def sub (hs : Hs) (a b : Str) : Bool := decide (b ∈ anc hs a)
theorem sub_spec {K : FuncId} {A : AW} {fr fm : Nat} {vn : AV} {hs : Hs} {a b : Str} (hw : Wf A) (h : Hi A fr fm vn hs) (hg : Good hs) (hn : hs.length ≤ 100) :
    CallP (ES K) 16 [.ptr fr 0 0, .str a, .str b] A fun r A1 => r = .bool (sub hs a b) ∧ Only A A1 none' := by
  have hl := anc_len hs a
  refine call_of rfl rfl rfl ?_
  repeat (first | refine wg_seq ?_ | refine wg_region ?_ | refine wo_nil ?_ | refine wo_move rfl rfl ?_ | refine wo_assign rfl rfl ?_)
  refine wo_call rfl rfl orc_cons rfl (anc_spec hw h hg hn) ?_
  rintro r A1 ⟨h1, h2, h3⟩
  repeat refine wo_move rfl rfl ?_
  refine wo_call rfl rfl orc_cons rfl (contains_spec h1.row (by omega)) ?_
  rintro r A2 ⟨rfl, rfl⟩
  repeat (first | refine wo_nil ?_ | refine wo_assign rfl rfl ?_)
  exact wg_ret rfl ⟨rfl, h2⟩
/-- The first of l that is in m. -/
def fstIn : List Str → List Str → Str
  | [], _ => []
  | x :: l, m => if x ∈ m then x else fstIn l m
def com (hs : Hs) (a b : Str) : Str := fstIn (anc hs a) (anc hs b)
theorem com_spec {K : FuncId} {A : AW} {fr fm : Nat} {vn : AV} {hs : Hs} {a b : Str} (hw : Wf A) (h : Hi A fr fm vn hs) (hg : Good hs) (hn : hs.length ≤ 100) :
    CallP (ES K) 17 [.ptr fr 0 0, .str a, .str b] A fun r A1 => r = .str (com hs a b) ∧ Only A A1 none' := by
  have hl := anc_len hs a
  refine call_of rfl rfl rfl ?_
  repeat (first | refine wg_seq ?_ | refine wg_region ?_ | refine wo_nil ?_ | refine wo_move rfl rfl ?_ | refine wo_assign rfl rfl ?_)
  refine wo_call rfl rfl orc_cons rfl (anc_spec hw h hg hn) ?_
  rintro v A1 ⟨h1, h2, h3⟩
  unfold com
  generalize anc hs a = l at h1 hl
  refine wo_len rfl rfl rfl h1.lenV ?_
  repeat (first | refine wg_block ?_ | refine wo_nil ?_ | refine wo_move rfl rfl ?_)
  refine wg_loop ?_
  refine wg_le (.put 0 (.ptr fr 0 0) (.put 2 (.str b) (.put 11 v (.put 12 (.int .i64 (l.length : Int)) (.put 13 (.int .i64 ((0 : Nat) : Int)) .nil))))) ?_ ⟨rfl, rfl, rfl, rfl, rfl, trivial⟩
  refine wg_ind (ι := Nat) (fun i => l.length - i) (fun i => .put 0 (.ptr fr 0 0) (.put 2 (.str b) (.put 11 v (.put 12 (.int .i64 (l.length : Int)) (.put 13 (.int .i64 (i : Int)) .nil))))) (fun i A2 => Only A1 A2 none' ∧ i ≤ l.length ∧ fstIn (l.drop i) (anc hs b) = fstIn l (anc hs b)) ?_ 0 A1 ⟨Only.refl h2.wf _, Nat.zero_le _, rfl⟩
  rintro i A2 ⟨o2, hi, hx⟩ ih
  repeat (first | refine wg_seq ?_ | refine wg_region ?_ | refine wo_nil ?_ | refine wo_lss rfl rfl rfl ?_)
  refine wg_dec rfl (fun hlt => ?_) fun hge => ?_
  · have hlt : i < l.length := Int.ofNat_lt.1 hlt
    obtain ⟨s, hs'⟩ : ∃ s, l[i]? = some s := ⟨l[i], List.getElem?_eq_getElem hlt⟩
    have hd : l.drop i = s :: l.drop (i + 1) := by
      rw [List.getElem?_eq_getElem hlt, Option.some.injEq] at hs'
      rw [← hs']
      exact List.drop_eq_getElem_cons hlt
    rw [hd] at hx
    have hx : (if s ∈ anc hs b then s else fstIn (l.drop (i + 1)) (anc hs b)) = fstIn l (anc hs b) := hx
    obtain ⟨f, t, o, c, ex, ro, all, rfl, hh, _, hN⟩ := row_str (h1.keep o2 fun _ _ h => h).row hs'
    repeat (first | refine wg_seq ?_ | refine wg_skip ?_ | refine wg_block ?_ | refine wg_region ?_)
    refine wo_indexAddr i rfl rfl rfl rfl rfl hlt ?_
    refine wo_load rfl rfl rfl rfl hh hN ?_
    repeat (first | refine wg_seq ?_ | refine wg_region ?_ | refine wo_nil ?_ | refine wo_move rfl rfl ?_ | refine wo_assign rfl rfl ?_)
    refine wo_call rfl rfl orc_cons rfl (sub_spec o2.wf (h.keep (h2.same o2)) hg hn) ?_
    rintro r A3 ⟨rfl, o3⟩
    repeat refine wo_nil ?_
    refine wg_dec rfl (fun he => ?_) fun he => ?_
    · have he : s ∈ anc hs b := he
      rw [if_pos he] at hx
      repeat (first | refine wg_seq ?_ | refine wg_region ?_ | refine wo_nil ?_ | refine wo_move rfl rfl ?_ | refine wo_assign rfl rfl ?_)
      exact wg_ret rfl ⟨by rw [← hx]; rfl, h2.same (o2.same o3)⟩
    · have he : ¬ s ∈ anc hs b := he
      rw [if_neg he] at hx
      repeat (first | refine wg_skip ?_ | refine wg_inBlock ?_ | refine wg_region ?_)
      refine wo_add rfl rfl rfl (by omega) (by omega) ?_
      repeat (first | refine wo_nil ?_ | refine wo_move rfl rfl ?_)
      refine wg_inLoop ?_
      refine wg_le (.put 0 (.ptr fr 0 0) (.put 2 (.str b) (.put 11 (.slice f t o l.length c ex) (.put 12 (.int .i64 (l.length : Int)) (.put 13 (.int .i64 ((i + 1 : Nat) : Int)) .nil))))) ?_ ⟨rfl, rfl, rfl, rfl, rfl, trivial⟩
      exact ih (i + 1) A3 (by omega) ⟨o2.same o3, hlt, hx⟩
  · have hge : i = l.length := by
      have : ¬ (i : Int) < (l.length : Int) := hge
      omega
    subst hge
    rw [List.drop_length] at hx
    refine wg_exit rfl ?_
    repeat (first | refine wg_seq ?_ | refine wg_region ?_ | refine wo_nil ?_ | refine wo_assign rfl rfl ?_)
    exact wg_ret rfl ⟨by rw [← hx]; rfl, h2.same o2⟩
end Go.Proofs.Ytokieeiohfcgdaa.Ae
