/-
  MORE OF A SCHEDULER, by the rules: Ready, Pick, Over, Stuck, End.
-/
import Derived.Test.YtejmdglmldjliaaAiSyS2
namespace Go.Proofs.Ytejmdglmldjliaa.Ae
open Go.AE
set_option linter.unusedVariables false
set_option maxRecDepth 100000

/-- The numbers of those among the first k threads that are such. -/
def selK (p : Th → Bool) (ts : List Th) : Nat → List Int
  | 0 => []
  | k + 1 => selK p ts k ++ (match ts[k]? with
    | some th => if p th then [(k : Int) + 1] else []
    | none => [])
theorem selK_len (p : Th → Bool) (ts : List Th) : ∀ k, (selK p ts k).length ≤ k
  | 0 => Nat.le_refl _
  | k + 1 => by
    have := selK_len p ts k
    simp only [selK, List.length_append]
    split
    · split <;> simp <;> omega
    · simp; omega
theorem selK_yes {p : Th → Bool} {ts : List Th} {k : Nat} {th : Th} (h : ts[k]? = some th) (hp : p th = true) : selK p ts (k + 1) = selK p ts k ++ [(k : Int) + 1] := by
  simp only [selK, h, hp, if_true]
theorem selK_no {p : Th → Bool} {ts : List Th} {k : Nat} {th : Th} (h : ts[k]? = some th) (hp : p th = false) : selK p ts (k + 1) = selK p ts k := by
  simp only [selK, h, hp]
  simp
def isReady (th : Th) : Bool := decide (th.1 = 1)
def readyT (ts : List Th) : List Int := selK isReady ts ts.length
theorem ints_snoc (l : List Int) (z : Int) : ints l ++ [.int .i64 z] = ints (l ++ [z]) := by simp [ints]

theorem ready_spec {K : FuncId} {A : AW} {fs : Nat} {vs vj : AV} {ts : List Th} (hw : Wf A) (h : Sc A fs vs vj ts) (hl : ts.length < 1000000) :
    CallP (ES K) 39 [.ptr fs 0 0] A fun r A1 => Buf A1 1 r (readyT ts).length (ints (readyT ts)) ∧ Only A A1 none' ∧ Grow A none' r.isFam := by
  refine call_of rfl rfl rfl ?_
  have hc := h.cell
  repeat (first
    | refine wg_seq ?_
    | refine wg_skip ?_
    | refine wg_block ?_
    | refine wg_scope ?_
    | refine wg_inBlock ?_
    | refine wg_inScope ?_
    | refine wg_region ?_
    | refine wo_nil ?_
    | refine wo_move rfl rfl ?_
    | refine wo_assign rfl rfl ?_
    | refine wo_fieldAddr rfl rfl rfl ?_
    | refine wo_nilCheck rfl rfl ?_
    | refine wo_extract rfl rfl rfl ?_
    | refine wo_load rfl rfl rfl rfl (by assumption) rfl ?_
    | refine wo_eql rfl rfl rfl ?_
    | refine wo_neq rfl rfl rfl ?_
    | refine wo_lss rfl rfl rfl ?_
    | refine wo_gtr rfl rfl rfl ?_
    | refine wo_leq rfl rfl rfl ?_
    | refine wo_geq rfl rfl rfl ?_
    | refine wo_not rfl rfl ?_
    | refine wo_lenStr rfl rfl rfl ?_
    | refine wo_len rfl rfl rfl rfl ?_
    | refine wo_buildSlice rfl rfl rfl ?_
    | refine wo_build rfl rfl rfl ?_
    | refine wo_pick rfl rfl rfl ?_
    | refine wo_strEq rfl rfl rfl ?_
    | refine wo_boolEq rfl rfl rfl rfl ?_
    | refine wo_boolNe rfl rfl rfl rfl ?_
    | refine wo_strNe rfl rfl rfl ?_
    | refine wo_on rfl ?_
    | refine wo_off rfl rfl ?_
    | refine wo_offn rfl ?_)
  refine wo_len rfl rfl rfl h.st.lenV ?_
  repeat (first
    | refine wg_seq ?_
    | refine wg_skip ?_
    | refine wg_block ?_
    | refine wg_scope ?_
    | refine wg_inBlock ?_
    | refine wg_inScope ?_
    | refine wg_region ?_
    | refine wo_nil ?_
    | refine wo_move rfl rfl ?_
    | refine wo_assign rfl rfl ?_
    | refine wo_fieldAddr rfl rfl rfl ?_
    | refine wo_nilCheck rfl rfl ?_
    | refine wo_extract rfl rfl rfl ?_
    | refine wo_load rfl rfl rfl rfl (by assumption) rfl ?_
    | refine wo_eql rfl rfl rfl ?_
    | refine wo_neq rfl rfl rfl ?_
    | refine wo_lss rfl rfl rfl ?_
    | refine wo_gtr rfl rfl rfl ?_
    | refine wo_leq rfl rfl rfl ?_
    | refine wo_geq rfl rfl rfl ?_
    | refine wo_not rfl rfl ?_
    | refine wo_lenStr rfl rfl rfl ?_
    | refine wo_len rfl rfl rfl rfl ?_
    | refine wo_buildSlice rfl rfl rfl ?_
    | refine wo_build rfl rfl rfl ?_
    | refine wo_pick rfl rfl rfl ?_
    | refine wo_strEq rfl rfl rfl ?_
    | refine wo_boolEq rfl rfl rfl rfl ?_
    | refine wo_boolNe rfl rfl rfl rfl ?_
    | refine wo_strNe rfl rfl rfl ?_
    | refine wo_on rfl ?_
    | refine wo_off rfl rfl ?_
    | refine wo_offn rfl ?_)
  refine wg_loop ?_
  refine wg_le (.put 3 .nils (.put 9 vs (.put 10 (.int .i64 (ts.length : Int)) (.put 11 (.int .i64 ((0 : Nat) : Int)) .nil)))) ?_ ⟨rfl, rfl, rfl, rfl, trivial⟩
  refine wg_ind (ι := Nat × AV) (fun i => ts.length - i.1) (fun i => .put 3 i.2 (.put 9 vs (.put 10 (.int .i64 (ts.length : Int)) (.put 11 (.int .i64 (i.1 : Int)) .nil))))
    (fun i A1 => i.1 ≤ ts.length ∧ Buf A1 1 i.2 (selK isReady ts i.1).length (ints (selK isReady ts i.1)) ∧ Only A A1 none' ∧ Grow A none' i.2.isFam) ?_ (0, .nils) A ⟨Nat.zero_le _, .inl ⟨rfl, rfl, rfl⟩, Only.refl hw _, fun g h => h.elim⟩
  rintro ⟨i, vo⟩ A1 ⟨hi, hb, ho, hg⟩ ih
  have hi : i ≤ ts.length := hi
  have hb : Buf A1 1 vo (selK isReady ts i).length (ints (selK isReady ts i)) := hb
  have hg : Grow A none' vo.isFam := hg
  have hs1 := h.keep ho fun _ _ h => h
  have hsl := selK_len isReady ts i
  repeat (first
    | refine wg_seq ?_
    | refine wg_skip ?_
    | refine wg_block ?_
    | refine wg_scope ?_
    | refine wg_inBlock ?_
    | refine wg_inScope ?_
    | refine wg_region ?_
    | refine wo_nil ?_
    | refine wo_move rfl rfl ?_
    | refine wo_assign rfl rfl ?_
    | refine wo_fieldAddr rfl rfl rfl ?_
    | refine wo_nilCheck rfl rfl ?_
    | refine wo_extract rfl rfl rfl ?_
    | refine wo_load rfl rfl rfl rfl (by assumption) rfl ?_
    | refine wo_eql rfl rfl rfl ?_
    | refine wo_neq rfl rfl rfl ?_
    | refine wo_lss rfl rfl rfl ?_
    | refine wo_gtr rfl rfl rfl ?_
    | refine wo_leq rfl rfl rfl ?_
    | refine wo_geq rfl rfl rfl ?_
    | refine wo_not rfl rfl ?_
    | refine wo_lenStr rfl rfl rfl ?_
    | refine wo_len rfl rfl rfl rfl ?_
    | refine wo_buildSlice rfl rfl rfl ?_
    | refine wo_build rfl rfl rfl ?_
    | refine wo_pick rfl rfl rfl ?_
    | refine wo_strEq rfl rfl rfl ?_
    | refine wo_boolEq rfl rfl rfl rfl ?_
    | refine wo_boolNe rfl rfl rfl rfl ?_
    | refine wo_strNe rfl rfl rfl ?_
    | refine wo_on rfl ?_
    | refine wo_off rfl rfl ?_
    | refine wo_offn rfl ?_)
  refine wg_dec rfl (fun hlt => ?_) fun hge => ?_
  · have hlt : i < ts.length := Int.ofNat_lt.1 hlt
    obtain ⟨a, b, hth⟩ : ∃ a b, ts[i]? = some (a, b) := ⟨ts[i].1, ts[i].2, by rw [List.getElem?_eq_getElem hlt]⟩
    obtain ⟨f, t, rfl, hf, _⟩ := hs1.st.slice (by omega)
    repeat (first
      | refine wg_seq ?_
      | refine wg_skip ?_
      | refine wg_block ?_
      | refine wg_scope ?_
      | refine wg_inBlock ?_
      | refine wg_inScope ?_
      | refine wg_region ?_
      | refine wo_nil ?_
      | refine wo_move rfl rfl ?_
      | refine wo_assign rfl rfl ?_
      | refine wo_fieldAddr rfl rfl rfl ?_
      | refine wo_nilCheck rfl rfl ?_
      | refine wo_extract rfl rfl rfl ?_
      | refine wo_load rfl rfl rfl rfl (by assumption) rfl ?_
      | refine wo_eql rfl rfl rfl ?_
      | refine wo_neq rfl rfl rfl ?_
      | refine wo_lss rfl rfl rfl ?_
      | refine wo_gtr rfl rfl rfl ?_
      | refine wo_leq rfl rfl rfl ?_
      | refine wo_geq rfl rfl rfl ?_
      | refine wo_not rfl rfl ?_
      | refine wo_lenStr rfl rfl rfl ?_
      | refine wo_len rfl rfl rfl rfl ?_
      | refine wo_buildSlice rfl rfl rfl ?_
      | refine wo_build rfl rfl rfl ?_
      | refine wo_pick rfl rfl rfl ?_
      | refine wo_strEq rfl rfl rfl ?_
      | refine wo_boolEq rfl rfl rfl rfl ?_
      | refine wo_boolNe rfl rfl rfl rfl ?_
      | refine wo_strNe rfl rfl rfl ?_
      | refine wo_on rfl ?_
      | refine wo_off rfl rfl ?_
      | refine wo_offn rfl ?_)
    refine wo_indexAddr i rfl rfl rfl rfl rfl hlt ?_
    refine wo_load (v := .int .i64 a) rfl rfl rfl rfl hf (by rw [show Nat.add 0 (Nat.mul i d3.size) = i from by show 0 + i * 1 = i; omega]; exact stOf_get hth) ?_
    repeat (first
      | refine wg_seq ?_
      | refine wg_skip ?_
      | refine wg_block ?_
      | refine wg_scope ?_
      | refine wg_inBlock ?_
      | refine wg_inScope ?_
      | refine wg_region ?_
      | refine wo_nil ?_
      | refine wo_move rfl rfl ?_
      | refine wo_assign rfl rfl ?_
      | refine wo_fieldAddr rfl rfl rfl ?_
      | refine wo_nilCheck rfl rfl ?_
      | refine wo_extract rfl rfl rfl ?_
      | refine wo_load rfl rfl rfl rfl (by assumption) rfl ?_
      | refine wo_eql rfl rfl rfl ?_
      | refine wo_neq rfl rfl rfl ?_
      | refine wo_lss rfl rfl rfl ?_
      | refine wo_gtr rfl rfl rfl ?_
      | refine wo_leq rfl rfl rfl ?_
      | refine wo_geq rfl rfl rfl ?_
      | refine wo_not rfl rfl ?_
      | refine wo_lenStr rfl rfl rfl ?_
      | refine wo_len rfl rfl rfl rfl ?_
      | refine wo_buildSlice rfl rfl rfl ?_
      | refine wo_build rfl rfl rfl ?_
      | refine wo_pick rfl rfl rfl ?_
      | refine wo_strEq rfl rfl rfl ?_
      | refine wo_boolEq rfl rfl rfl rfl ?_
      | refine wo_boolNe rfl rfl rfl rfl ?_
      | refine wo_strNe rfl rfl rfl ?_
      | refine wo_on rfl ?_
      | refine wo_off rfl rfl ?_
      | refine wo_offn rfl ?_)
    refine wg_dec rfl (fun h1 => ?_) fun h1 => ?_
    · have hp : isReady (a, b) = true := decide_eq_true h1
      repeat (first
        | refine wg_seq ?_
        | refine wg_skip ?_
        | refine wg_block ?_
        | refine wg_scope ?_
        | refine wg_inBlock ?_
        | refine wg_inScope ?_
        | refine wg_region ?_
        | refine wo_nil ?_
        | refine wo_move rfl rfl ?_
        | refine wo_assign rfl rfl ?_
        | refine wo_fieldAddr rfl rfl rfl ?_
        | refine wo_nilCheck rfl rfl ?_
        | refine wo_extract rfl rfl rfl ?_
        | refine wo_load rfl rfl rfl rfl (by assumption) rfl ?_
        | refine wo_eql rfl rfl rfl ?_
        | refine wo_neq rfl rfl rfl ?_
        | refine wo_lss rfl rfl rfl ?_
        | refine wo_gtr rfl rfl rfl ?_
        | refine wo_leq rfl rfl rfl ?_
        | refine wo_geq rfl rfl rfl ?_
        | refine wo_not rfl rfl ?_
        | refine wo_lenStr rfl rfl rfl ?_
        | refine wo_len rfl rfl rfl rfl ?_
        | refine wo_buildSlice rfl rfl rfl ?_
        | refine wo_build rfl rfl rfl ?_
        | refine wo_pick rfl rfl rfl ?_
        | refine wo_strEq rfl rfl rfl ?_
        | refine wo_boolEq rfl rfl rfl rfl ?_
        | refine wo_boolNe rfl rfl rfl rfl ?_
        | refine wo_strNe rfl rfl rfl ?_
        | refine wo_on rfl ?_
        | refine wo_off rfl rfl ?_
        | refine wo_offn rfl ?_)
      refine wo_add rfl rfl rfl (by omega) (by omega) ?_
      repeat (first
        | refine wg_seq ?_
        | refine wg_skip ?_
        | refine wg_block ?_
        | refine wg_scope ?_
        | refine wg_inBlock ?_
        | refine wg_inScope ?_
        | refine wg_region ?_
        | refine wo_nil ?_
        | refine wo_move rfl rfl ?_
        | refine wo_assign rfl rfl ?_
        | refine wo_fieldAddr rfl rfl rfl ?_
        | refine wo_nilCheck rfl rfl ?_
        | refine wo_extract rfl rfl rfl ?_
        | refine wo_load rfl rfl rfl rfl (by assumption) rfl ?_
        | refine wo_eql rfl rfl rfl ?_
        | refine wo_neq rfl rfl rfl ?_
        | refine wo_lss rfl rfl rfl ?_
        | refine wo_gtr rfl rfl rfl ?_
        | refine wo_leq rfl rfl rfl ?_
        | refine wo_geq rfl rfl rfl ?_
        | refine wo_not rfl rfl ?_
        | refine wo_lenStr rfl rfl rfl ?_
        | refine wo_len rfl rfl rfl rfl ?_
        | refine wo_buildSlice rfl rfl rfl ?_
        | refine wo_build rfl rfl rfl ?_
        | refine wo_pick rfl rfl rfl ?_
        | refine wo_strEq rfl rfl rfl ?_
        | refine wo_boolEq rfl rfl rfl rfl ?_
        | refine wo_boolNe rfl rfl rfl rfl ?_
        | refine wo_strNe rfl rfl rfl ?_
        | refine wo_on rfl ?_
        | refine wo_off rfl rfl ?_
        | refine wo_offn rfl ?_)
      refine wo_append rfl rfl rfl rfl rfl (append_one (de := d3) rfl rfl rfl rfl ho.wf hb rfl (by decide) (room_of (by omega) (by decide))) ?_
      intro vo1 A2 g
      have gb : Buf A2 1 vo1 ((selK isReady ts i).length + 1) (ints (selK isReady ts i) ++ [.int .i64 ((i : Int) + 1)]) := g.buf
      repeat (first
        | refine wg_seq ?_
        | refine wg_skip ?_
        | refine wg_block ?_
        | refine wg_scope ?_
        | refine wg_inBlock ?_
        | refine wg_inScope ?_
        | refine wg_region ?_
        | refine wo_nil ?_
        | refine wo_move rfl rfl ?_
        | refine wo_assign rfl rfl ?_
        | refine wo_fieldAddr rfl rfl rfl ?_
        | refine wo_nilCheck rfl rfl ?_
        | refine wo_extract rfl rfl rfl ?_
        | refine wo_load rfl rfl rfl rfl (by assumption) rfl ?_
        | refine wo_eql rfl rfl rfl ?_
        | refine wo_neq rfl rfl rfl ?_
        | refine wo_lss rfl rfl rfl ?_
        | refine wo_gtr rfl rfl rfl ?_
        | refine wo_leq rfl rfl rfl ?_
        | refine wo_geq rfl rfl rfl ?_
        | refine wo_not rfl rfl ?_
        | refine wo_lenStr rfl rfl rfl ?_
        | refine wo_len rfl rfl rfl rfl ?_
        | refine wo_buildSlice rfl rfl rfl ?_
        | refine wo_build rfl rfl rfl ?_
        | refine wo_pick rfl rfl rfl ?_
        | refine wo_strEq rfl rfl rfl ?_
        | refine wo_boolEq rfl rfl rfl rfl ?_
        | refine wo_boolNe rfl rfl rfl rfl ?_
        | refine wo_strNe rfl rfl rfl ?_
        | refine wo_on rfl ?_
        | refine wo_off rfl rfl ?_
        | refine wo_offn rfl ?_)
      refine wo_add rfl rfl rfl (by omega) (by omega) ?_
      repeat (first
        | refine wg_seq ?_
        | refine wg_skip ?_
        | refine wg_block ?_
        | refine wg_scope ?_
        | refine wg_inBlock ?_
        | refine wg_inScope ?_
        | refine wg_region ?_
        | refine wo_nil ?_
        | refine wo_move rfl rfl ?_
        | refine wo_assign rfl rfl ?_
        | refine wo_fieldAddr rfl rfl rfl ?_
        | refine wo_nilCheck rfl rfl ?_
        | refine wo_extract rfl rfl rfl ?_
        | refine wo_load rfl rfl rfl rfl (by assumption) rfl ?_
        | refine wo_eql rfl rfl rfl ?_
        | refine wo_neq rfl rfl rfl ?_
        | refine wo_lss rfl rfl rfl ?_
        | refine wo_gtr rfl rfl rfl ?_
        | refine wo_leq rfl rfl rfl ?_
        | refine wo_geq rfl rfl rfl ?_
        | refine wo_not rfl rfl ?_
        | refine wo_lenStr rfl rfl rfl ?_
        | refine wo_len rfl rfl rfl rfl ?_
        | refine wo_buildSlice rfl rfl rfl ?_
        | refine wo_build rfl rfl rfl ?_
        | refine wo_pick rfl rfl rfl ?_
        | refine wo_strEq rfl rfl rfl ?_
        | refine wo_boolEq rfl rfl rfl rfl ?_
        | refine wo_boolNe rfl rfl rfl rfl ?_
        | refine wo_strNe rfl rfl rfl ?_
        | refine wo_on rfl ?_
        | refine wo_off rfl rfl ?_
        | refine wo_offn rfl ?_)
      refine wg_inLoop ?_
      refine wg_le (.put 3 vo1 (.put 9 (.slice f t 0 ts.length ts.length false) (.put 10 (.int .i64 (ts.length : Int)) (.put 11 (.int .i64 ((i + 1 : Nat) : Int)) .nil)))) ?_ ⟨rfl, rfl, rfl, rfl, trivial⟩
      have own : ∀ g, vo.isFam g → A.nxt ≤ g := fun g e => (hg g e).resolve_left fun h => h
      refine ih (i + 1, vo1) A2 (by simp only; omega) ⟨hlt, ?_, ⟨g.only.wf, Nat.le_trans ho.nxt g.only.nxt, fun k F hk hn => g.only.keep k F (ho.keep k F hk hn) fun e => by
        have := own k e
        have := hw k F hk
        omega⟩, fun k hk => ?_⟩
      · simp only [selK_yes hth hp]
        rw [ints_snoc] at gb
        simpa using gb
      · rcases g.grow k hk with h' | h'
        · exact .inr (own k h')
        · exact .inr (Nat.le_trans ho.nxt h')
    · have hp : isReady (a, b) = false := decide_eq_false h1
      repeat (first
        | refine wg_seq ?_
        | refine wg_skip ?_
        | refine wg_block ?_
        | refine wg_scope ?_
        | refine wg_inBlock ?_
        | refine wg_inScope ?_
        | refine wg_region ?_
        | refine wo_nil ?_
        | refine wo_move rfl rfl ?_
        | refine wo_assign rfl rfl ?_
        | refine wo_fieldAddr rfl rfl rfl ?_
        | refine wo_nilCheck rfl rfl ?_
        | refine wo_extract rfl rfl rfl ?_
        | refine wo_load rfl rfl rfl rfl (by assumption) rfl ?_
        | refine wo_eql rfl rfl rfl ?_
        | refine wo_neq rfl rfl rfl ?_
        | refine wo_lss rfl rfl rfl ?_
        | refine wo_gtr rfl rfl rfl ?_
        | refine wo_leq rfl rfl rfl ?_
        | refine wo_geq rfl rfl rfl ?_
        | refine wo_not rfl rfl ?_
        | refine wo_lenStr rfl rfl rfl ?_
        | refine wo_len rfl rfl rfl rfl ?_
        | refine wo_buildSlice rfl rfl rfl ?_
        | refine wo_build rfl rfl rfl ?_
        | refine wo_pick rfl rfl rfl ?_
        | refine wo_strEq rfl rfl rfl ?_
        | refine wo_boolEq rfl rfl rfl rfl ?_
        | refine wo_boolNe rfl rfl rfl rfl ?_
        | refine wo_strNe rfl rfl rfl ?_
        | refine wo_on rfl ?_
        | refine wo_off rfl rfl ?_
        | refine wo_offn rfl ?_)
      refine wo_add rfl rfl rfl (by omega) (by omega) ?_
      repeat (first
        | refine wg_seq ?_
        | refine wg_skip ?_
        | refine wg_block ?_
        | refine wg_scope ?_
        | refine wg_inBlock ?_
        | refine wg_inScope ?_
        | refine wg_region ?_
        | refine wo_nil ?_
        | refine wo_move rfl rfl ?_
        | refine wo_assign rfl rfl ?_
        | refine wo_fieldAddr rfl rfl rfl ?_
        | refine wo_nilCheck rfl rfl ?_
        | refine wo_extract rfl rfl rfl ?_
        | refine wo_load rfl rfl rfl rfl (by assumption) rfl ?_
        | refine wo_eql rfl rfl rfl ?_
        | refine wo_neq rfl rfl rfl ?_
        | refine wo_lss rfl rfl rfl ?_
        | refine wo_gtr rfl rfl rfl ?_
        | refine wo_leq rfl rfl rfl ?_
        | refine wo_geq rfl rfl rfl ?_
        | refine wo_not rfl rfl ?_
        | refine wo_lenStr rfl rfl rfl ?_
        | refine wo_len rfl rfl rfl rfl ?_
        | refine wo_buildSlice rfl rfl rfl ?_
        | refine wo_build rfl rfl rfl ?_
        | refine wo_pick rfl rfl rfl ?_
        | refine wo_strEq rfl rfl rfl ?_
        | refine wo_boolEq rfl rfl rfl rfl ?_
        | refine wo_boolNe rfl rfl rfl rfl ?_
        | refine wo_strNe rfl rfl rfl ?_
        | refine wo_on rfl ?_
        | refine wo_off rfl rfl ?_
        | refine wo_offn rfl ?_)
      refine wg_inLoop ?_
      refine wg_le (.put 3 vo (.put 9 (.slice f t 0 ts.length ts.length false) (.put 10 (.int .i64 (ts.length : Int)) (.put 11 (.int .i64 ((i + 1 : Nat) : Int)) .nil)))) ?_ ⟨rfl, rfl, rfl, rfl, trivial⟩
      exact ih (i + 1, vo) A1 (by simp only; omega) ⟨hlt, by simp only [selK_no hth hp]; exact hb, ho, hg⟩
  · have hge : i = ts.length := by
      have : ¬ (i : Int) < (ts.length : Int) := hge
      omega
    subst hge
    refine wg_exit rfl ?_
    repeat (first
      | refine wg_seq ?_
      | refine wg_skip ?_
      | refine wg_block ?_
      | refine wg_scope ?_
      | refine wg_inBlock ?_
      | refine wg_inScope ?_
      | refine wg_region ?_
      | refine wo_nil ?_
      | refine wo_move rfl rfl ?_
      | refine wo_assign rfl rfl ?_
      | refine wo_fieldAddr rfl rfl rfl ?_
      | refine wo_nilCheck rfl rfl ?_
      | refine wo_extract rfl rfl rfl ?_
      | refine wo_load rfl rfl rfl rfl (by assumption) rfl ?_
      | refine wo_eql rfl rfl rfl ?_
      | refine wo_neq rfl rfl rfl ?_
      | refine wo_lss rfl rfl rfl ?_
      | refine wo_gtr rfl rfl rfl ?_
      | refine wo_leq rfl rfl rfl ?_
      | refine wo_geq rfl rfl rfl ?_
      | refine wo_not rfl rfl ?_
      | refine wo_lenStr rfl rfl rfl ?_
      | refine wo_len rfl rfl rfl rfl ?_
      | refine wo_buildSlice rfl rfl rfl ?_
      | refine wo_build rfl rfl rfl ?_
      | refine wo_pick rfl rfl rfl ?_
      | refine wo_strEq rfl rfl rfl ?_
      | refine wo_boolEq rfl rfl rfl rfl ?_
      | refine wo_boolNe rfl rfl rfl rfl ?_
      | refine wo_strNe rfl rfl rfl ?_
      | refine wo_on rfl ?_
      | refine wo_off rfl rfl ?_
      | refine wo_offn rfl ?_)
    exact wg_ret rfl ⟨hb, ho, hg⟩

/-- What is picked. -/
def pickT (ts : List Th) (n : Int) : Int × Bool := if (readyT ts).length = 0 then (0, false) else ((readyT ts).getD (n % ((readyT ts).length : Int)).toNat 0, true)
theorem tmod_fix {n : Int} {k : Nat} (hk : 0 < k) : (if n.tmod (k : Int) < 0 then n.tmod (k : Int) + (k : Int) else n.tmod (k : Int)) = n % (k : Int) := by
  have h1 := Int.mul_tdiv_add_tmod n (k : Int)
  have hlt : n.tmod (k : Int) < (k : Int) := Int.tmod_lt_of_pos n (by omega)
  have hgt : -(k : Int) < n.tmod (k : Int) := by
    have := Int.lt_tmod_of_pos n (show (0 : Int) < (k : Int) by omega)
    omega
  have e : n % (k : Int) = n.tmod (k : Int) % (k : Int) := by
    conv => lhs; rw [← h1]
    rw [Int.add_comm, Int.add_mul_emod_self_left]
  rw [e]
  split
  · rw [← Int.add_emod_right, Int.emod_eq_of_lt (by omega) (by omega)]
  · rw [Int.emod_eq_of_lt (by omega) hlt]

theorem pick_spec {K : FuncId} {A : AW} {fs : Nat} {vs vj : AV} {ts : List Th} {n : Int} (hw : Wf A) (h : Sc A fs vs vj ts) (hl : ts.length < 1000000) (h1 : -9223372036854775808 ≤ n) (h2 : n < 9223372036854775808) :
    CallP (ES K) 46 [.ptr fs 0 0, .int .i64 n] A fun r A1 => r = .tuple [.int .i64 (pickT ts n).1, .bool (pickT ts n).2] ∧ Only A A1 none' := by
  unfold pickT
  have hrl : (readyT ts).length ≤ ts.length := selK_len _ _ _
  refine call_of rfl rfl rfl ?_
  repeat (first
    | refine wg_seq ?_
    | refine wg_skip ?_
    | refine wg_block ?_
    | refine wg_scope ?_
    | refine wg_inBlock ?_
    | refine wg_inScope ?_
    | refine wg_region ?_
    | refine wo_nil ?_
    | refine wo_move rfl rfl ?_
    | refine wo_assign rfl rfl ?_
    | refine wo_fieldAddr rfl rfl rfl ?_
    | refine wo_nilCheck rfl rfl ?_
    | refine wo_extract rfl rfl rfl ?_
    | refine wo_load rfl rfl rfl rfl (by assumption) rfl ?_
    | refine wo_eql rfl rfl rfl ?_
    | refine wo_neq rfl rfl rfl ?_
    | refine wo_lss rfl rfl rfl ?_
    | refine wo_gtr rfl rfl rfl ?_
    | refine wo_leq rfl rfl rfl ?_
    | refine wo_geq rfl rfl rfl ?_
    | refine wo_not rfl rfl ?_
    | refine wo_lenStr rfl rfl rfl ?_
    | refine wo_len rfl rfl rfl rfl ?_
    | refine wo_buildSlice rfl rfl rfl ?_
    | refine wo_build rfl rfl rfl ?_
    | refine wo_pick rfl rfl rfl ?_
    | refine wo_strEq rfl rfl rfl ?_
    | refine wo_boolEq rfl rfl rfl rfl ?_
    | refine wo_boolNe rfl rfl rfl rfl ?_
    | refine wo_strNe rfl rfl rfl ?_
    | refine wo_on rfl ?_
    | refine wo_off rfl rfl ?_
    | refine wo_offn rfl ?_)
  refine wo_call rfl rfl orc_cons rfl (ready_spec hw h hl) ?_
  rintro vr A1 ⟨hb, ho, _⟩
  repeat (first
    | refine wg_seq ?_
    | refine wg_skip ?_
    | refine wg_block ?_
    | refine wg_scope ?_
    | refine wg_inBlock ?_
    | refine wg_inScope ?_
    | refine wg_region ?_
    | refine wo_nil ?_
    | refine wo_move rfl rfl ?_
    | refine wo_assign rfl rfl ?_
    | refine wo_fieldAddr rfl rfl rfl ?_
    | refine wo_nilCheck rfl rfl ?_
    | refine wo_extract rfl rfl rfl ?_
    | refine wo_load rfl rfl rfl rfl (by assumption) rfl ?_
    | refine wo_eql rfl rfl rfl ?_
    | refine wo_neq rfl rfl rfl ?_
    | refine wo_lss rfl rfl rfl ?_
    | refine wo_gtr rfl rfl rfl ?_
    | refine wo_leq rfl rfl rfl ?_
    | refine wo_geq rfl rfl rfl ?_
    | refine wo_not rfl rfl ?_
    | refine wo_lenStr rfl rfl rfl ?_
    | refine wo_len rfl rfl rfl rfl ?_
    | refine wo_buildSlice rfl rfl rfl ?_
    | refine wo_build rfl rfl rfl ?_
    | refine wo_pick rfl rfl rfl ?_
    | refine wo_strEq rfl rfl rfl ?_
    | refine wo_boolEq rfl rfl rfl rfl ?_
    | refine wo_boolNe rfl rfl rfl rfl ?_
    | refine wo_strNe rfl rfl rfl ?_
    | refine wo_on rfl ?_
    | refine wo_off rfl rfl ?_
    | refine wo_offn rfl ?_)
  refine wo_len rfl rfl rfl hb.lenV ?_
  repeat (first
    | refine wg_seq ?_
    | refine wg_skip ?_
    | refine wg_block ?_
    | refine wg_scope ?_
    | refine wg_inBlock ?_
    | refine wg_inScope ?_
    | refine wg_region ?_
    | refine wo_nil ?_
    | refine wo_move rfl rfl ?_
    | refine wo_assign rfl rfl ?_
    | refine wo_fieldAddr rfl rfl rfl ?_
    | refine wo_nilCheck rfl rfl ?_
    | refine wo_extract rfl rfl rfl ?_
    | refine wo_load rfl rfl rfl rfl (by assumption) rfl ?_
    | refine wo_eql rfl rfl rfl ?_
    | refine wo_neq rfl rfl rfl ?_
    | refine wo_lss rfl rfl rfl ?_
    | refine wo_gtr rfl rfl rfl ?_
    | refine wo_leq rfl rfl rfl ?_
    | refine wo_geq rfl rfl rfl ?_
    | refine wo_not rfl rfl ?_
    | refine wo_lenStr rfl rfl rfl ?_
    | refine wo_len rfl rfl rfl rfl ?_
    | refine wo_buildSlice rfl rfl rfl ?_
    | refine wo_build rfl rfl rfl ?_
    | refine wo_pick rfl rfl rfl ?_
    | refine wo_strEq rfl rfl rfl ?_
    | refine wo_boolEq rfl rfl rfl rfl ?_
    | refine wo_boolNe rfl rfl rfl rfl ?_
    | refine wo_strNe rfl rfl rfl ?_
    | refine wo_on rfl ?_
    | refine wo_off rfl rfl ?_
    | refine wo_offn rfl ?_)
  refine wg_dec rfl (fun h0 => ?_) fun h0 => ?_
  · have h0 : (readyT ts).length = 0 := Int.ofNat_inj.1 h0
    rw [if_pos h0]
    repeat (first
      | refine wg_seq ?_
      | refine wg_skip ?_
      | refine wg_block ?_
      | refine wg_scope ?_
      | refine wg_inBlock ?_
      | refine wg_inScope ?_
      | refine wg_region ?_
      | refine wo_nil ?_
      | refine wo_move rfl rfl ?_
      | refine wo_assign rfl rfl ?_
      | refine wo_fieldAddr rfl rfl rfl ?_
      | refine wo_nilCheck rfl rfl ?_
      | refine wo_extract rfl rfl rfl ?_
      | refine wo_load rfl rfl rfl rfl (by assumption) rfl ?_
      | refine wo_eql rfl rfl rfl ?_
      | refine wo_neq rfl rfl rfl ?_
      | refine wo_lss rfl rfl rfl ?_
      | refine wo_gtr rfl rfl rfl ?_
      | refine wo_leq rfl rfl rfl ?_
      | refine wo_geq rfl rfl rfl ?_
      | refine wo_not rfl rfl ?_
      | refine wo_lenStr rfl rfl rfl ?_
      | refine wo_len rfl rfl rfl rfl ?_
      | refine wo_buildSlice rfl rfl rfl ?_
      | refine wo_build rfl rfl rfl ?_
      | refine wo_pick rfl rfl rfl ?_
      | refine wo_strEq rfl rfl rfl ?_
      | refine wo_boolEq rfl rfl rfl rfl ?_
      | refine wo_boolNe rfl rfl rfl rfl ?_
      | refine wo_strNe rfl rfl rfl ?_
      | refine wo_on rfl ?_
      | refine wo_off rfl rfl ?_
      | refine wo_offn rfl ?_)
    exact wg_ret rfl ⟨rfl, ho⟩
  have h0 : ¬ (readyT ts).length = 0 := fun e => h0 (by rw [e]; rfl)
  rw [if_neg h0]
  have hp : 0 < (readyT ts).length := by omega
  have fix := tmod_fix (n := n) hp
  have hlt : n.tmod ((readyT ts).length : Int) < ((readyT ts).length : Int) := Int.tmod_lt_of_pos n (by omega)
  have hgt := Int.lt_tmod_of_pos n (show (0 : Int) < ((readyT ts).length : Int) by omega)
  obtain ⟨f, t, rfl, hf, _⟩ := hb.slice hp
  repeat (first
    | refine wg_seq ?_
    | refine wg_skip ?_
    | refine wg_block ?_
    | refine wg_scope ?_
    | refine wg_inBlock ?_
    | refine wg_inScope ?_
    | refine wg_region ?_
    | refine wo_nil ?_
    | refine wo_move rfl rfl ?_
    | refine wo_assign rfl rfl ?_
    | refine wo_fieldAddr rfl rfl rfl ?_
    | refine wo_nilCheck rfl rfl ?_
    | refine wo_extract rfl rfl rfl ?_
    | refine wo_load rfl rfl rfl rfl (by assumption) rfl ?_
    | refine wo_eql rfl rfl rfl ?_
    | refine wo_neq rfl rfl rfl ?_
    | refine wo_lss rfl rfl rfl ?_
    | refine wo_gtr rfl rfl rfl ?_
    | refine wo_leq rfl rfl rfl ?_
    | refine wo_geq rfl rfl rfl ?_
    | refine wo_not rfl rfl ?_
    | refine wo_lenStr rfl rfl rfl ?_
    | refine wo_len rfl rfl rfl rfl ?_
    | refine wo_buildSlice rfl rfl rfl ?_
    | refine wo_build rfl rfl rfl ?_
    | refine wo_pick rfl rfl rfl ?_
    | refine wo_strEq rfl rfl rfl ?_
    | refine wo_boolEq rfl rfl rfl rfl ?_
    | refine wo_boolNe rfl rfl rfl rfl ?_
    | refine wo_strNe rfl rfl rfl ?_
    | refine wo_on rfl ?_
    | refine wo_off rfl rfl ?_
    | refine wo_offn rfl ?_)
  refine wo_bin rfl rfl rfl (int_rem (by omega)) ?_
  repeat (first
    | refine wo_nil ?_
    | refine wo_move rfl rfl ?_
    | refine wo_assign rfl rfl ?_
    | refine wo_fieldAddr rfl rfl rfl ?_
    | refine wo_nilCheck rfl rfl ?_
    | refine wo_extract rfl rfl rfl ?_
    | refine wo_load rfl rfl rfl rfl (by assumption) rfl ?_
    | refine wo_eql rfl rfl rfl ?_
    | refine wo_neq rfl rfl rfl ?_
    | refine wo_lss rfl rfl rfl ?_
    | refine wo_gtr rfl rfl rfl ?_
    | refine wo_leq rfl rfl rfl ?_
    | refine wo_geq rfl rfl rfl ?_
    | refine wo_not rfl rfl ?_
    | refine wo_lenStr rfl rfl rfl ?_
    | refine wo_len rfl rfl rfl rfl ?_
    | refine wo_buildSlice rfl rfl rfl ?_
    | refine wo_build rfl rfl rfl ?_
    | refine wo_pick rfl rfl rfl ?_
    | refine wo_strEq rfl rfl rfl ?_
    | refine wo_boolEq rfl rfl rfl rfl ?_
    | refine wo_boolNe rfl rfl rfl rfl ?_
    | refine wo_strNe rfl rfl rfl ?_
    | refine wo_on rfl ?_
    | refine wo_off rfl rfl ?_
    | refine wo_offn rfl ?_)
  repeat (first
    | refine wg_seq ?_
    | refine wg_skip ?_
    | refine wg_block ?_
    | refine wg_scope ?_
    | refine wg_inBlock ?_
    | refine wg_inScope ?_)
  refine wg_region ?_
  repeat (first
    | refine wo_nil ?_
    | refine wo_move rfl rfl ?_
    | refine wo_assign rfl rfl ?_
    | refine wo_fieldAddr rfl rfl rfl ?_
    | refine wo_nilCheck rfl rfl ?_
    | refine wo_extract rfl rfl rfl ?_
    | refine wo_load rfl rfl rfl rfl (by assumption) rfl ?_
    | refine wo_eql rfl rfl rfl ?_
    | refine wo_neq rfl rfl rfl ?_
    | refine wo_lss rfl rfl rfl ?_
    | refine wo_gtr rfl rfl rfl ?_
    | refine wo_leq rfl rfl rfl ?_
    | refine wo_geq rfl rfl rfl ?_
    | refine wo_not rfl rfl ?_
    | refine wo_lenStr rfl rfl rfl ?_
    | refine wo_len rfl rfl rfl rfl ?_
    | refine wo_buildSlice rfl rfl rfl ?_
    | refine wo_build rfl rfl rfl ?_
    | refine wo_pick rfl rfl rfl ?_
    | refine wo_strEq rfl rfl rfl ?_
    | refine wo_boolEq rfl rfl rfl rfl ?_
    | refine wo_boolNe rfl rfl rfl rfl ?_
    | refine wo_strNe rfl rfl rfl ?_
    | refine wo_on rfl ?_
    | refine wo_off rfl rfl ?_
    | refine wo_offn rfl ?_)
  have hm0 := Int.emod_nonneg n (show ((readyT ts).length : Int) ≠ 0 by omega)
  have hm1 := Int.emod_lt_of_pos n (show (0 : Int) < ((readyT ts).length : Int) by omega)
  have hml : (n % ((readyT ts).length : Int)).toNat < (readyT ts).length := by omega
  have hz : nth (ints (readyT ts)) (n % ((readyT ts).length : Int)).toNat = some (.int .i64 ((readyT ts).getD (n % ((readyT ts).length : Int)).toNat 0)) := ints_get (by rw [List.getD_eq_getElem?_getD, List.getElem?_eq_getElem hml]; rfl)
  refine wg_dec rfl (fun hneg => ?_) fun hneg => ?_
  · rw [if_pos hneg] at fix
    repeat (first
      | refine wg_seq ?_
      | refine wg_skip ?_
      | refine wg_block ?_
      | refine wg_scope ?_
      | refine wg_inBlock ?_
      | refine wg_inScope ?_
      | refine wg_region ?_
      | refine wo_nil ?_
      | refine wo_move rfl rfl ?_
      | refine wo_assign rfl rfl ?_
      | refine wo_fieldAddr rfl rfl rfl ?_
      | refine wo_nilCheck rfl rfl ?_
      | refine wo_extract rfl rfl rfl ?_
      | refine wo_load rfl rfl rfl rfl (by assumption) rfl ?_
      | refine wo_eql rfl rfl rfl ?_
      | refine wo_neq rfl rfl rfl ?_
      | refine wo_lss rfl rfl rfl ?_
      | refine wo_gtr rfl rfl rfl ?_
      | refine wo_leq rfl rfl rfl ?_
      | refine wo_geq rfl rfl rfl ?_
      | refine wo_not rfl rfl ?_
      | refine wo_lenStr rfl rfl rfl ?_
      | refine wo_len rfl rfl rfl rfl ?_
      | refine wo_buildSlice rfl rfl rfl ?_
      | refine wo_build rfl rfl rfl ?_
      | refine wo_pick rfl rfl rfl ?_
      | refine wo_strEq rfl rfl rfl ?_
      | refine wo_boolEq rfl rfl rfl rfl ?_
      | refine wo_boolNe rfl rfl rfl rfl ?_
      | refine wo_strNe rfl rfl rfl ?_
      | refine wo_on rfl ?_
      | refine wo_off rfl rfl ?_
      | refine wo_offn rfl ?_)
    refine wo_add rfl rfl rfl (by omega) (by omega) ?_
    repeat (first
      | refine wg_seq ?_
      | refine wg_skip ?_
      | refine wg_block ?_
      | refine wg_scope ?_
      | refine wg_inBlock ?_
      | refine wg_inScope ?_
      | refine wg_region ?_
      | refine wo_nil ?_
      | refine wo_move rfl rfl ?_
      | refine wo_assign rfl rfl ?_
      | refine wo_fieldAddr rfl rfl rfl ?_
      | refine wo_nilCheck rfl rfl ?_
      | refine wo_extract rfl rfl rfl ?_
      | refine wo_load rfl rfl rfl rfl (by assumption) rfl ?_
      | refine wo_eql rfl rfl rfl ?_
      | refine wo_neq rfl rfl rfl ?_
      | refine wo_lss rfl rfl rfl ?_
      | refine wo_gtr rfl rfl rfl ?_
      | refine wo_leq rfl rfl rfl ?_
      | refine wo_geq rfl rfl rfl ?_
      | refine wo_not rfl rfl ?_
      | refine wo_lenStr rfl rfl rfl ?_
      | refine wo_len rfl rfl rfl rfl ?_
      | refine wo_buildSlice rfl rfl rfl ?_
      | refine wo_build rfl rfl rfl ?_
      | refine wo_pick rfl rfl rfl ?_
      | refine wo_strEq rfl rfl rfl ?_
      | refine wo_boolEq rfl rfl rfl rfl ?_
      | refine wo_boolNe rfl rfl rfl rfl ?_
      | refine wo_strNe rfl rfl rfl ?_
      | refine wo_on rfl ?_
      | refine wo_off rfl rfl ?_
      | refine wo_offn rfl ?_)
    refine wo_indexAddr (n % ((readyT ts).length : Int)).toNat rfl rfl rfl rfl (by rw [fix]; omega) hml ?_
    refine wo_load (v := .int .i64 _) rfl rfl rfl rfl hf (by rw [show Nat.add 0 (Nat.mul (n % ((readyT ts).length : Int)).toNat d3.size) = (n % ((readyT ts).length : Int)).toNat from by show 0 + _ * 1 = _; omega]; exact hz) ?_
    repeat (first
      | refine wg_seq ?_
      | refine wg_skip ?_
      | refine wg_block ?_
      | refine wg_scope ?_
      | refine wg_inBlock ?_
      | refine wg_inScope ?_
      | refine wg_region ?_
      | refine wo_nil ?_
      | refine wo_move rfl rfl ?_
      | refine wo_assign rfl rfl ?_
      | refine wo_fieldAddr rfl rfl rfl ?_
      | refine wo_nilCheck rfl rfl ?_
      | refine wo_extract rfl rfl rfl ?_
      | refine wo_load rfl rfl rfl rfl (by assumption) rfl ?_
      | refine wo_eql rfl rfl rfl ?_
      | refine wo_neq rfl rfl rfl ?_
      | refine wo_lss rfl rfl rfl ?_
      | refine wo_gtr rfl rfl rfl ?_
      | refine wo_leq rfl rfl rfl ?_
      | refine wo_geq rfl rfl rfl ?_
      | refine wo_not rfl rfl ?_
      | refine wo_lenStr rfl rfl rfl ?_
      | refine wo_len rfl rfl rfl rfl ?_
      | refine wo_buildSlice rfl rfl rfl ?_
      | refine wo_build rfl rfl rfl ?_
      | refine wo_pick rfl rfl rfl ?_
      | refine wo_strEq rfl rfl rfl ?_
      | refine wo_boolEq rfl rfl rfl rfl ?_
      | refine wo_boolNe rfl rfl rfl rfl ?_
      | refine wo_strNe rfl rfl rfl ?_
      | refine wo_on rfl ?_
      | refine wo_off rfl rfl ?_
      | refine wo_offn rfl ?_)
    exact wg_ret rfl ⟨rfl, ho⟩
  · rw [if_neg hneg] at fix
    repeat (first
      | refine wg_seq ?_
      | refine wg_skip ?_
      | refine wg_block ?_
      | refine wg_scope ?_
      | refine wg_inBlock ?_
      | refine wg_inScope ?_
      | refine wg_region ?_
      | refine wo_nil ?_
      | refine wo_move rfl rfl ?_
      | refine wo_assign rfl rfl ?_
      | refine wo_fieldAddr rfl rfl rfl ?_
      | refine wo_nilCheck rfl rfl ?_
      | refine wo_extract rfl rfl rfl ?_
      | refine wo_load rfl rfl rfl rfl (by assumption) rfl ?_
      | refine wo_eql rfl rfl rfl ?_
      | refine wo_neq rfl rfl rfl ?_
      | refine wo_lss rfl rfl rfl ?_
      | refine wo_gtr rfl rfl rfl ?_
      | refine wo_leq rfl rfl rfl ?_
      | refine wo_geq rfl rfl rfl ?_
      | refine wo_not rfl rfl ?_
      | refine wo_lenStr rfl rfl rfl ?_
      | refine wo_len rfl rfl rfl rfl ?_
      | refine wo_buildSlice rfl rfl rfl ?_
      | refine wo_build rfl rfl rfl ?_
      | refine wo_pick rfl rfl rfl ?_
      | refine wo_strEq rfl rfl rfl ?_
      | refine wo_boolEq rfl rfl rfl rfl ?_
      | refine wo_boolNe rfl rfl rfl rfl ?_
      | refine wo_strNe rfl rfl rfl ?_
      | refine wo_on rfl ?_
      | refine wo_off rfl rfl ?_
      | refine wo_offn rfl ?_)
    refine wo_indexAddr (n % ((readyT ts).length : Int)).toNat rfl rfl rfl rfl (by rw [fix]; omega) hml ?_
    refine wo_load (v := .int .i64 _) rfl rfl rfl rfl hf (by rw [show Nat.add 0 (Nat.mul (n % ((readyT ts).length : Int)).toNat d3.size) = (n % ((readyT ts).length : Int)).toNat from by show 0 + _ * 1 = _; omega]; exact hz) ?_
    repeat (first
      | refine wg_seq ?_
      | refine wg_skip ?_
      | refine wg_block ?_
      | refine wg_scope ?_
      | refine wg_inBlock ?_
      | refine wg_inScope ?_
      | refine wg_region ?_
      | refine wo_nil ?_
      | refine wo_move rfl rfl ?_
      | refine wo_assign rfl rfl ?_
      | refine wo_fieldAddr rfl rfl rfl ?_
      | refine wo_nilCheck rfl rfl ?_
      | refine wo_extract rfl rfl rfl ?_
      | refine wo_load rfl rfl rfl rfl (by assumption) rfl ?_
      | refine wo_eql rfl rfl rfl ?_
      | refine wo_neq rfl rfl rfl ?_
      | refine wo_lss rfl rfl rfl ?_
      | refine wo_gtr rfl rfl rfl ?_
      | refine wo_leq rfl rfl rfl ?_
      | refine wo_geq rfl rfl rfl ?_
      | refine wo_not rfl rfl ?_
      | refine wo_lenStr rfl rfl rfl ?_
      | refine wo_len rfl rfl rfl rfl ?_
      | refine wo_buildSlice rfl rfl rfl ?_
      | refine wo_build rfl rfl rfl ?_
      | refine wo_pick rfl rfl rfl ?_
      | refine wo_strEq rfl rfl rfl ?_
      | refine wo_boolEq rfl rfl rfl rfl ?_
      | refine wo_boolNe rfl rfl rfl rfl ?_
      | refine wo_strNe rfl rfl rfl ?_
      | refine wo_on rfl ?_
      | refine wo_off rfl rfl ?_
      | refine wo_offn rfl ?_)
    exact wg_ret rfl ⟨rfl, ho⟩

theorem over_spec {K : FuncId} {A : AW} {fs : Nat} {vs vj : AV} {ts : List Th} (h : Sc A fs vs vj ts) (hl : ts.length < 1000000) :
    CallP (ES K) 51 [.ptr fs 0 0] A fun r A1 => r = .bool (decide (∀ th ∈ ts, th.1 = 5)) ∧ A1 = A := by
  refine call_of rfl rfl rfl ?_
  have hc := h.cell
  repeat (first
    | refine wg_seq ?_
    | refine wg_skip ?_
    | refine wg_block ?_
    | refine wg_scope ?_
    | refine wg_inBlock ?_
    | refine wg_inScope ?_
    | refine wg_region ?_
    | refine wo_nil ?_
    | refine wo_move rfl rfl ?_
    | refine wo_assign rfl rfl ?_
    | refine wo_fieldAddr rfl rfl rfl ?_
    | refine wo_nilCheck rfl rfl ?_
    | refine wo_extract rfl rfl rfl ?_
    | refine wo_load rfl rfl rfl rfl (by assumption) rfl ?_
    | refine wo_eql rfl rfl rfl ?_
    | refine wo_neq rfl rfl rfl ?_
    | refine wo_lss rfl rfl rfl ?_
    | refine wo_gtr rfl rfl rfl ?_
    | refine wo_leq rfl rfl rfl ?_
    | refine wo_geq rfl rfl rfl ?_
    | refine wo_not rfl rfl ?_
    | refine wo_lenStr rfl rfl rfl ?_
    | refine wo_len rfl rfl rfl rfl ?_
    | refine wo_buildSlice rfl rfl rfl ?_
    | refine wo_build rfl rfl rfl ?_
    | refine wo_pick rfl rfl rfl ?_
    | refine wo_strEq rfl rfl rfl ?_
    | refine wo_boolEq rfl rfl rfl rfl ?_
    | refine wo_boolNe rfl rfl rfl rfl ?_
    | refine wo_strNe rfl rfl rfl ?_
    | refine wo_on rfl ?_
    | refine wo_off rfl rfl ?_
    | refine wo_offn rfl ?_)
  refine wg_label ?_
  refine wg_le (.put 0 (.ptr fs 0 0) (.put 3 (.int .i64 ((0 : Nat) : Int)) .nil)) ?_ ⟨rfl, rfl, trivial⟩
  refine wg_ind (ι := Nat) (fun i => ts.length - i) (fun i => .put 0 (.ptr fs 0 0) (.put 3 (.int .i64 (i : Int)) .nil))
    (fun i A1 => i ≤ ts.length ∧ A1 = A ∧ ∀ th ∈ ts.take i, th.1 = 5) ?_ 0 A ⟨Nat.zero_le _, rfl, fun th h => by simp at h⟩
  rintro i A1 ⟨hi, rfl, hall⟩ ih
  repeat (first
    | refine wg_seq ?_
    | refine wg_skip ?_
    | refine wg_block ?_
    | refine wg_scope ?_
    | refine wg_inBlock ?_
    | refine wg_inScope ?_
    | refine wg_region ?_
    | refine wo_nil ?_
    | refine wo_move rfl rfl ?_
    | refine wo_assign rfl rfl ?_
    | refine wo_fieldAddr rfl rfl rfl ?_
    | refine wo_nilCheck rfl rfl ?_
    | refine wo_extract rfl rfl rfl ?_
    | refine wo_load rfl rfl rfl rfl (by assumption) rfl ?_
    | refine wo_eql rfl rfl rfl ?_
    | refine wo_neq rfl rfl rfl ?_
    | refine wo_lss rfl rfl rfl ?_
    | refine wo_gtr rfl rfl rfl ?_
    | refine wo_leq rfl rfl rfl ?_
    | refine wo_geq rfl rfl rfl ?_
    | refine wo_not rfl rfl ?_
    | refine wo_lenStr rfl rfl rfl ?_
    | refine wo_len rfl rfl rfl rfl ?_
    | refine wo_buildSlice rfl rfl rfl ?_
    | refine wo_build rfl rfl rfl ?_
    | refine wo_pick rfl rfl rfl ?_
    | refine wo_strEq rfl rfl rfl ?_
    | refine wo_boolEq rfl rfl rfl rfl ?_
    | refine wo_boolNe rfl rfl rfl rfl ?_
    | refine wo_strNe rfl rfl rfl ?_
    | refine wo_on rfl ?_
    | refine wo_off rfl rfl ?_
    | refine wo_offn rfl ?_)
  refine wo_call rfl rfl orc_cons rfl (len_spec h) ?_
  rintro r A2 ⟨rfl, rfl⟩
  repeat (first
    | refine wg_seq ?_
    | refine wg_skip ?_
    | refine wg_block ?_
    | refine wg_scope ?_
    | refine wg_inBlock ?_
    | refine wg_inScope ?_
    | refine wg_region ?_
    | refine wo_nil ?_
    | refine wo_move rfl rfl ?_
    | refine wo_assign rfl rfl ?_
    | refine wo_fieldAddr rfl rfl rfl ?_
    | refine wo_nilCheck rfl rfl ?_
    | refine wo_extract rfl rfl rfl ?_
    | refine wo_load rfl rfl rfl rfl (by assumption) rfl ?_
    | refine wo_eql rfl rfl rfl ?_
    | refine wo_neq rfl rfl rfl ?_
    | refine wo_lss rfl rfl rfl ?_
    | refine wo_gtr rfl rfl rfl ?_
    | refine wo_leq rfl rfl rfl ?_
    | refine wo_geq rfl rfl rfl ?_
    | refine wo_not rfl rfl ?_
    | refine wo_lenStr rfl rfl rfl ?_
    | refine wo_len rfl rfl rfl rfl ?_
    | refine wo_buildSlice rfl rfl rfl ?_
    | refine wo_build rfl rfl rfl ?_
    | refine wo_pick rfl rfl rfl ?_
    | refine wo_strEq rfl rfl rfl ?_
    | refine wo_boolEq rfl rfl rfl rfl ?_
    | refine wo_boolNe rfl rfl rfl rfl ?_
    | refine wo_strNe rfl rfl rfl ?_
    | refine wo_on rfl ?_
    | refine wo_off rfl rfl ?_
    | refine wo_offn rfl ?_)
  refine wg_dec rfl (fun he => ?_) fun hne => ?_
  · have he : i = ts.length := Int.ofNat_inj.1 he
    rw [he, List.take_length] at hall
    repeat (first
      | refine wg_seq ?_
      | refine wg_skip ?_
      | refine wg_block ?_
      | refine wg_scope ?_
      | refine wg_inBlock ?_
      | refine wg_inScope ?_
      | refine wg_region ?_
      | refine wo_nil ?_
      | refine wo_move rfl rfl ?_
      | refine wo_assign rfl rfl ?_
      | refine wo_fieldAddr rfl rfl rfl ?_
      | refine wo_nilCheck rfl rfl ?_
      | refine wo_extract rfl rfl rfl ?_
      | refine wo_load rfl rfl rfl rfl (by assumption) rfl ?_
      | refine wo_eql rfl rfl rfl ?_
      | refine wo_neq rfl rfl rfl ?_
      | refine wo_lss rfl rfl rfl ?_
      | refine wo_gtr rfl rfl rfl ?_
      | refine wo_leq rfl rfl rfl ?_
      | refine wo_geq rfl rfl rfl ?_
      | refine wo_not rfl rfl ?_
      | refine wo_lenStr rfl rfl rfl ?_
      | refine wo_len rfl rfl rfl rfl ?_
      | refine wo_buildSlice rfl rfl rfl ?_
      | refine wo_build rfl rfl rfl ?_
      | refine wo_pick rfl rfl rfl ?_
      | refine wo_strEq rfl rfl rfl ?_
      | refine wo_boolEq rfl rfl rfl rfl ?_
      | refine wo_boolNe rfl rfl rfl rfl ?_
      | refine wo_strNe rfl rfl rfl ?_
      | refine wo_on rfl ?_
      | refine wo_off rfl rfl ?_
      | refine wo_offn rfl ?_)
    exact wg_ret rfl ⟨congrArg AV.bool (decide_eq_true hall).symm, rfl⟩
  have hlt : i < ts.length := by
    have : ¬ (i : Int) = (ts.length : Int) := hne
    omega
  obtain ⟨a, b, hth⟩ : ∃ a b, ts[i]? = some (a, b) := ⟨ts[i].1, ts[i].2, by rw [List.getElem?_eq_getElem hlt]⟩
  obtain ⟨f, t, rfl, hf, _⟩ := h.st.slice (by omega)
  repeat (first
    | refine wg_seq ?_
    | refine wg_skip ?_
    | refine wg_block ?_
    | refine wg_scope ?_
    | refine wg_inBlock ?_
    | refine wg_inScope ?_
    | refine wg_region ?_
    | refine wo_nil ?_
    | refine wo_move rfl rfl ?_
    | refine wo_assign rfl rfl ?_
    | refine wo_fieldAddr rfl rfl rfl ?_
    | refine wo_nilCheck rfl rfl ?_
    | refine wo_extract rfl rfl rfl ?_
    | refine wo_load rfl rfl rfl rfl (by assumption) rfl ?_
    | refine wo_eql rfl rfl rfl ?_
    | refine wo_neq rfl rfl rfl ?_
    | refine wo_lss rfl rfl rfl ?_
    | refine wo_gtr rfl rfl rfl ?_
    | refine wo_leq rfl rfl rfl ?_
    | refine wo_geq rfl rfl rfl ?_
    | refine wo_not rfl rfl ?_
    | refine wo_lenStr rfl rfl rfl ?_
    | refine wo_len rfl rfl rfl rfl ?_
    | refine wo_buildSlice rfl rfl rfl ?_
    | refine wo_build rfl rfl rfl ?_
    | refine wo_pick rfl rfl rfl ?_
    | refine wo_strEq rfl rfl rfl ?_
    | refine wo_boolEq rfl rfl rfl rfl ?_
    | refine wo_boolNe rfl rfl rfl rfl ?_
    | refine wo_strNe rfl rfl rfl ?_
    | refine wo_on rfl ?_
    | refine wo_off rfl rfl ?_
    | refine wo_offn rfl ?_)
  refine wo_indexAddr i rfl rfl rfl rfl rfl hlt ?_
  refine wo_load (v := .int .i64 a) rfl rfl rfl rfl hf (by rw [show Nat.add 0 (Nat.mul i d3.size) = i from by show 0 + i * 1 = i; omega]; exact stOf_get hth) ?_
  repeat (first
    | refine wg_seq ?_
    | refine wg_skip ?_
    | refine wg_block ?_
    | refine wg_scope ?_
    | refine wg_inBlock ?_
    | refine wg_inScope ?_
    | refine wg_region ?_
    | refine wo_nil ?_
    | refine wo_move rfl rfl ?_
    | refine wo_assign rfl rfl ?_
    | refine wo_fieldAddr rfl rfl rfl ?_
    | refine wo_nilCheck rfl rfl ?_
    | refine wo_extract rfl rfl rfl ?_
    | refine wo_load rfl rfl rfl rfl (by assumption) rfl ?_
    | refine wo_eql rfl rfl rfl ?_
    | refine wo_neq rfl rfl rfl ?_
    | refine wo_lss rfl rfl rfl ?_
    | refine wo_gtr rfl rfl rfl ?_
    | refine wo_leq rfl rfl rfl ?_
    | refine wo_geq rfl rfl rfl ?_
    | refine wo_not rfl rfl ?_
    | refine wo_lenStr rfl rfl rfl ?_
    | refine wo_len rfl rfl rfl rfl ?_
    | refine wo_buildSlice rfl rfl rfl ?_
    | refine wo_build rfl rfl rfl ?_
    | refine wo_pick rfl rfl rfl ?_
    | refine wo_strEq rfl rfl rfl ?_
    | refine wo_boolEq rfl rfl rfl rfl ?_
    | refine wo_boolNe rfl rfl rfl rfl ?_
    | refine wo_strNe rfl rfl rfl ?_
    | refine wo_on rfl ?_
    | refine wo_off rfl rfl ?_
    | refine wo_offn rfl ?_)
  refine wg_dec rfl (fun h5 => ?_) fun h5 => ?_
  · repeat (first
      | refine wg_seq ?_
      | refine wg_skip ?_
      | refine wg_block ?_
      | refine wg_scope ?_
      | refine wg_inBlock ?_
      | refine wg_inScope ?_
      | refine wg_region ?_
      | refine wo_nil ?_
      | refine wo_move rfl rfl ?_
      | refine wo_assign rfl rfl ?_
      | refine wo_fieldAddr rfl rfl rfl ?_
      | refine wo_nilCheck rfl rfl ?_
      | refine wo_extract rfl rfl rfl ?_
      | refine wo_load rfl rfl rfl rfl (by assumption) rfl ?_
      | refine wo_eql rfl rfl rfl ?_
      | refine wo_neq rfl rfl rfl ?_
      | refine wo_lss rfl rfl rfl ?_
      | refine wo_gtr rfl rfl rfl ?_
      | refine wo_leq rfl rfl rfl ?_
      | refine wo_geq rfl rfl rfl ?_
      | refine wo_not rfl rfl ?_
      | refine wo_lenStr rfl rfl rfl ?_
      | refine wo_len rfl rfl rfl rfl ?_
      | refine wo_buildSlice rfl rfl rfl ?_
      | refine wo_build rfl rfl rfl ?_
      | refine wo_pick rfl rfl rfl ?_
      | refine wo_strEq rfl rfl rfl ?_
      | refine wo_boolEq rfl rfl rfl rfl ?_
      | refine wo_boolNe rfl rfl rfl rfl ?_
      | refine wo_strNe rfl rfl rfl ?_
      | refine wo_on rfl ?_
      | refine wo_off rfl rfl ?_
      | refine wo_offn rfl ?_)
    exact wg_ret rfl ⟨congrArg AV.bool (decide_eq_false fun h => h5 (h _ (List.mem_of_getElem? hth))).symm, rfl⟩
  · have h5 : a = 5 := Decidable.not_not.1 h5
    repeat (first
      | refine wg_seq ?_
      | refine wg_skip ?_
      | refine wg_block ?_
      | refine wg_scope ?_
      | refine wg_inBlock ?_
      | refine wg_inScope ?_
      | refine wg_region ?_
      | refine wo_nil ?_
      | refine wo_move rfl rfl ?_
      | refine wo_assign rfl rfl ?_
      | refine wo_fieldAddr rfl rfl rfl ?_
      | refine wo_nilCheck rfl rfl ?_
      | refine wo_extract rfl rfl rfl ?_
      | refine wo_load rfl rfl rfl rfl (by assumption) rfl ?_
      | refine wo_eql rfl rfl rfl ?_
      | refine wo_neq rfl rfl rfl ?_
      | refine wo_lss rfl rfl rfl ?_
      | refine wo_gtr rfl rfl rfl ?_
      | refine wo_leq rfl rfl rfl ?_
      | refine wo_geq rfl rfl rfl ?_
      | refine wo_not rfl rfl ?_
      | refine wo_lenStr rfl rfl rfl ?_
      | refine wo_len rfl rfl rfl rfl ?_
      | refine wo_buildSlice rfl rfl rfl ?_
      | refine wo_build rfl rfl rfl ?_
      | refine wo_pick rfl rfl rfl ?_
      | refine wo_strEq rfl rfl rfl ?_
      | refine wo_boolEq rfl rfl rfl rfl ?_
      | refine wo_boolNe rfl rfl rfl rfl ?_
      | refine wo_strNe rfl rfl rfl ?_
      | refine wo_on rfl ?_
      | refine wo_off rfl rfl ?_
      | refine wo_offn rfl ?_)
    refine wo_add rfl rfl rfl (by omega) (by omega) ?_
    repeat (first
      | refine wg_seq ?_
      | refine wg_skip ?_
      | refine wg_block ?_
      | refine wg_scope ?_
      | refine wg_inBlock ?_
      | refine wg_inScope ?_
      | refine wg_region ?_
      | refine wo_nil ?_
      | refine wo_move rfl rfl ?_
      | refine wo_assign rfl rfl ?_
      | refine wo_fieldAddr rfl rfl rfl ?_
      | refine wo_nilCheck rfl rfl ?_
      | refine wo_extract rfl rfl rfl ?_
      | refine wo_load rfl rfl rfl rfl (by assumption) rfl ?_
      | refine wo_eql rfl rfl rfl ?_
      | refine wo_neq rfl rfl rfl ?_
      | refine wo_lss rfl rfl rfl ?_
      | refine wo_gtr rfl rfl rfl ?_
      | refine wo_leq rfl rfl rfl ?_
      | refine wo_geq rfl rfl rfl ?_
      | refine wo_not rfl rfl ?_
      | refine wo_lenStr rfl rfl rfl ?_
      | refine wo_len rfl rfl rfl rfl ?_
      | refine wo_buildSlice rfl rfl rfl ?_
      | refine wo_build rfl rfl rfl ?_
      | refine wo_pick rfl rfl rfl ?_
      | refine wo_strEq rfl rfl rfl ?_
      | refine wo_boolEq rfl rfl rfl rfl ?_
      | refine wo_boolNe rfl rfl rfl rfl ?_
      | refine wo_strNe rfl rfl rfl ?_
      | refine wo_on rfl ?_
      | refine wo_off rfl rfl ?_
      | refine wo_offn rfl ?_)
    refine wg_goto rfl (wg_seq (wg_skip ?_))
    refine wg_le (.put 0 (.ptr fs 0 0) (.put 3 (.int .i64 ((i + 1 : Nat) : Int)) .nil)) ?_ ⟨rfl, rfl, trivial⟩
    refine ih (i + 1) A2 (by omega) ⟨hlt, rfl, fun th hm => ?_⟩
    rw [List.take_add_one, hth] at hm
    rcases List.mem_append.1 hm with hm | hm
    · exact hall th hm
    · simp at hm
      rw [hm]
      exact h5

theorem index_spec {K : FuncId} {A : AW} {v : AV} {l : List Int} {z : Int} (h : Buf A 1 v l.length (ints l)) (hl : l.length < 1000000) :
    CallP (ES K) 72 [v, .int .i64 z] A fun r A1 => ∃ k : Int, r = .int .i64 k ∧ decide (0 ≤ k) = decide (z ∈ l) ∧ A1 = A := by
  refine call_of rfl rfl rfl ?_
  repeat (first
    | refine wg_seq ?_
    | refine wg_skip ?_
    | refine wg_block ?_
    | refine wg_scope ?_
    | refine wg_inBlock ?_
    | refine wg_inScope ?_
    | refine wg_region ?_
    | refine wo_nil ?_
    | refine wo_move rfl rfl ?_
    | refine wo_assign rfl rfl ?_
    | refine wo_fieldAddr rfl rfl rfl ?_
    | refine wo_nilCheck rfl rfl ?_
    | refine wo_extract rfl rfl rfl ?_
    | refine wo_load rfl rfl rfl rfl (by assumption) rfl ?_
    | refine wo_eql rfl rfl rfl ?_
    | refine wo_neq rfl rfl rfl ?_
    | refine wo_lss rfl rfl rfl ?_
    | refine wo_gtr rfl rfl rfl ?_
    | refine wo_leq rfl rfl rfl ?_
    | refine wo_geq rfl rfl rfl ?_
    | refine wo_not rfl rfl ?_
    | refine wo_lenStr rfl rfl rfl ?_
    | refine wo_len rfl rfl rfl rfl ?_
    | refine wo_buildSlice rfl rfl rfl ?_
    | refine wo_build rfl rfl rfl ?_
    | refine wo_pick rfl rfl rfl ?_
    | refine wo_strEq rfl rfl rfl ?_
    | refine wo_boolEq rfl rfl rfl rfl ?_
    | refine wo_boolNe rfl rfl rfl rfl ?_
    | refine wo_strNe rfl rfl rfl ?_
    | refine wo_on rfl ?_
    | refine wo_off rfl rfl ?_
    | refine wo_offn rfl ?_)
  refine wo_len rfl rfl rfl h.lenV ?_
  repeat (first
    | refine wg_seq ?_
    | refine wg_skip ?_
    | refine wg_block ?_
    | refine wg_scope ?_
    | refine wg_inBlock ?_
    | refine wg_inScope ?_
    | refine wg_region ?_
    | refine wo_nil ?_
    | refine wo_move rfl rfl ?_
    | refine wo_assign rfl rfl ?_
    | refine wo_fieldAddr rfl rfl rfl ?_
    | refine wo_nilCheck rfl rfl ?_
    | refine wo_extract rfl rfl rfl ?_
    | refine wo_load rfl rfl rfl rfl (by assumption) rfl ?_
    | refine wo_eql rfl rfl rfl ?_
    | refine wo_neq rfl rfl rfl ?_
    | refine wo_lss rfl rfl rfl ?_
    | refine wo_gtr rfl rfl rfl ?_
    | refine wo_leq rfl rfl rfl ?_
    | refine wo_geq rfl rfl rfl ?_
    | refine wo_not rfl rfl ?_
    | refine wo_lenStr rfl rfl rfl ?_
    | refine wo_len rfl rfl rfl rfl ?_
    | refine wo_buildSlice rfl rfl rfl ?_
    | refine wo_build rfl rfl rfl ?_
    | refine wo_pick rfl rfl rfl ?_
    | refine wo_strEq rfl rfl rfl ?_
    | refine wo_boolEq rfl rfl rfl rfl ?_
    | refine wo_boolNe rfl rfl rfl rfl ?_
    | refine wo_strNe rfl rfl rfl ?_
    | refine wo_on rfl ?_
    | refine wo_off rfl rfl ?_
    | refine wo_offn rfl ?_)
  refine wg_loop ?_
  refine wg_le (.put 0 v (.put 1 (.int .i64 z) (.put 7 (.int .i64 (l.length : Int)) (.put 8 (.int .i64 ((0 : Nat) : Int)) .nil)))) ?_ ⟨rfl, rfl, rfl, rfl, trivial⟩
  refine wg_ind (ι := Nat) (fun i => l.length - i) (fun i => .put 0 v (.put 1 (.int .i64 z) (.put 7 (.int .i64 (l.length : Int)) (.put 8 (.int .i64 (i : Int)) .nil))))
    (fun i A1 => i ≤ l.length ∧ A1 = A ∧ ¬ z ∈ l.take i) ?_ 0 A ⟨Nat.zero_le _, rfl, fun h => by simp at h⟩
  rintro i A1 ⟨hi, rfl, hno⟩ ih
  repeat (first
    | refine wg_seq ?_
    | refine wg_skip ?_
    | refine wg_block ?_
    | refine wg_scope ?_
    | refine wg_inBlock ?_
    | refine wg_inScope ?_
    | refine wg_region ?_
    | refine wo_nil ?_
    | refine wo_move rfl rfl ?_
    | refine wo_assign rfl rfl ?_
    | refine wo_fieldAddr rfl rfl rfl ?_
    | refine wo_nilCheck rfl rfl ?_
    | refine wo_extract rfl rfl rfl ?_
    | refine wo_load rfl rfl rfl rfl (by assumption) rfl ?_
    | refine wo_eql rfl rfl rfl ?_
    | refine wo_neq rfl rfl rfl ?_
    | refine wo_lss rfl rfl rfl ?_
    | refine wo_gtr rfl rfl rfl ?_
    | refine wo_leq rfl rfl rfl ?_
    | refine wo_geq rfl rfl rfl ?_
    | refine wo_not rfl rfl ?_
    | refine wo_lenStr rfl rfl rfl ?_
    | refine wo_len rfl rfl rfl rfl ?_
    | refine wo_buildSlice rfl rfl rfl ?_
    | refine wo_build rfl rfl rfl ?_
    | refine wo_pick rfl rfl rfl ?_
    | refine wo_strEq rfl rfl rfl ?_
    | refine wo_boolEq rfl rfl rfl rfl ?_
    | refine wo_boolNe rfl rfl rfl rfl ?_
    | refine wo_strNe rfl rfl rfl ?_
    | refine wo_on rfl ?_
    | refine wo_off rfl rfl ?_
    | refine wo_offn rfl ?_)
  refine wg_dec rfl (fun hlt => ?_) fun hge => ?_
  · have hlt : i < l.length := Int.ofNat_lt.1 hlt
    obtain ⟨a, ha⟩ : ∃ a, l[i]? = some a := ⟨l[i], List.getElem?_eq_getElem hlt⟩
    obtain ⟨f, t, rfl, hf, _⟩ := h.slice (by omega)
    repeat (first
      | refine wg_seq ?_
      | refine wg_skip ?_
      | refine wg_block ?_
      | refine wg_scope ?_
      | refine wg_inBlock ?_
      | refine wg_inScope ?_
      | refine wg_region ?_
      | refine wo_nil ?_
      | refine wo_move rfl rfl ?_
      | refine wo_assign rfl rfl ?_
      | refine wo_fieldAddr rfl rfl rfl ?_
      | refine wo_nilCheck rfl rfl ?_
      | refine wo_extract rfl rfl rfl ?_
      | refine wo_load rfl rfl rfl rfl (by assumption) rfl ?_
      | refine wo_eql rfl rfl rfl ?_
      | refine wo_neq rfl rfl rfl ?_
      | refine wo_lss rfl rfl rfl ?_
      | refine wo_gtr rfl rfl rfl ?_
      | refine wo_leq rfl rfl rfl ?_
      | refine wo_geq rfl rfl rfl ?_
      | refine wo_not rfl rfl ?_
      | refine wo_lenStr rfl rfl rfl ?_
      | refine wo_len rfl rfl rfl rfl ?_
      | refine wo_buildSlice rfl rfl rfl ?_
      | refine wo_build rfl rfl rfl ?_
      | refine wo_pick rfl rfl rfl ?_
      | refine wo_strEq rfl rfl rfl ?_
      | refine wo_boolEq rfl rfl rfl rfl ?_
      | refine wo_boolNe rfl rfl rfl rfl ?_
      | refine wo_strNe rfl rfl rfl ?_
      | refine wo_on rfl ?_
      | refine wo_off rfl rfl ?_
      | refine wo_offn rfl ?_)
    refine wo_indexAddr i rfl rfl rfl rfl rfl hlt ?_
    refine wo_load (v := .int .i64 a) rfl rfl rfl rfl hf (by rw [show Nat.add 0 (Nat.mul i d3.size) = i from by show 0 + i * 1 = i; omega]; exact ints_get ha) ?_
    repeat (first
      | refine wg_seq ?_
      | refine wg_skip ?_
      | refine wg_block ?_
      | refine wg_scope ?_
      | refine wg_inBlock ?_
      | refine wg_inScope ?_
      | refine wg_region ?_
      | refine wo_nil ?_
      | refine wo_move rfl rfl ?_
      | refine wo_assign rfl rfl ?_
      | refine wo_fieldAddr rfl rfl rfl ?_
      | refine wo_nilCheck rfl rfl ?_
      | refine wo_extract rfl rfl rfl ?_
      | refine wo_load rfl rfl rfl rfl (by assumption) rfl ?_
      | refine wo_eql rfl rfl rfl ?_
      | refine wo_neq rfl rfl rfl ?_
      | refine wo_lss rfl rfl rfl ?_
      | refine wo_gtr rfl rfl rfl ?_
      | refine wo_leq rfl rfl rfl ?_
      | refine wo_geq rfl rfl rfl ?_
      | refine wo_not rfl rfl ?_
      | refine wo_lenStr rfl rfl rfl ?_
      | refine wo_len rfl rfl rfl rfl ?_
      | refine wo_buildSlice rfl rfl rfl ?_
      | refine wo_build rfl rfl rfl ?_
      | refine wo_pick rfl rfl rfl ?_
      | refine wo_strEq rfl rfl rfl ?_
      | refine wo_boolEq rfl rfl rfl rfl ?_
      | refine wo_boolNe rfl rfl rfl rfl ?_
      | refine wo_strNe rfl rfl rfl ?_
      | refine wo_on rfl ?_
      | refine wo_off rfl rfl ?_
      | refine wo_offn rfl ?_)
    refine wg_dec rfl (fun hz => ?_) fun hz => ?_
    · have hz : z = a := hz
      repeat (first
        | refine wg_seq ?_
        | refine wg_skip ?_
        | refine wg_block ?_
        | refine wg_scope ?_
        | refine wg_inBlock ?_
        | refine wg_inScope ?_
        | refine wg_region ?_
        | refine wo_nil ?_
        | refine wo_move rfl rfl ?_
        | refine wo_assign rfl rfl ?_
        | refine wo_fieldAddr rfl rfl rfl ?_
        | refine wo_nilCheck rfl rfl ?_
        | refine wo_extract rfl rfl rfl ?_
        | refine wo_load rfl rfl rfl rfl (by assumption) rfl ?_
        | refine wo_eql rfl rfl rfl ?_
        | refine wo_neq rfl rfl rfl ?_
        | refine wo_lss rfl rfl rfl ?_
        | refine wo_gtr rfl rfl rfl ?_
        | refine wo_leq rfl rfl rfl ?_
        | refine wo_geq rfl rfl rfl ?_
        | refine wo_not rfl rfl ?_
        | refine wo_lenStr rfl rfl rfl ?_
        | refine wo_len rfl rfl rfl rfl ?_
        | refine wo_buildSlice rfl rfl rfl ?_
        | refine wo_build rfl rfl rfl ?_
        | refine wo_pick rfl rfl rfl ?_
        | refine wo_strEq rfl rfl rfl ?_
        | refine wo_boolEq rfl rfl rfl rfl ?_
        | refine wo_boolNe rfl rfl rfl rfl ?_
        | refine wo_strNe rfl rfl rfl ?_
        | refine wo_on rfl ?_
        | refine wo_off rfl rfl ?_
        | refine wo_offn rfl ?_)
      exact wg_ret rfl ⟨_, rfl, decide_eq_decide.2 ⟨fun _ => hz ▸ List.mem_of_getElem? ha, fun _ => Int.natCast_nonneg _⟩, rfl⟩
    · have hz : ¬ z = a := hz
      repeat (first
        | refine wg_seq ?_
        | refine wg_skip ?_
        | refine wg_block ?_
        | refine wg_scope ?_
        | refine wg_inBlock ?_
        | refine wg_inScope ?_
        | refine wg_region ?_
        | refine wo_nil ?_
        | refine wo_move rfl rfl ?_
        | refine wo_assign rfl rfl ?_
        | refine wo_fieldAddr rfl rfl rfl ?_
        | refine wo_nilCheck rfl rfl ?_
        | refine wo_extract rfl rfl rfl ?_
        | refine wo_load rfl rfl rfl rfl (by assumption) rfl ?_
        | refine wo_eql rfl rfl rfl ?_
        | refine wo_neq rfl rfl rfl ?_
        | refine wo_lss rfl rfl rfl ?_
        | refine wo_gtr rfl rfl rfl ?_
        | refine wo_leq rfl rfl rfl ?_
        | refine wo_geq rfl rfl rfl ?_
        | refine wo_not rfl rfl ?_
        | refine wo_lenStr rfl rfl rfl ?_
        | refine wo_len rfl rfl rfl rfl ?_
        | refine wo_buildSlice rfl rfl rfl ?_
        | refine wo_build rfl rfl rfl ?_
        | refine wo_pick rfl rfl rfl ?_
        | refine wo_strEq rfl rfl rfl ?_
        | refine wo_boolEq rfl rfl rfl rfl ?_
        | refine wo_boolNe rfl rfl rfl rfl ?_
        | refine wo_strNe rfl rfl rfl ?_
        | refine wo_on rfl ?_
        | refine wo_off rfl rfl ?_
        | refine wo_offn rfl ?_)
      refine wo_add rfl rfl rfl (by omega) (by omega) ?_
      repeat (first
        | refine wg_seq ?_
        | refine wg_skip ?_
        | refine wg_block ?_
        | refine wg_scope ?_
        | refine wg_inBlock ?_
        | refine wg_inScope ?_
        | refine wg_region ?_
        | refine wo_nil ?_
        | refine wo_move rfl rfl ?_
        | refine wo_assign rfl rfl ?_
        | refine wo_fieldAddr rfl rfl rfl ?_
        | refine wo_nilCheck rfl rfl ?_
        | refine wo_extract rfl rfl rfl ?_
        | refine wo_load rfl rfl rfl rfl (by assumption) rfl ?_
        | refine wo_eql rfl rfl rfl ?_
        | refine wo_neq rfl rfl rfl ?_
        | refine wo_lss rfl rfl rfl ?_
        | refine wo_gtr rfl rfl rfl ?_
        | refine wo_leq rfl rfl rfl ?_
        | refine wo_geq rfl rfl rfl ?_
        | refine wo_not rfl rfl ?_
        | refine wo_lenStr rfl rfl rfl ?_
        | refine wo_len rfl rfl rfl rfl ?_
        | refine wo_buildSlice rfl rfl rfl ?_
        | refine wo_build rfl rfl rfl ?_
        | refine wo_pick rfl rfl rfl ?_
        | refine wo_strEq rfl rfl rfl ?_
        | refine wo_boolEq rfl rfl rfl rfl ?_
        | refine wo_boolNe rfl rfl rfl rfl ?_
        | refine wo_strNe rfl rfl rfl ?_
        | refine wo_on rfl ?_
        | refine wo_off rfl rfl ?_
        | refine wo_offn rfl ?_)
      refine wg_inLoop ?_
      refine wg_le (.put 0 (.slice f t 0 l.length l.length false) (.put 1 (.int .i64 z) (.put 7 (.int .i64 (l.length : Int)) (.put 8 (.int .i64 ((i + 1 : Nat) : Int)) .nil)))) ?_ ⟨rfl, rfl, rfl, rfl, trivial⟩
      refine ih (i + 1) A1 (by omega) ⟨hlt, rfl, fun hm => ?_⟩
      rw [List.take_add_one, ha] at hm
      rcases List.mem_append.1 hm with hm | hm
      · exact hno hm
      · simp at hm
        exact hz hm
  · have hge : i = l.length := by
      have : ¬ (i : Int) < (l.length : Int) := hge
      omega
    rw [hge, List.take_length] at hno
    refine wg_exit rfl ?_
    repeat (first
      | refine wg_seq ?_
      | refine wg_skip ?_
      | refine wg_block ?_
      | refine wg_scope ?_
      | refine wg_inBlock ?_
      | refine wg_inScope ?_
      | refine wg_region ?_
      | refine wo_nil ?_
      | refine wo_move rfl rfl ?_
      | refine wo_assign rfl rfl ?_
      | refine wo_fieldAddr rfl rfl rfl ?_
      | refine wo_nilCheck rfl rfl ?_
      | refine wo_extract rfl rfl rfl ?_
      | refine wo_load rfl rfl rfl rfl (by assumption) rfl ?_
      | refine wo_eql rfl rfl rfl ?_
      | refine wo_neq rfl rfl rfl ?_
      | refine wo_lss rfl rfl rfl ?_
      | refine wo_gtr rfl rfl rfl ?_
      | refine wo_leq rfl rfl rfl ?_
      | refine wo_geq rfl rfl rfl ?_
      | refine wo_not rfl rfl ?_
      | refine wo_lenStr rfl rfl rfl ?_
      | refine wo_len rfl rfl rfl rfl ?_
      | refine wo_buildSlice rfl rfl rfl ?_
      | refine wo_build rfl rfl rfl ?_
      | refine wo_pick rfl rfl rfl ?_
      | refine wo_strEq rfl rfl rfl ?_
      | refine wo_boolEq rfl rfl rfl rfl ?_
      | refine wo_boolNe rfl rfl rfl rfl ?_
      | refine wo_strNe rfl rfl rfl ?_
      | refine wo_on rfl ?_
      | refine wo_off rfl rfl ?_
      | refine wo_offn rfl ?_)
    exact wg_ret rfl ⟨-1, rfl, by rw [decide_eq_false hno]; rfl, rfl⟩
theorem contains_spec {K : FuncId} {A : AW} {v : AV} {l : List Int} {z : Int} (h : Buf A 1 v l.length (ints l)) (hl : l.length < 1000000) :
    CallP (ES K) 69 [v, .int .i64 z] A fun r A1 => r = .bool (decide (z ∈ l)) ∧ A1 = A := by
  refine call_of rfl rfl rfl ?_
  repeat (first
    | refine wg_seq ?_
    | refine wg_skip ?_
    | refine wg_block ?_
    | refine wg_scope ?_
    | refine wg_inBlock ?_
    | refine wg_inScope ?_
    | refine wg_region ?_
    | refine wo_nil ?_
    | refine wo_move rfl rfl ?_
    | refine wo_assign rfl rfl ?_
    | refine wo_fieldAddr rfl rfl rfl ?_
    | refine wo_nilCheck rfl rfl ?_
    | refine wo_extract rfl rfl rfl ?_
    | refine wo_load rfl rfl rfl rfl (by assumption) rfl ?_
    | refine wo_eql rfl rfl rfl ?_
    | refine wo_neq rfl rfl rfl ?_
    | refine wo_lss rfl rfl rfl ?_
    | refine wo_gtr rfl rfl rfl ?_
    | refine wo_leq rfl rfl rfl ?_
    | refine wo_geq rfl rfl rfl ?_
    | refine wo_not rfl rfl ?_
    | refine wo_lenStr rfl rfl rfl ?_
    | refine wo_len rfl rfl rfl rfl ?_
    | refine wo_buildSlice rfl rfl rfl ?_
    | refine wo_build rfl rfl rfl ?_
    | refine wo_pick rfl rfl rfl ?_
    | refine wo_strEq rfl rfl rfl ?_
    | refine wo_boolEq rfl rfl rfl rfl ?_
    | refine wo_boolNe rfl rfl rfl rfl ?_
    | refine wo_strNe rfl rfl rfl ?_
    | refine wo_on rfl ?_
    | refine wo_off rfl rfl ?_
    | refine wo_offn rfl ?_)
  refine wo_call rfl rfl orc_cons rfl (index_spec h hl) ?_
  rintro r A1 ⟨k, rfl, hk, rfl⟩
  repeat (first
    | refine wg_seq ?_
    | refine wg_skip ?_
    | refine wg_block ?_
    | refine wg_scope ?_
    | refine wg_inBlock ?_
    | refine wg_inScope ?_
    | refine wg_region ?_
    | refine wo_nil ?_
    | refine wo_move rfl rfl ?_
    | refine wo_assign rfl rfl ?_
    | refine wo_fieldAddr rfl rfl rfl ?_
    | refine wo_nilCheck rfl rfl ?_
    | refine wo_extract rfl rfl rfl ?_
    | refine wo_load rfl rfl rfl rfl (by assumption) rfl ?_
    | refine wo_eql rfl rfl rfl ?_
    | refine wo_neq rfl rfl rfl ?_
    | refine wo_lss rfl rfl rfl ?_
    | refine wo_gtr rfl rfl rfl ?_
    | refine wo_leq rfl rfl rfl ?_
    | refine wo_geq rfl rfl rfl ?_
    | refine wo_not rfl rfl ?_
    | refine wo_lenStr rfl rfl rfl ?_
    | refine wo_len rfl rfl rfl rfl ?_
    | refine wo_buildSlice rfl rfl rfl ?_
    | refine wo_build rfl rfl rfl ?_
    | refine wo_pick rfl rfl rfl ?_
    | refine wo_strEq rfl rfl rfl ?_
    | refine wo_boolEq rfl rfl rfl rfl ?_
    | refine wo_boolNe rfl rfl rfl rfl ?_
    | refine wo_strNe rfl rfl rfl ?_
    | refine wo_on rfl ?_
    | refine wo_off rfl rfl ?_
    | refine wo_offn rfl ?_)
  exact wg_ret rfl ⟨congrArg AV.bool hk, rfl⟩
/-- Not all have ended, and none is ready. -/
def stuckT (ts : List Th) : Bool := !decide (∀ th ∈ ts, th.1 = 5) && !decide ((1 : Int) ∈ ts.map (·.1))
theorem stuck_spec {K : FuncId} {A : AW} {fs : Nat} {vs vj : AV} {ts : List Th} (h : Sc A fs vs vj ts) (hl : ts.length < 1000000) :
    CallP (ES K) 53 [.ptr fs 0 0] A fun r A1 => r = .bool (stuckT ts) ∧ A1 = A := by
  unfold stuckT
  refine call_of rfl rfl rfl ?_
  have hc := h.cell
  repeat (first
    | refine wg_seq ?_
    | refine wg_skip ?_
    | refine wg_block ?_
    | refine wg_scope ?_
    | refine wg_inBlock ?_
    | refine wg_inScope ?_
    | refine wg_region ?_
    | refine wo_nil ?_
    | refine wo_move rfl rfl ?_
    | refine wo_assign rfl rfl ?_
    | refine wo_fieldAddr rfl rfl rfl ?_
    | refine wo_nilCheck rfl rfl ?_
    | refine wo_extract rfl rfl rfl ?_
    | refine wo_load rfl rfl rfl rfl (by assumption) rfl ?_
    | refine wo_eql rfl rfl rfl ?_
    | refine wo_neq rfl rfl rfl ?_
    | refine wo_lss rfl rfl rfl ?_
    | refine wo_gtr rfl rfl rfl ?_
    | refine wo_leq rfl rfl rfl ?_
    | refine wo_geq rfl rfl rfl ?_
    | refine wo_not rfl rfl ?_
    | refine wo_lenStr rfl rfl rfl ?_
    | refine wo_len rfl rfl rfl rfl ?_
    | refine wo_buildSlice rfl rfl rfl ?_
    | refine wo_build rfl rfl rfl ?_
    | refine wo_pick rfl rfl rfl ?_
    | refine wo_strEq rfl rfl rfl ?_
    | refine wo_boolEq rfl rfl rfl rfl ?_
    | refine wo_boolNe rfl rfl rfl rfl ?_
    | refine wo_strNe rfl rfl rfl ?_
    | refine wo_on rfl ?_
    | refine wo_off rfl rfl ?_
    | refine wo_offn rfl ?_)
  refine wo_call rfl rfl orc_cons rfl (over_spec h hl) ?_
  rintro r A1 ⟨rfl, rfl⟩
  cases decide (∀ th ∈ ts, th.1 = 5)
  · repeat (first
      | refine wg_seq ?_
      | refine wg_skip ?_
      | refine wg_block ?_
      | refine wg_scope ?_
      | refine wg_inBlock ?_
      | refine wg_inScope ?_
      | refine wg_region ?_
      | refine wo_nil ?_
      | refine wo_move rfl rfl ?_
      | refine wo_assign rfl rfl ?_
      | refine wo_fieldAddr rfl rfl rfl ?_
      | refine wo_nilCheck rfl rfl ?_
      | refine wo_extract rfl rfl rfl ?_
      | refine wo_load rfl rfl rfl rfl (by assumption) rfl ?_
      | refine wo_eql rfl rfl rfl ?_
      | refine wo_neq rfl rfl rfl ?_
      | refine wo_lss rfl rfl rfl ?_
      | refine wo_gtr rfl rfl rfl ?_
      | refine wo_leq rfl rfl rfl ?_
      | refine wo_geq rfl rfl rfl ?_
      | refine wo_not rfl rfl ?_
      | refine wo_lenStr rfl rfl rfl ?_
      | refine wo_len rfl rfl rfl rfl ?_
      | refine wo_buildSlice rfl rfl rfl ?_
      | refine wo_build rfl rfl rfl ?_
      | refine wo_pick rfl rfl rfl ?_
      | refine wo_strEq rfl rfl rfl ?_
      | refine wo_boolEq rfl rfl rfl rfl ?_
      | refine wo_boolNe rfl rfl rfl rfl ?_
      | refine wo_strNe rfl rfl rfl ?_
      | refine wo_on rfl ?_
      | refine wo_off rfl rfl ?_
      | refine wo_offn rfl ?_)
    have hst : Buf A1 1 vs (ts.map (·.1)).length (ints (ts.map (·.1))) := by rw [List.length_map]; exact h.st
    refine wo_call rfl rfl orc_cons rfl (contains_spec hst (by rw [List.length_map]; exact hl)) ?_
    rintro r A2 ⟨rfl, rfl⟩
    repeat (first
      | refine wg_seq ?_
      | refine wg_skip ?_
      | refine wg_block ?_
      | refine wg_scope ?_
      | refine wg_inBlock ?_
      | refine wg_inScope ?_
      | refine wg_region ?_
      | refine wo_nil ?_
      | refine wo_move rfl rfl ?_
      | refine wo_assign rfl rfl ?_
      | refine wo_fieldAddr rfl rfl rfl ?_
      | refine wo_nilCheck rfl rfl ?_
      | refine wo_extract rfl rfl rfl ?_
      | refine wo_load rfl rfl rfl rfl (by assumption) rfl ?_
      | refine wo_eql rfl rfl rfl ?_
      | refine wo_neq rfl rfl rfl ?_
      | refine wo_lss rfl rfl rfl ?_
      | refine wo_gtr rfl rfl rfl ?_
      | refine wo_leq rfl rfl rfl ?_
      | refine wo_geq rfl rfl rfl ?_
      | refine wo_not rfl rfl ?_
      | refine wo_lenStr rfl rfl rfl ?_
      | refine wo_len rfl rfl rfl rfl ?_
      | refine wo_buildSlice rfl rfl rfl ?_
      | refine wo_build rfl rfl rfl ?_
      | refine wo_pick rfl rfl rfl ?_
      | refine wo_strEq rfl rfl rfl ?_
      | refine wo_boolEq rfl rfl rfl rfl ?_
      | refine wo_boolNe rfl rfl rfl rfl ?_
      | refine wo_strNe rfl rfl rfl ?_
      | refine wo_on rfl ?_
      | refine wo_off rfl rfl ?_
      | refine wo_offn rfl ?_)
    exact wg_ret rfl ⟨rfl, rfl⟩
  · repeat (first
      | refine wg_seq ?_
      | refine wg_skip ?_
      | refine wg_block ?_
      | refine wg_scope ?_
      | refine wg_inBlock ?_
      | refine wg_inScope ?_
      | refine wg_region ?_
      | refine wo_nil ?_
      | refine wo_move rfl rfl ?_
      | refine wo_assign rfl rfl ?_
      | refine wo_fieldAddr rfl rfl rfl ?_
      | refine wo_nilCheck rfl rfl ?_
      | refine wo_extract rfl rfl rfl ?_
      | refine wo_load rfl rfl rfl rfl (by assumption) rfl ?_
      | refine wo_eql rfl rfl rfl ?_
      | refine wo_neq rfl rfl rfl ?_
      | refine wo_lss rfl rfl rfl ?_
      | refine wo_gtr rfl rfl rfl ?_
      | refine wo_leq rfl rfl rfl ?_
      | refine wo_geq rfl rfl rfl ?_
      | refine wo_not rfl rfl ?_
      | refine wo_lenStr rfl rfl rfl ?_
      | refine wo_len rfl rfl rfl rfl ?_
      | refine wo_buildSlice rfl rfl rfl ?_
      | refine wo_build rfl rfl rfl ?_
      | refine wo_pick rfl rfl rfl ?_
      | refine wo_strEq rfl rfl rfl ?_
      | refine wo_boolEq rfl rfl rfl rfl ?_
      | refine wo_boolNe rfl rfl rfl rfl ?_
      | refine wo_strNe rfl rfl rfl ?_
      | refine wo_on rfl ?_
      | refine wo_off rfl rfl ?_
      | refine wo_offn rfl ?_)
    exact wg_ret rfl ⟨rfl, rfl⟩
end Go.Proofs.Ytejmdglmldjliaa.Ae
