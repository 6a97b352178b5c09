/-
  A WRITER'S FUNCTIONS Byte and Uint, by the rules.
-/
import Derived.Test.YtokieeiohfcgdaaAiSyTab
import Derived.Test.YtokieeiohfcgdaaAiSy3
namespace Go.Proofs.Ytokieeiohfcgdaa.Ae
open Go.AE
set_option linter.unusedVariables false
set_option maxRecDepth 100000

/-- A writer that has written bs. -/
structure Wr (A : AW) (fw : Nat) (v : AV) (bs : List Nat) : Prop where
  cell : A.heap.get fw = some (.cells 0 false 1 [v])
  buf : Buf A 1 v bs.length (bys bs)
  own : ¬ v.isFam fw

theorem Wr.keep {A A1 : AW} {fw : Nat} {v : AV} {bs : List Nat} {T : Nat → Prop} (h : Wr A fw v bs) (ho : Only A A1 T) (hd : Disj (both (one fw) v.isFam) T) : Wr A1 fw v bs :=
  ⟨ho.keep fw _ h.cell (hd fw (.inl rfl)), h.buf.keep ho fun g hg => hd g (.inr hg), h.own⟩
theorem Wr.under {A : AW} {fw : Nat} {v : AV} {bs : List Nat} (hw : Wf A) (h : Wr A fw v bs) : Under A (both (one fw) v.isFam) := fun g hg => by
  rcases hg with rfl | hg
  · exact hw _ _ h.cell
  · exact h.buf.under hw g hg
/-- The buffer has been appended to; it is stored. -/
theorem Wr.step {A A0 A1 : AW} {fw : Nat} {v v' : AV} {bs xs : List Nat} (hw : Wf A) (h : Wr A fw v bs) (h0 : Only A A0 none') (g : Grew A0 A1 1 v v' (bs.length + xs.length) (bys bs ++ bys xs)) :
    A1.heap.get fw = some (.cells 0 false 1 [v]) ∧ Wr (A1.put fw (.cells 0 false 1 [v'])) fw v' (bs ++ xs) ∧ Only A (A1.put fw (.cells 0 false 1 [v'])) (both (one fw) v.isFam) ∧ Grow A v.isFam v'.isFam := by
  obtain ⟨h1, h2, h3⟩ := h
  have e0 := h0.keep fw _ h1 fun h => h
  have e1 := g.only.keep fw _ e0 h3
  have hf := hw _ _ h1
  have hf0 := h0.wf _ _ e0
  have hf1 := g.only.wf _ _ e1
  have h3' : ¬ v'.isFam fw := fun e => by
    rcases g.grow fw e with h | h
    · exact h3 h
    · omega
  have op : Only A1 (A1.put fw (.cells 0 false 1 [v'])) (one fw) := Only.put g.only.wf hf1
  refine ⟨e1, ⟨by simp, ?_, h3'⟩, ⟨op.wf, Nat.le_trans h0.nxt (Nat.le_trans g.only.nxt op.nxt), fun k F hk hn => op.keep k F (g.only.keep k F (h0.keep k F hk fun h => h) fun h => hn (.inr h)) fun h => hn (.inl h)⟩, fun k hk => ?_⟩
  · have := g.buf.keep op fun k hk e => by cases e; exact h3' hk
    rw [List.length_append, bys_append]
    exact this
  · rcases g.grow k hk with h | h
    · exact .inl h
    · exact .inr (Nat.le_trans h0.nxt h)

/-- xs has been written. -/
structure WStep (A A1 : AW) (fw : Nat) (v v' : AV) (bs xs : List Nat) : Prop where
  wr : Wr A1 fw v' (bs ++ xs)
  only : Only A A1 (both (one fw) v.isFam)
  grow : Grow A v.isFam v'.isFam
theorem WStep.refl {A : AW} {fw : Nat} {v : AV} {bs : List Nat} (hw : Wf A) (h : Wr A fw v bs) : WStep A A fw v v bs [] := ⟨by simpa using h, Only.refl hw _, Grow.refl _ _⟩
theorem WStep.trans {A A1 A2 : AW} {fw : Nat} {v v1 v2 : AV} {bs xs ys : List Nat} (hw : Wf A) (h : WStep A A1 fw v v1 bs xs) (k : WStep A1 A2 fw v1 v2 (bs ++ xs) ys) : WStep A A2 fw v v2 bs (xs ++ ys) :=
  ⟨by rw [← List.append_assoc]; exact k.wr, h.only.trans hw k.only fun g hg => by
    rcases hg with hg | hg
    · exact .inl (.inl hg)
    · rcases h.grow g hg with h | h
      · exact .inl (.inr h)
      · exact .inr h, h.grow.trans k.grow h.only.nxt⟩

theorem byte_spec {K : FuncId} {A : AW} {fw : Nat} {v : AV} {bs : List Nat} {b : Nat} (hw : Wf A) (h : Wr A fw v bs) (hl : bs.length < 1099511627776) :
    CallP (ES K) 61 [.ptr fw 0 0, .int .u8 (b : Int)] A fun r A1 => r = .tuple [] ∧ ∃ v', WStep A A1 fw v v' bs [b] := by
  refine call_of rfl rfl rfl ?_
  have h1 := h.cell
  repeat (first | refine wg_seq ?_ | refine wg_skip ?_ | refine wg_block ?_ | refine wg_scope ?_ | refine wg_inBlock ?_ | refine wg_inScope ?_ | refine wg_region ?_ | refine wo_nil ?_ | refine wo_move rfl rfl ?_ | refine wo_assign rfl rfl ?_ | refine wo_fieldAddr rfl rfl rfl ?_ | refine wo_nilCheck rfl rfl ?_ | refine wo_extract rfl rfl rfl ?_ | refine wo_load rfl rfl rfl rfl (by assumption) rfl ?_ | refine wo_eql rfl rfl rfl ?_ | refine wo_neq rfl rfl rfl ?_ | refine wo_lss rfl rfl rfl ?_ | refine wo_gtr rfl rfl rfl ?_ | refine wo_leq rfl rfl rfl ?_ | refine wo_geq rfl rfl rfl ?_ | refine wo_not rfl rfl ?_ | refine wo_lenStr rfl rfl rfl ?_ | refine wo_len rfl rfl rfl rfl ?_ | refine wo_buildSlice rfl rfl rfl ?_ | refine wo_build rfl rfl rfl ?_ | refine wo_pick rfl rfl rfl ?_ | refine wo_strEq rfl rfl rfl ?_ | refine wo_boolEq rfl rfl rfl rfl ?_ | refine wo_boolNe rfl rfl rfl rfl ?_ | refine wo_strNe rfl rfl rfl ?_ | refine wo_on rfl ?_ | refine wo_off rfl rfl ?_ | refine wo_offn rfl ?_)
  have o1 : Only A (A.add (.cells 0 false 1 [.int .u8 (b : Int)])) none' := Only.add hw _
  refine wo_append rfl rfl rfl rfl rfl (append_buf (de := d5) (m := 1) (xs := [.int .u8 (b : Int)]) rfl rfl rfl rfl o1.wf (h.buf.keep o1 fun _ _ h => h) ?_ rfl (by decide) (room_of (by omega) (by decide))) ?_
  · simp only [srcA, readCells]
    rw [AW.add_get, if_pos rfl]
    rfl
  · intro v' A1 g
    obtain ⟨e1, r1, r2, r3⟩ := h.step (xs := [b]) hw o1 g
    repeat (first | refine wg_seq ?_ | refine wg_skip ?_ | refine wg_block ?_ | refine wg_scope ?_ | refine wg_inBlock ?_ | refine wg_inScope ?_ | refine wg_region ?_ | refine wo_nil ?_ | refine wo_move rfl rfl ?_ | refine wo_assign rfl rfl ?_ | refine wo_fieldAddr rfl rfl rfl ?_ | refine wo_nilCheck rfl rfl ?_ | refine wo_extract rfl rfl rfl ?_ | refine wo_load rfl rfl rfl rfl (by assumption) rfl ?_ | refine wo_eql rfl rfl rfl ?_ | refine wo_neq rfl rfl rfl ?_ | refine wo_lss rfl rfl rfl ?_ | refine wo_gtr rfl rfl rfl ?_ | refine wo_leq rfl rfl rfl ?_ | refine wo_geq rfl rfl rfl ?_ | refine wo_not rfl rfl ?_ | refine wo_lenStr rfl rfl rfl ?_ | refine wo_len rfl rfl rfl rfl ?_ | refine wo_buildSlice rfl rfl rfl ?_ | refine wo_build rfl rfl rfl ?_ | refine wo_pick rfl rfl rfl ?_ | refine wo_strEq rfl rfl rfl ?_ | refine wo_boolEq rfl rfl rfl rfl ?_ | refine wo_boolNe rfl rfl rfl rfl ?_ | refine wo_strNe rfl rfl rfl ?_ | refine wo_on rfl ?_ | refine wo_off rfl rfl ?_ | refine wo_offn rfl ?_)
    refine wo_store rfl rfl g.buf.cells rfl rfl rfl e1 rfl ?_
    repeat (first | refine wg_seq ?_ | refine wg_skip ?_ | refine wg_block ?_ | refine wg_scope ?_ | refine wg_inBlock ?_ | refine wg_inScope ?_ | refine wg_region ?_ | refine wo_nil ?_ | refine wo_move rfl rfl ?_ | refine wo_assign rfl rfl ?_ | refine wo_fieldAddr rfl rfl rfl ?_ | refine wo_nilCheck rfl rfl ?_ | refine wo_extract rfl rfl rfl ?_ | refine wo_load rfl rfl rfl rfl (by assumption) rfl ?_ | refine wo_eql rfl rfl rfl ?_ | refine wo_neq rfl rfl rfl ?_ | refine wo_lss rfl rfl rfl ?_ | refine wo_gtr rfl rfl rfl ?_ | refine wo_leq rfl rfl rfl ?_ | refine wo_geq rfl rfl rfl ?_ | refine wo_not rfl rfl ?_ | refine wo_lenStr rfl rfl rfl ?_ | refine wo_len rfl rfl rfl rfl ?_ | refine wo_buildSlice rfl rfl rfl ?_ | refine wo_build rfl rfl rfl ?_ | refine wo_pick rfl rfl rfl ?_ | refine wo_strEq rfl rfl rfl ?_ | refine wo_boolEq rfl rfl rfl rfl ?_ | refine wo_boolNe rfl rfl rfl rfl ?_ | refine wo_strNe rfl rfl rfl ?_ | refine wo_on rfl ?_ | refine wo_off rfl rfl ?_ | refine wo_offn rfl ?_)
    exact wg_nil rfl ⟨rfl, v', r1, r2, r3⟩

/-! ### Numbers in groups -/
def grp (n : Nat) : List Nat := if h : n < 128 then [n] else (n % 128 + 128) :: grp (n / 128)
termination_by n
theorem grp_lt {n : Nat} (h : n < 128) : grp n = [n] := by rw [grp, dif_pos h]
theorem grp_ge {n : Nat} (h : ¬ n < 128) : grp n = (n % 128 + 128) :: grp (n / 128) := by rw [grp, dif_neg h]
theorem grp_len : ∀ (k n : Nat), n < 128 ^ (k + 1) → (grp n).length ≤ k + 1
  | 0, n, h => by rw [grp_lt (by simpa using h)]; simp
  | k + 1, n, h => by
    by_cases h1 : n < 128
    · rw [grp_lt h1]; simp
    · rw [grp_ge h1]
      have := grp_len k (n / 128) (by rw [Nat.pow_succ] at h; exact Nat.div_lt_of_lt_mul (by rw [Nat.mul_comm]; exact h))
      simp only [List.length_cons]
      omega
theorem grp_len10 {n : Nat} (h : n < 18446744073709551616) : (grp n).length ≤ 10 := grp_len 9 n (Nat.lt_trans h (by decide))
theorem or128 : ∀ m : Fin 256, IntKind.u8.wrap ((BitVec.ofInt 8 (m.val : Int) ||| BitVec.ofInt 8 128).toNat : Int) = ((m.val % 128 + 128 : Nat) : Int) := by decide +kernel
theorem or128_of {n : Nat} : IntKind.u8.wrap ((BitVec.ofInt IntKind.u8.bits ((n % 256 : Nat) : Int) ||| BitVec.ofInt IntKind.u8.bits 128).toNat : Int) = ((n % 128 + 128 : Nat) : Int) := by
  have := or128 ⟨n % 256, Nat.mod_lt _ (by decide)⟩
  simp only at this
  rw [Nat.mod_mod_of_dvd _ (by decide)] at this
  exact this
theorem wrap_u8n (n : Nat) : IntKind.u8.wrap (n : Int) = ((n % 256 : Nat) : Int) := by rw [wrap_u8]; omega
theorem shr7 {E : Env} {A : AW} {n : Nat} {k : IntKind} : intOp E .shr .u64 (n : Int) k 7 A = .val (.int .u64 ((n / 128 : Nat) : Int)) A := by
  rw [int_shr (by decide)]
  have : ((n : Int).fdiv (2 ^ (min (7 : Int).toNat IntKind.u64.bits))) = ((n / 128 : Nat) : Int) := by
    show (n : Int).fdiv 128 = _
    rw [Int.fdiv_eq_ediv_of_nonneg _ (by decide)]
    omega
  rw [this]

theorem uint_spec {K : FuncId} {A : AW} {fw : Nat} {v : AV} {bs : List Nat} {n : Nat} (hw : Wf A) (h : Wr A fw v bs) (hl : bs.length < 1000000000000) (hn : n < 18446744073709551616) :
    CallP (ES K) 60 [.ptr fw 0 0, .int .u64 (n : Int)] A fun r A1 => r = .tuple [] ∧ ∃ v', WStep A A1 fw v v' bs (grp n) := by
  refine call_of rfl rfl rfl ?_
  refine wg_scope (wg_seq (wg_label ?_))
  refine wg_le (.put 0 (.ptr fw 0 0) (.put 1 (.int .u64 (n : Int)) .nil)) ?_ ⟨rfl, rfl, trivial⟩
  refine wg_ind (ι := Nat × List Nat × AV) (fun i => i.1) (fun i => .put 0 (.ptr fw 0 0) (.put 1 (.int .u64 (i.1 : Int)) .nil))
    (fun i A1 => WStep A A1 fw v i.2.2 bs i.2.1 ∧ i.2.1 ++ grp i.1 = grp n) ?_ (n, [], v) A ⟨WStep.refl hw h, rfl⟩
  rintro ⟨m, xs, u⟩ A1 ⟨hs, hm⟩ ih
  have hs : WStep A A1 fw v u bs xs := hs
  have hm : xs ++ grp m = grp n := hm
  have hl1 : xs.length ≤ 10 := by
    have := grp_len10 hn
    rw [← hm, List.length_append] at this
    omega
  repeat (first | refine wg_seq ?_ | refine wg_skip ?_ | refine wg_block ?_ | refine wg_scope ?_ | refine wg_inBlock ?_ | refine wg_inScope ?_ | refine wg_region ?_ | refine wo_nil ?_ | refine wo_move rfl rfl ?_ | refine wo_assign rfl rfl ?_ | refine wo_fieldAddr rfl rfl rfl ?_ | refine wo_nilCheck rfl rfl ?_ | refine wo_extract rfl rfl rfl ?_ | refine wo_load rfl rfl rfl rfl (by assumption) rfl ?_ | refine wo_eql rfl rfl rfl ?_ | refine wo_neq rfl rfl rfl ?_ | refine wo_lss rfl rfl rfl ?_ | refine wo_gtr rfl rfl rfl ?_ | refine wo_leq rfl rfl rfl ?_ | refine wo_geq rfl rfl rfl ?_ | refine wo_not rfl rfl ?_ | refine wo_lenStr rfl rfl rfl ?_ | refine wo_len rfl rfl rfl rfl ?_ | refine wo_buildSlice rfl rfl rfl ?_ | refine wo_build rfl rfl rfl ?_ | refine wo_pick rfl rfl rfl ?_ | refine wo_strEq rfl rfl rfl ?_ | refine wo_boolEq rfl rfl rfl rfl ?_ | refine wo_boolNe rfl rfl rfl rfl ?_ | refine wo_strNe rfl rfl rfl ?_ | refine wo_on rfl ?_ | refine wo_off rfl rfl ?_ | refine wo_offn rfl ?_)
  refine wg_dec rfl (fun hlt => ?_) fun hge => ?_
  · have hlt : m < 128 := Int.ofNat_lt.1 hlt
    repeat (first | refine wg_seq ?_ | refine wg_skip ?_ | refine wg_block ?_ | refine wg_scope ?_ | refine wg_inBlock ?_ | refine wg_inScope ?_ | refine wg_region ?_ | refine wo_nil ?_ | refine wo_move rfl rfl ?_ | refine wo_assign rfl rfl ?_ | refine wo_fieldAddr rfl rfl rfl ?_ | refine wo_nilCheck rfl rfl ?_ | refine wo_extract rfl rfl rfl ?_ | refine wo_load rfl rfl rfl rfl (by assumption) rfl ?_ | refine wo_eql rfl rfl rfl ?_ | refine wo_neq rfl rfl rfl ?_ | refine wo_lss rfl rfl rfl ?_ | refine wo_gtr rfl rfl rfl ?_ | refine wo_leq rfl rfl rfl ?_ | refine wo_geq rfl rfl rfl ?_ | refine wo_not rfl rfl ?_ | refine wo_lenStr rfl rfl rfl ?_ | refine wo_len rfl rfl rfl rfl ?_ | refine wo_buildSlice rfl rfl rfl ?_ | refine wo_build rfl rfl rfl ?_ | refine wo_pick rfl rfl rfl ?_ | refine wo_strEq rfl rfl rfl ?_ | refine wo_boolEq rfl rfl rfl rfl ?_ | refine wo_boolNe rfl rfl rfl rfl ?_ | refine wo_strNe rfl rfl rfl ?_ | refine wo_on rfl ?_ | refine wo_off rfl rfl ?_ | refine wo_offn rfl ?_)
    refine wo_conv rfl rfl rfl rfl ((m % 256 : Nat) : Int) (wrap_u8n m) ?_
    refine wo_call rfl rfl orc_cons rfl (byte_spec hs.only.wf hs.wr (by rw [List.length_append]; omega)) ?_
    rintro r A2 ⟨rfl, v', k⟩
    repeat (first | refine wg_seq ?_ | refine wg_skip ?_ | refine wg_block ?_ | refine wg_scope ?_ | refine wg_inBlock ?_ | refine wg_inScope ?_ | refine wg_region ?_ | refine wo_nil ?_ | refine wo_move rfl rfl ?_ | refine wo_assign rfl rfl ?_ | refine wo_fieldAddr rfl rfl rfl ?_ | refine wo_nilCheck rfl rfl ?_ | refine wo_extract rfl rfl rfl ?_ | refine wo_load rfl rfl rfl rfl (by assumption) rfl ?_ | refine wo_eql rfl rfl rfl ?_ | refine wo_neq rfl rfl rfl ?_ | refine wo_lss rfl rfl rfl ?_ | refine wo_gtr rfl rfl rfl ?_ | refine wo_leq rfl rfl rfl ?_ | refine wo_geq rfl rfl rfl ?_ | refine wo_not rfl rfl ?_ | refine wo_lenStr rfl rfl rfl ?_ | refine wo_len rfl rfl rfl rfl ?_ | refine wo_buildSlice rfl rfl rfl ?_ | refine wo_build rfl rfl rfl ?_ | refine wo_pick rfl rfl rfl ?_ | refine wo_strEq rfl rfl rfl ?_ | refine wo_boolEq rfl rfl rfl rfl ?_ | refine wo_boolNe rfl rfl rfl rfl ?_ | refine wo_strNe rfl rfl rfl ?_ | refine wo_on rfl ?_ | refine wo_off rfl rfl ?_ | refine wo_offn rfl ?_)
    refine wg_ret rfl ⟨rfl, v', ?_⟩
    have := hs.trans hw k
    rw [Nat.mod_eq_of_lt (by omega), ← grp_lt hlt, hm] at this
    exact this
  · have hge : ¬ m < 128 := fun h => hge (Int.ofNat_lt.2 h)
    repeat (first | refine wg_seq ?_ | refine wg_skip ?_ | refine wg_block ?_ | refine wg_scope ?_ | refine wg_inBlock ?_ | refine wg_inScope ?_ | refine wg_region ?_ | refine wo_nil ?_ | refine wo_move rfl rfl ?_ | refine wo_assign rfl rfl ?_ | refine wo_fieldAddr rfl rfl rfl ?_ | refine wo_nilCheck rfl rfl ?_ | refine wo_extract rfl rfl rfl ?_ | refine wo_load rfl rfl rfl rfl (by assumption) rfl ?_ | refine wo_eql rfl rfl rfl ?_ | refine wo_neq rfl rfl rfl ?_ | refine wo_lss rfl rfl rfl ?_ | refine wo_gtr rfl rfl rfl ?_ | refine wo_leq rfl rfl rfl ?_ | refine wo_geq rfl rfl rfl ?_ | refine wo_not rfl rfl ?_ | refine wo_lenStr rfl rfl rfl ?_ | refine wo_len rfl rfl rfl rfl ?_ | refine wo_buildSlice rfl rfl rfl ?_ | refine wo_build rfl rfl rfl ?_ | refine wo_pick rfl rfl rfl ?_ | refine wo_strEq rfl rfl rfl ?_ | refine wo_boolEq rfl rfl rfl rfl ?_ | refine wo_boolNe rfl rfl rfl rfl ?_ | refine wo_strNe rfl rfl rfl ?_ | refine wo_on rfl ?_ | refine wo_off rfl rfl ?_ | refine wo_offn rfl ?_)
    refine wo_conv rfl rfl rfl rfl ((m % 256 : Nat) : Int) (wrap_u8n m) ?_
    refine wo_bin rfl rfl rfl (v := .int .u8 ((m % 128 + 128 : Nat) : Int)) (by rw [int_or]; exact congrArg (fun z => OpR.val (.int .u8 z) A1) or128_of) ?_
    refine wo_call rfl rfl orc_cons rfl (byte_spec hs.only.wf hs.wr (by rw [List.length_append]; omega)) ?_
    rintro r A2 ⟨rfl, v', k⟩
    repeat (first | refine wg_seq ?_ | refine wg_skip ?_ | refine wg_block ?_ | refine wg_scope ?_ | refine wg_inBlock ?_ | refine wg_inScope ?_ | refine wg_region ?_ | refine wo_nil ?_ | refine wo_move rfl rfl ?_ | refine wo_assign rfl rfl ?_ | refine wo_fieldAddr rfl rfl rfl ?_ | refine wo_nilCheck rfl rfl ?_ | refine wo_extract rfl rfl rfl ?_ | refine wo_load rfl rfl rfl rfl (by assumption) rfl ?_ | refine wo_eql rfl rfl rfl ?_ | refine wo_neq rfl rfl rfl ?_ | refine wo_lss rfl rfl rfl ?_ | refine wo_gtr rfl rfl rfl ?_ | refine wo_leq rfl rfl rfl ?_ | refine wo_geq rfl rfl rfl ?_ | refine wo_not rfl rfl ?_ | refine wo_lenStr rfl rfl rfl ?_ | refine wo_len rfl rfl rfl rfl ?_ | refine wo_buildSlice rfl rfl rfl ?_ | refine wo_build rfl rfl rfl ?_ | refine wo_pick rfl rfl rfl ?_ | refine wo_strEq rfl rfl rfl ?_ | refine wo_boolEq rfl rfl rfl rfl ?_ | refine wo_boolNe rfl rfl rfl rfl ?_ | refine wo_strNe rfl rfl rfl ?_ | refine wo_on rfl ?_ | refine wo_off rfl rfl ?_ | refine wo_offn rfl ?_)
    refine wo_bin rfl rfl rfl shr7 ?_
    repeat (first | refine wg_seq ?_ | refine wg_skip ?_ | refine wg_block ?_ | refine wg_scope ?_ | refine wg_inBlock ?_ | refine wg_inScope ?_ | refine wg_region ?_ | refine wo_nil ?_ | refine wo_move rfl rfl ?_ | refine wo_assign rfl rfl ?_ | refine wo_fieldAddr rfl rfl rfl ?_ | refine wo_nilCheck rfl rfl ?_ | refine wo_extract rfl rfl rfl ?_ | refine wo_load rfl rfl rfl rfl (by assumption) rfl ?_ | refine wo_eql rfl rfl rfl ?_ | refine wo_neq rfl rfl rfl ?_ | refine wo_lss rfl rfl rfl ?_ | refine wo_gtr rfl rfl rfl ?_ | refine wo_leq rfl rfl rfl ?_ | refine wo_geq rfl rfl rfl ?_ | refine wo_not rfl rfl ?_ | refine wo_lenStr rfl rfl rfl ?_ | refine wo_len rfl rfl rfl rfl ?_ | refine wo_buildSlice rfl rfl rfl ?_ | refine wo_build rfl rfl rfl ?_ | refine wo_pick rfl rfl rfl ?_ | refine wo_strEq rfl rfl rfl ?_ | refine wo_boolEq rfl rfl rfl rfl ?_ | refine wo_boolNe rfl rfl rfl rfl ?_ | refine wo_strNe rfl rfl rfl ?_ | refine wo_on rfl ?_ | refine wo_off rfl rfl ?_ | refine wo_offn rfl ?_)
    refine wg_goto rfl (wg_seq (wg_skip ?_))
    refine wg_le (.put 0 (.ptr fw 0 0) (.put 1 (.int .u64 ((m / 128 : Nat) : Int)) .nil)) ?_ ⟨rfl, rfl, trivial⟩
    refine ih (m / 128, xs ++ [m % 128 + 128], v') A2 (by simp only; omega) ⟨hs.trans hw k, ?_⟩
    simp only [List.append_assoc, List.cons_append, List.nil_append]
    rw [← grp_ge hge, hm]
end Go.Proofs.Ytokieeiohfcgdaa.Ae
