/-
  TELL: the law's walk.
-/
import Derived.Test.YtokieeiohfcgdaaAiSyT21
namespace Go.Proofs.Ytokieeiohfcgdaa.Ae
open Go.AE
set_option linter.unusedVariables false
set_option maxRecDepth 100000

theorem short2_spec {K : FuncId} {A : AW} {v : AV} {l : List Str} (h : Row A 1 v l.length (sts l)) (hn : l.length < 9223372036854775808) :
    CallP (ES K) 22 [v] A fun r A1 => (∃ b, r = .bool b ∧ (b = true → l.length ≤ 24 ∧ ∀ s ∈ l, s.length ≤ 40)) ∧ A1 = A := by
  refine call_of rfl rfl rfl ?_
  repeat (first | refine wg_seq ?_ | refine wg_block ?_ | refine wg_region ?_ | refine wo_nil ?_ | refine wo_assign rfl rfl ?_)
  refine wg_loop ?_
  refine wg_le (.put 0 v (.put 3 (.int .i64 ((0 : Nat) : Int)) .nil)) ?_ ⟨rfl, rfl, trivial⟩
  refine wg_ind (ι := Nat) (fun i => l.length - i) (fun i => .put 0 v (.put 3 (.int .i64 (i : Int)) .nil)) (fun i A1 => A1 = A ∧ i ≤ l.length ∧ ∀ s ∈ l.take i, s.length ≤ 40) ?_ 0 A ⟨rfl, Nat.zero_le _, fun s hs => by simp at hs⟩
  rintro i A1 ⟨rfl, hi, hp⟩ ih
  repeat (first | refine wg_seq ?_ | refine wg_region ?_ | refine wo_move rfl rfl ?_)
  refine wo_len rfl rfl rfl h.lenV ?_
  repeat (first | refine wo_nil ?_ | refine wo_lss rfl rfl rfl ?_)
  refine wg_dec rfl (fun hlt => ?_) fun hge => ?_
  · have hlt : i < l.length := Int.ofNat_lt.1 hlt
    obtain ⟨s, hs⟩ : ∃ s, l[i]? = some s := ⟨l[i], List.getElem?_eq_getElem hlt⟩
    obtain ⟨f, t, o, c, ex, ro, all, e0, hh, _, hat⟩ := row_str h hs
    repeat (first | refine wg_seq ?_ | refine wg_skip ?_ | refine wg_block ?_ | refine wg_region ?_ | refine wo_move rfl rfl ?_)
    refine wo_indexAddr i rfl (congrArg some e0) rfl rfl rfl hlt ?_
    refine wo_load rfl rfl rfl rfl hh hat ?_
    repeat (first | refine wo_nil ?_ | refine wo_gtr rfl rfl rfl ?_ | refine wo_lenStr rfl rfl rfl ?_)
    refine wg_dec rfl (fun h40 => ?_) fun h40 => ?_
    · repeat (first | refine wg_seq ?_ | refine wg_region ?_ | refine wo_nil ?_ | refine wo_assign rfl rfl ?_)
      exact wg_ret rfl ⟨⟨false, rfl, fun e => by cases e⟩, rfl⟩
    · have h40 : ¬ (40 : Int) < (s.length : Int) := h40
      repeat (first | refine wg_skip ?_ | refine wg_inBlock ?_ | refine wg_region ?_ | refine wo_move rfl rfl ?_)
      refine wo_add rfl rfl rfl (by omega) (by omega) ?_
      repeat (first | refine wo_nil ?_ | refine wo_assign rfl rfl ?_)
      refine wg_inLoop ?_
      refine wg_le (.put 0 v (.put 3 (.int .i64 ((i + 1 : Nat) : Int)) .nil)) ?_ ⟨rfl, rfl, trivial⟩
      refine ih (i + 1) A1 (by omega) ⟨rfl, hlt, fun u hu => ?_⟩
      rw [List.take_add_one, hs] at hu
      rcases List.mem_append.1 hu with hu | hu
      · exact hp u hu
      · simp at hu
        rw [hu]
        omega
  · have hge : i = l.length := by
      have : ¬ (i : Int) < (l.length : Int) := hge
      omega
    rw [hge, List.take_length] at hp
    refine wg_exit rfl ?_
    repeat (first | refine wg_seq ?_ | refine wg_region ?_ | refine wo_move rfl rfl ?_)
    refine wo_len rfl rfl rfl h.lenV ?_
    repeat (first | refine wo_nil ?_ | refine wo_assign rfl rfl ?_ | refine wo_leq rfl rfl rfl ?_)
    refine wg_ret rfl ⟨⟨_, rfl, fun e => ⟨?_, hp⟩⟩, rfl⟩
    have e := of_decide_eq_true e
    have e : (l.length : Int) ≤ 24 := e
    omega
theorem hnames_spec {K : FuncId} {A : AW} {fr fm : Nat} {vn : AV} {hs : Hs} (hw : Wf A) (h : Hi A fr fm vn hs) (h0 : 0 < hs.length) (hn : hs.length ≤ 100) :
    CallP (ES K) 19 [.ptr fr 0 0] A fun r A1 => Buf A1 1 r hs.length (sts (hs.map Prod.fst)) ∧ Only A A1 none' := by
  refine call_of rfl rfl rfl ?_
  have hc := h.cell
  repeat (first | refine wg_seq ?_ | refine wg_region ?_ | refine wo_nil ?_ | refine wo_move rfl rfl ?_ | refine wo_assign rfl rfl ?_ | refine wo_fieldAddr rfl rfl rfl ?_ | refine wo_nilCheck rfl rfl ?_ | refine wo_load rfl rfl rfl rfl (by assumption) rfl ?_)
  refine wo_call rfl rfl orc_cons rfl (names_spec hw h h0 hn) ?_
  rintro r A1 ⟨b1, b2, b3⟩
  repeat (first | refine wo_nil ?_ | refine wo_assign rfl rfl ?_)
  exact wg_ret rfl ⟨b1, b2⟩
theorem stillN {K : FuncId} {C : FnE} {l : Kn} {A : AW} {d : Option Tmp} {t : Tmp} {pos : String} {ty : TypeId} {after : Array Edge} {g : Option (Nat × Bool)} {f : Nat} {vn vs : AV} {n : Nat} {cs : List AV} (hl : l.find t = some (.ptr f 0 0)) (hf : A.heap.get f = some (.cells 0 false 2 [vn, vs])) (hv : Vec A 1 vn n cs) :
    (∀ F, Kf C l F → execA (ES K) F ⟨d, .load 23 (.tmp t), ty, pos, after, g⟩ A = .val vn A) ∧ valEq vn vn = true := by
  refine ⟨fun F hF => ?_, vec_still hv⟩
  show liftR (loadA (ES K) 23 (ev F (.tmp t)) A) = _
  rw [hF.ev (x := .tmp t) (v := .ptr f 0 0) hl, loadA_eq (dt := d23) rfl rfl hf rfl]
  rfl
/-- What the law holds. -/
structure TI (A A1 : AW) (f10 f11 fr fm : Nat) (vn : AV) (fq : Nat) (un us : AV) (hs : Hs) (s t : Ty') : Prop where
  o : Only A A1 none'
  h7 : A1.heap.get f10 = some (.cells 0 false 2 [.int .i64 s.1, .str s.2])
  h8 : A1.heap.get f11 = some (.cells 0 false 2 [.int .i64 t.1, .str t.2])
  hi : Hi A1 fr fm vn hs
  ri : Ri A1 fq un us hs
theorem TI.keep {A A1 A2 : AW} {f10 f11 fr fm : Nat} {vn : AV} {fq : Nat} {un us : AV} {hs : Hs} {s t : Ty'} (h : TI A A1 f10 f11 fr fm vn fq un us hs s t) (k : Only A1 A2 none') : TI A A2 f10 f11 fr fm vn fq un us hs s t :=
  ⟨h.o.same k, k.keep _ _ h.h7 fun h => h, k.keep _ _ h.h8 fun h => h, h.hi.keep k, h.ri.keep k⟩
set_option maxHeartbeats 4000000 in
theorem tell_spec {A : AW} {v0 v1 : AV} {ns ss : List Str} {a b : Str} {s t : Ty'} (hw : Wf A) (hr0 : Row A 1 v0 ns.length (sts ns)) (hr1 : Row A 1 v1 ss.length (sts ss)) (hl0 : ns.length < 9223372036854775808) (hl1 : ss.length < 9223372036854775808)
    (hsm : ∀ s ∈ ss, small s) (sa : small s.2) (sb : small t.2) :
    CallP (ES 14) 8 [v0, v1, .str a, .str b, tv s, tv t] A fun r A1 => r = .bool true := by
  refine call_of rfl rfl rfl ?_
  unfold tv
  repeat (first | refine wg_seq ?_ | refine wg_region ?_)
  refine wo_box rfl rfl rfl rfl ?_
  refine wo_A (fun A1 => Only A A1 none' ∧ A1.heap.get A.nxt = some (.cells 0 false 2 [.int .i64 s.1, .str s.2])) ⟨Only.add hw _, by rw [AW.add_get, if_pos rfl]; rfl⟩ ?_
  rintro A1 ⟨o1, h7⟩
  generalize A.nxt = f7 at h7
  refine wo_box rfl rfl rfl rfl ?_
  refine wo_A (fun A2 => Only A1 A2 none' ∧ A2.heap.get A1.nxt = some (.cells 0 false 2 [.int .i64 t.1, .str t.2])) ⟨Only.add o1.wf _, by rw [AW.add_get, if_pos rfl]; rfl⟩ ?_
  rintro A3 ⟨o2, h8⟩
  generalize A1.nxt = f8 at h8
  have h7 := o2.keep _ _ h7 fun h => h
  have o13 := o1.same o2
  have hr0' := hr0.keep o13 fun _ _ h => h
  have hr1' := hr1.keep o13 fun _ _ h => h
  repeat (first | refine wg_seq ?_ | refine wg_region ?_ | refine wo_nil ?_ | refine wo_assign rfl rfl ?_)
  refine wo_orc rfl rfl rfl rfl ?_
  repeat (first | refine wo_nil ?_ | refine wo_not rfl rfl ?_)
  refine wg_false rfl ?_
  repeat (first | refine wg_seq ?_ | refine wg_skip ?_ | refine wg_region ?_ | refine wo_move rfl rfl ?_)
  refine wo_call rfl rfl orc_cons rfl (short2_spec hr0' hl0) ?_
  rintro r A4 ⟨⟨b0, rfl, hb0⟩, e4⟩
  obtain rfl : A3 = A4 := e4.symm
  cases b0 with
  | false =>
    repeat (first | refine wg_seq ?_ | refine wg_region ?_ | refine wo_nil ?_ | refine wo_move rfl rfl ?_ | refine wo_assign rfl rfl ?_ | refine wo_not rfl rfl ?_ | refine wo_pick rfl rfl rfl ?_ | refine wo_off rfl rfl ?_ | refine wg_true rfl ?_)
    exact wg_ret rfl rfl
  | true =>
  obtain ⟨hn24, hn40⟩ := hb0 rfl
  repeat (first | refine wo_move rfl rfl ?_ | refine wo_not rfl rfl ?_ | refine wo_on rfl ?_)
  refine wo_call rfl rfl orc_cons rfl (short2_spec hr1' hl1) ?_
  rintro r A4 ⟨⟨b0, rfl, hb0⟩, e4⟩
  obtain rfl : A3 = A4 := e4.symm
  cases b0 with
  | false =>
    repeat (first | refine wg_seq ?_ | refine wg_region ?_ | refine wo_nil ?_ | refine wo_move rfl rfl ?_ | refine wo_assign rfl rfl ?_ | refine wo_not rfl rfl ?_ | refine wo_pick rfl rfl rfl ?_ | refine wo_on rfl ?_ | refine wo_off rfl rfl ?_ | refine wg_true rfl ?_)
    exact wg_ret rfl rfl
  | true =>
  obtain ⟨hs24, _⟩ := hb0 rfl
  repeat (first | refine wo_move rfl rfl ?_ | refine wo_gtr rfl rfl rfl ?_ | refine wo_not rfl rfl ?_ | refine wo_lenStr rfl rfl rfl ?_ | refine wo_pick rfl rfl rfl ?_ | refine wo_on rfl ?_)
  by_cases c1 : (40 : Int) < (a.length : Int)
  · refine wo_is 32 true rfl (decide_eq_true c1) ?_
    repeat (first | refine wg_seq ?_ | refine wg_region ?_ | refine wo_nil ?_ | refine wo_move rfl rfl ?_ | refine wo_assign rfl rfl ?_ | refine wo_pick rfl rfl rfl ?_ | refine wo_off rfl rfl ?_ | refine wg_true rfl ?_)
    exact wg_ret rfl rfl
  refine wo_is 32 false rfl (decide_eq_false c1) ?_
  repeat (first | refine wo_move rfl rfl ?_ | refine wo_gtr rfl rfl rfl ?_ | refine wo_lenStr rfl rfl rfl ?_ | refine wo_pick rfl rfl rfl ?_ | refine wo_on rfl ?_)
  by_cases c2 : (40 : Int) < (b.length : Int)
  · refine wo_is 37 true rfl (decide_eq_true c2) ?_
    repeat (first | refine wg_seq ?_ | refine wg_region ?_ | refine wo_nil ?_ | refine wo_move rfl rfl ?_ | refine wo_assign rfl rfl ?_ | refine wo_pick rfl rfl rfl ?_ | refine wo_off rfl rfl ?_ | refine wg_true rfl ?_)
    exact wg_ret rfl rfl
  refine wo_is 37 false rfl (decide_eq_false c2) ?_
  repeat (first | refine wo_move rfl rfl ?_ | refine wo_fieldAddr rfl rfl rfl ?_ | refine wo_load rfl rfl rfl rfl (by assumption) rfl ?_ | refine wo_gtr rfl rfl rfl ?_ | refine wo_lenStr rfl rfl rfl ?_ | refine wo_pick rfl rfl rfl ?_ | refine wo_on rfl ?_)
  by_cases c3 : (40 : Int) < (s.2.length : Int)
  · refine wo_is 43 true rfl (decide_eq_true c3) ?_
    repeat (first | refine wg_seq ?_ | refine wg_region ?_ | refine wo_nil ?_ | refine wo_assign rfl rfl ?_ | refine wo_pick rfl rfl rfl ?_ | refine wo_off rfl rfl ?_ | refine wg_true rfl ?_)
    exact wg_ret rfl rfl
  refine wo_is 43 false rfl (decide_eq_false c3) ?_
  repeat (first | refine wo_nil ?_ | refine wo_fieldAddr rfl rfl rfl ?_ | refine wo_load rfl rfl rfl rfl (by assumption) rfl ?_ | refine wo_gtr rfl rfl rfl ?_ | refine wo_lenStr rfl rfl rfl ?_ | refine wo_pick rfl rfl rfl ?_ | refine wo_on rfl ?_)
  refine wg_dec rfl (fun c4 => ?_) fun c4 => ?_
  · repeat (first | refine wg_seq ?_ | refine wg_region ?_ | refine wo_nil ?_ | refine wo_assign rfl rfl ?_)
    exact wg_ret rfl rfl
  repeat (first | refine wg_seq ?_ | refine wg_skip ?_ | refine wg_region ?_ | refine wo_move rfl rfl ?_)
  refine wo_append rfl rfl rfl rfl rfl (append_buf (v := .nils) (n := 0) (cs := []) (de := d9) rfl rfl rfl rfl o13.wf (.inl ⟨rfl, rfl, rfl⟩) hr0'.src (hr0'.length) (by decide) (room_of (by omega) (by decide))) ?_
  intro v2 A4 g1
  have w2 : Row A4 1 v2 ns.length (sts ns) := by
    have := g1.buf.row
    rw [Nat.zero_add, List.nil_append] at this
    exact this
  have o4 : Only A3 A4 none' := g1.only.mono fun g h => h.elim
  have hr1' := hr1'.keep o4 fun _ _ h => h
  repeat refine wo_move rfl rfl ?_
  refine wo_append rfl rfl rfl rfl rfl (append_buf (v := .nils) (n := 0) (cs := []) (de := d9) rfl rfl rfl rfl o4.wf (.inl ⟨rfl, rfl, rfl⟩) hr1'.src (hr1'.length) (by decide) (room_of (by omega) (by decide))) ?_
  intro v3 A5 g2
  have w3 : Row A5 1 v3 ss.length (sts ss) := by
    have := g2.buf.row
    rw [Nat.zero_add, List.nil_append] at this
    exact this
  have o5 : Only A4 A5 none' := g2.only.mono fun g h => h.elim
  have w2 := w2.keep o5 fun _ _ h => h
  have o45 := o4.same o5
  have o15 := o13.same o45
  refine wo_call rfl rfl orc_cons rfl (mk_spec o15.wf w2 w3) ?_
  rintro r A6 ⟨o6, hr6⟩
  have o16 := o15.same o6
  have hr0' := hr0.keep o16 fun _ _ h => h
  have hr1' := hr1.keep o16 fun _ _ h => h
  have h7 := (o45.same o6).keep _ _ h7 fun h => h
  have h8 := (o45.same o6).keep _ _ h8 fun h => h
  rcases hr6 with ⟨he, rfl⟩ | ⟨he, fr, fm, vn, rfl, hi⟩
  · repeat (first | refine wg_seq ?_ | refine wg_region ?_ | refine wo_nil ?_ | refine wo_move rfl rfl ?_ | refine wo_assign rfl rfl ?_ | refine wo_extract rfl rfl rfl ?_)
    refine wo_call rfl rfl orc_cons rfl (rmk_spec o16.wf hr0' hr1' fun n hn => by have := hn40 n hn; omega) ?_
    rintro r A7 ⟨o7, ⟨_, rfl⟩ | ⟨he', _⟩⟩
    · repeat (first | refine wg_seq ?_ | refine wg_region ?_ | refine wo_nil ?_ | refine wo_move rfl rfl ?_ | refine wo_assign rfl rfl ?_ | refine wo_extract rfl rfl rfl ?_ | refine wo_neq rfl rfl rfl ?_)
      refine wo_is 66 false rfl (decide_eq_false fun h => h rfl) ?_
      repeat (first | refine wo_nil ?_ | refine wo_move rfl rfl ?_ | refine wo_neq rfl rfl rfl ?_ | refine wo_pick rfl rfl rfl ?_ | refine wo_on rfl ?_)
      refine wg_dec rfl (fun _ => ?_) fun h => absurd he h
      repeat (first | refine wg_seq ?_ | refine wg_region ?_ | refine wo_move rfl rfl ?_ | refine wo_eql rfl rfl rfl ?_)
      refine wo_is 73 true rfl (decide_eq_true rfl) ?_
      repeat (first | refine wo_move rfl rfl ?_ | refine wo_on rfl ?_)
      refine wo_binV (a := .nilp) (b := .nilp) (v := .bool true) rfl rfl rfl rfl ?_
      repeat (first | refine wo_nil ?_ | refine wo_assign rfl rfl ?_ | refine wo_pick rfl rfl rfl ?_)
      exact wg_ret rfl rfl
    · exact absurd he' he
  repeat (first | refine wg_seq ?_ | refine wg_region ?_ | refine wo_nil ?_ | refine wo_move rfl rfl ?_ | refine wo_assign rfl rfl ?_ | refine wo_extract rfl rfl rfl ?_)
  refine wo_call rfl rfl orc_cons rfl (rmk_spec o16.wf hr0' hr1' fun n hn => by have := hn40 n hn; omega) ?_
  rintro r A7 ⟨o7, ⟨he', _⟩ | ⟨_, fq, un, us, rfl, ri, hhd⟩⟩
  · exact absurd he he'
  have tr : Tree (newT ns ss).1 := newT_tree (ns := ns) (ss := ss) (Prod.ext rfl he) hsm
  have hi := hi.keep o7
  generalize (newT ns ss).1 = hs at hi tr ri hhd
  have L : TI A A7 f7 f8 fr fm vn fq un us hs s t := ⟨o16.same o7, o7.keep _ _ h7 fun h => h, o7.keep _ _ h8 fun h => h, hi, ri⟩
  repeat (first | refine wg_seq ?_ | refine wg_region ?_ | refine wo_nil ?_ | refine wo_move rfl rfl ?_ | refine wo_assign rfl rfl ?_ | refine wo_extract rfl rfl rfl ?_ | refine wo_neq rfl rfl rfl ?_ | refine wo_pick rfl rfl rfl ?_ | refine wo_on rfl ?_)
  refine wg_dec rfl (fun h => absurd rfl h) fun _ => ?_
  have hcq := L.ri.cell
  have hlen := tr.len
  have hpos : 0 < hs.length := by
    obtain ⟨l, e⟩ := hhd
    rw [e]
    exact Nat.succ_pos _
  repeat (first | refine wg_seq ?_ | refine wg_skip ?_)
  refine wg_draw rfl ?_
  repeat (first
    | (refine wd_pure rfl rfl rfl rfl rfl ?_
       repeat (first | refine wo_nil ?_ | refine wo_move rfl rfl ?_ | refine wo_fieldAddr rfl rfl rfl ?_ | refine wo_nilCheck rfl rfl ?_)
       refine ⟨rfl, ?_⟩)
    | (refine wd_read rfl rfl rfl rfl rfl rfl rfl ?_
       repeat (first | refine wo_nil ?_ | refine wo_load rfl rfl rfl rfl (by assumption) rfl ?_)
       refine ⟨rfl, _, rfl, ?_⟩))
  refine wd_act rfl rfl rfl ?_
  refine wo_call rfl rfl orc_cons rfl (hnames_spec L.o.wf L.hi hpos hlen) ?_
  rintro vN A8 ⟨bN, o8⟩
  have L := L.keep o8
  repeat refine wo_nil ?_
  refine ⟨?_, ?_⟩
  · repeat (first | exact trivial | refine ⟨.inr (stillN rfl L.ri.cell L.ri.n), ?_⟩)
  refine wd_act rfl rfl rfl ?_
  refine wo_call rfl rfl orc_cons rfl (texts_spec (l := hs.map Prod.fst) (by rw [List.length_map]; exact bN.row) L.ri.rn (by rw [List.length_map]; omega)) ?_
  rintro r A9 ⟨rfl, e9⟩
  obtain rfl : A8 = A9 := e9.symm
  repeat refine wo_nil ?_
  refine ⟨?_, ?_⟩
  · repeat (first | exact trivial | refine ⟨.inr (stillN rfl L.ri.cell L.ri.n), ?_⟩)
  repeat (first
    | (refine wd_pure rfl rfl rfl rfl rfl ?_
       repeat (first | refine wo_nil ?_ | refine wo_move rfl rfl ?_ | refine wo_on rfl ?_)
       refine ⟨rfl, ?_⟩))
  refine wd_act rfl rfl rfl ?_
  refine wo_on rfl ?_
  refine wo_call rfl rfl orc_cons rfl (has_spec L.hi) ?_
  rintro r A9 ⟨rfl, e9⟩
  obtain rfl : A8 = A9 := e9.symm
  repeat refine wo_nil ?_
  refine ⟨?_, ?_⟩
  · repeat (first | exact trivial | refine ⟨.inr (stillN rfl L.ri.cell L.ri.n), ?_⟩)
  refine wd_act rfl rfl rfl ?_
  refine wo_on rfl ?_
  refine wo_call rfl rfl orc_cons rfl (at_spec L.ri hlen) ?_
  rintro r A9 ⟨rfl, e9⟩
  obtain rfl : A8 = A9 := e9.symm
  repeat refine wo_nil ?_
  refine ⟨?_, ?_⟩
  · repeat (first | exact trivial | refine ⟨.inr (stillN rfl L.ri.cell L.ri.n), ?_⟩)
  repeat (first
    | (refine wd_pure rfl rfl rfl rfl rfl ?_
       repeat (first | refine wo_nil ?_ | refine wo_move rfl rfl ?_ | refine wo_geq rfl rfl rfl ?_ | refine wo_pick rfl rfl rfl ?_ | refine wo_boolEq rfl rfl rfl rfl ?_ | refine wo_on rfl ?_)
       refine ⟨rfl, ?_⟩))
  have eh : (has hs a == decide (0 ≤ ix (hs.map Prod.fst) a 0)) = true := by
    cases hx : has hs a with
    | true => rw [decide_eq_true ((ix_has hs a).2 hx)]; rfl
    | false => rw [decide_eq_false fun h => by rw [(ix_has hs a).1 h] at hx; cases hx]; rfl
  refine wd_is 94 true rfl eh ?_
  repeat (first
    | (refine wd_pure rfl rfl rfl rfl rfl ?_
       repeat (first | refine wo_nil ?_ | refine wo_move rfl rfl ?_ | refine wo_on rfl ?_)
       refine ⟨rfl, ?_⟩))
  refine wd_act rfl rfl rfl ?_
  refine wo_on rfl ?_
  refine wo_call rfl rfl orc_cons rfl (anc_spec L.o.wf L.hi tr.good hlen) ?_
  rintro r1 A9 ⟨b1, o9, _⟩
  have L := L.keep o9
  repeat refine wo_nil ?_
  refine ⟨?_, ?_⟩
  · repeat (first | exact trivial | refine ⟨.inr (stillN rfl L.ri.cell L.ri.n), ?_⟩)
  refine wd_act rfl rfl rfl ?_
  refine wo_on rfl ?_
  refine wo_call rfl rfl orc_cons rfl (ranc_spec L.o.wf L.ri tr.good tr.ups hhd hlen) ?_
  rintro r2 A10 ⟨b2, o10, _⟩
  have L := L.keep o10
  have b1 := b1.keep o10 fun _ _ h => h
  repeat refine wo_nil ?_
  refine ⟨?_, ?_⟩
  · repeat (first | exact trivial | refine ⟨.inr (stillN rfl L.ri.cell L.ri.n), ?_⟩)
  refine wd_act rfl rfl rfl ?_
  refine wo_on rfl ?_
  refine wo_call rfl rfl orc_cons rfl (texts_spec b1.row b2.row (by have := anc_len hs a; omega)) ?_
  rintro r A11 ⟨rfl, e9⟩
  obtain rfl : A10 = A11 := e9.symm
  repeat refine wo_nil ?_
  refine ⟨?_, ?_⟩
  · repeat (first | exact trivial | refine ⟨.inr (stillN rfl L.ri.cell L.ri.n), ?_⟩)
  repeat (first
    | (refine wd_pure rfl rfl rfl rfl rfl ?_
       repeat (first | refine wo_nil ?_ | refine wo_move rfl rfl ?_ | refine wo_pick rfl rfl rfl ?_ | refine wo_on rfl ?_)
       refine ⟨rfl, ?_⟩))
  refine wd_act rfl rfl rfl ?_
  refine wo_on rfl ?_
  refine wo_call rfl rfl orc_cons rfl (sub_spec L.o.wf L.hi tr.good hlen) ?_
  rintro r A11 ⟨rfl, o11⟩
  have L := L.keep o11
  repeat refine wo_nil ?_
  refine ⟨?_, ?_⟩
  · repeat (first | exact trivial | refine ⟨.inr (stillN rfl L.ri.cell L.ri.n), ?_⟩)
  refine wd_act rfl rfl rfl ?_
  refine wo_on rfl ?_
  refine wo_call rfl rfl orc_cons rfl (rsub_spec L.o.wf L.ri tr.good tr.ups hhd hlen) ?_
  rintro r A12 ⟨rfl, o12⟩
  have L := L.keep o12
  repeat refine wo_nil ?_
  refine ⟨?_, ?_⟩
  · repeat (first | exact trivial | refine ⟨.inr (stillN rfl L.ri.cell L.ri.n), ?_⟩)
  repeat (first
    | (refine wd_pure rfl rfl rfl rfl rfl ?_
       repeat (first | refine wo_nil ?_ | refine wo_move rfl rfl ?_ | refine wo_pick rfl rfl rfl ?_ | refine wo_boolEq rfl rfl rfl rfl ?_ | refine wo_on rfl ?_)
       refine ⟨rfl, ?_⟩))
  refine wd_is 114 true rfl (by simp) ?_
  repeat (first
    | (refine wd_pure rfl rfl rfl rfl rfl ?_
       repeat (first | refine wo_nil ?_ | refine wo_move rfl rfl ?_ | refine wo_on rfl ?_)
       refine ⟨rfl, ?_⟩))
  refine wd_act rfl rfl rfl ?_
  refine wo_on rfl ?_
  refine wo_call rfl rfl orc_cons rfl (com_spec L.o.wf L.hi tr.good hlen) ?_
  rintro r A13 ⟨rfl, o13'⟩
  have L := L.keep o13'
  repeat refine wo_nil ?_
  refine ⟨?_, ?_⟩
  · repeat (first | exact trivial | refine ⟨.inr (stillN rfl L.ri.cell L.ri.n), ?_⟩)
  refine wd_act rfl rfl rfl ?_
  refine wo_on rfl ?_
  refine wo_call rfl rfl orc_cons rfl (rcom_spec L.o.wf L.ri tr.good tr.ups hhd hlen) ?_
  rintro r A14 ⟨rfl, o14⟩
  have L := L.keep o14
  repeat refine wo_nil ?_
  refine ⟨?_, ?_⟩
  · repeat (first | exact trivial | refine ⟨.inr (stillN rfl L.ri.cell L.ri.n), ?_⟩)
  repeat (first
    | (refine wd_pure rfl rfl rfl rfl rfl ?_
       repeat (first | refine wo_nil ?_ | refine wo_move rfl rfl ?_ | refine wo_pick rfl rfl rfl ?_ | refine wo_strEq rfl rfl rfl ?_ | refine wo_on rfl ?_)
       refine ⟨rfl, ?_⟩))
  refine wd_is 125 true rfl (decide_eq_true rfl) ?_
  repeat (first
    | (refine wd_pure rfl rfl rfl rfl rfl ?_
       repeat (first | refine wo_nil ?_ | refine wo_move rfl rfl ?_ | refine wo_on rfl ?_)
       refine ⟨rfl, ?_⟩))
  refine wd_read rfl rfl rfl rfl rfl rfl rfl ?_
  try refine wo_on rfl ?_
  refine wo_loadN rfl rfl rfl rfl L.h7 rfl ?_
  repeat refine wo_nil ?_
  refine ⟨rfl, _, rfl, ?_⟩
  refine wd_read rfl rfl rfl rfl rfl rfl rfl ?_
  try refine wo_on rfl ?_
  refine wo_loadN rfl rfl rfl rfl L.h8 rfl ?_
  repeat refine wo_nil ?_
  refine ⟨rfl, _, rfl, ?_⟩
  repeat (first
    | (refine wd_pure rfl rfl rfl rfl rfl ?_
       repeat (first | refine wo_nil ?_ | refine wo_move rfl rfl ?_ | refine wo_on rfl ?_)
       refine ⟨rfl, ?_⟩))
  refine wd_read rfl rfl rfl rfl rfl rfl rfl ?_
  try refine wo_on rfl ?_
  refine wo_loadN rfl rfl rfl rfl L.h7 rfl ?_
  repeat refine wo_nil ?_
  refine ⟨rfl, _, rfl, ?_⟩
  refine wd_read rfl rfl rfl rfl rfl rfl rfl ?_
  try refine wo_on rfl ?_
  refine wo_loadN rfl rfl rfl rfl L.h8 rfl ?_
  repeat refine wo_nil ?_
  refine ⟨rfl, _, rfl, ?_⟩
  refine wd_act rfl rfl rfl ?_
  refine wo_on rfl ?_
  refine wo_call rfl rfl orc_cons rfl (fits_spec (x := s) (y := t) L.o.wf L.hi tr.good hlen) ?_
  rintro r A15 ⟨rfl, o15'⟩
  have L := L.keep o15'
  repeat refine wo_nil ?_
  refine ⟨?_, ?_⟩
  · repeat (first | exact trivial | refine ⟨.inr (stillLd rfl L.h7), ?_⟩ | refine ⟨.inr (stillLd rfl L.h8), ?_⟩ | refine ⟨.inr (stillN rfl L.ri.cell L.ri.n), ?_⟩)
  refine wd_act rfl rfl rfl ?_
  refine wo_on rfl ?_
  refine wo_call rfl rfl orc_cons rfl (rfits_spec (x := s) (y := t) L.o.wf L.ri tr.good tr.ups hhd hlen) ?_
  rintro r A16 ⟨rfl, o16'⟩
  have L := L.keep o16'
  repeat refine wo_nil ?_
  refine ⟨?_, ?_⟩
  · repeat (first | exact trivial | refine ⟨.inr (stillLd rfl L.h7), ?_⟩ | refine ⟨.inr (stillLd rfl L.h8), ?_⟩ | refine ⟨.inr (stillN rfl L.ri.cell L.ri.n), ?_⟩)
  repeat (first
    | (refine wd_pure rfl rfl rfl rfl rfl ?_
       repeat (first | refine wo_nil ?_ | refine wo_move rfl rfl ?_ | refine wo_pick rfl rfl rfl ?_ | refine wo_boolEq rfl rfl rfl rfl ?_ | refine wo_on rfl ?_)
       refine ⟨rfl, ?_⟩))
  refine wd_is 136 true rfl (by simp) ?_
  repeat (first
    | (refine wd_pure rfl rfl rfl rfl rfl ?_
       repeat (first | refine wo_nil ?_ | refine wo_move rfl rfl ?_ | refine wo_on rfl ?_)
       refine ⟨rfl, ?_⟩))
  refine wd_read rfl rfl rfl rfl rfl rfl rfl ?_
  try refine wo_on rfl ?_
  refine wo_loadN rfl rfl rfl rfl L.h7 rfl ?_
  repeat refine wo_nil ?_
  refine ⟨rfl, _, rfl, ?_⟩
  refine wd_read rfl rfl rfl rfl rfl rfl rfl ?_
  try refine wo_on rfl ?_
  refine wo_loadN rfl rfl rfl rfl L.h8 rfl ?_
  repeat refine wo_nil ?_
  refine ⟨rfl, _, rfl, ?_⟩
  repeat (first
    | (refine wd_pure rfl rfl rfl rfl rfl ?_
       repeat (first | refine wo_nil ?_ | refine wo_move rfl rfl ?_ | refine wo_on rfl ?_)
       refine ⟨rfl, ?_⟩))
  refine wd_read rfl rfl rfl rfl rfl rfl rfl ?_
  try refine wo_on rfl ?_
  refine wo_loadN rfl rfl rfl rfl L.h7 rfl ?_
  repeat refine wo_nil ?_
  refine ⟨rfl, _, rfl, ?_⟩
  refine wd_read rfl rfl rfl rfl rfl rfl rfl ?_
  try refine wo_on rfl ?_
  refine wo_loadN rfl rfl rfl rfl L.h8 rfl ?_
  repeat refine wo_nil ?_
  refine ⟨rfl, _, rfl, ?_⟩
  refine wd_act rfl rfl rfl ?_
  refine wo_on rfl ?_
  refine wo_call rfl rfl orc_cons rfl (merge_spec (x := s) (y := t) L.o.wf L.hi tr.good hlen sa sb) ?_
  rintro r A17 ⟨rfl, o17⟩
  have L := L.keep o17
  repeat refine wo_nil ?_
  refine ⟨?_, ?_⟩
  · repeat (first | exact trivial | refine ⟨.inr (stillLd rfl L.h7), ?_⟩ | refine ⟨.inr (stillLd rfl L.h8), ?_⟩ | refine ⟨.inr (stillN rfl L.ri.cell L.ri.n), ?_⟩)
  refine wd_act rfl rfl rfl ?_
  refine wo_on rfl ?_
  refine wo_call rfl rfl orc_cons rfl (rmerge_spec (x := s) (y := t) L.o.wf L.ri tr hhd sa sb) ?_
  rintro r A18 ⟨rfl, o18⟩
  have L := L.keep o18
  repeat refine wo_nil ?_
  refine ⟨?_, ?_⟩
  · repeat (first | exact trivial | refine ⟨.inr (stillLd rfl L.h7), ?_⟩ | refine ⟨.inr (stillLd rfl L.h8), ?_⟩ | refine ⟨.inr (stillN rfl L.ri.cell L.ri.n), ?_⟩)
  refine wd_pure rfl rfl rfl rfl rfl ?_
  refine wo_on rfl ?_
  refine wo_tyEq (a := mergeT hs s t) (b := mergeT hs s t) rfl rfl rfl (merge_small tr sa sb) (merge_small tr sa sb) ?_
  repeat refine wo_nil ?_
  refine ⟨rfl, ?_⟩
  repeat (first
    | (refine wd_pure rfl rfl rfl rfl rfl ?_
       repeat (first | refine wo_nil ?_ | refine wo_move rfl rfl ?_ | refine wo_pick rfl rfl rfl ?_)
       refine ⟨rfl, ?_⟩))
  refine wd_is 147 true rfl (decide_eq_true rfl) ?_
  refine wd_read rfl rfl rfl rfl rfl rfl rfl ?_
  try refine wo_on rfl ?_
  refine wo_loadN rfl rfl rfl rfl L.h7 rfl ?_
  repeat refine wo_nil ?_
  refine ⟨rfl, _, rfl, ?_⟩
  refine wd_read rfl rfl rfl rfl rfl rfl rfl ?_
  try refine wo_on rfl ?_
  refine wo_loadN rfl rfl rfl rfl L.h7 rfl ?_
  repeat refine wo_nil ?_
  refine ⟨rfl, _, rfl, ?_⟩
  refine wd_act rfl rfl rfl ?_
  refine wo_on rfl ?_
  refine wo_call rfl rfl orc_cons rfl (words_spec (x := s) L.o.wf) ?_
  rintro r A19 ⟨rfl, o19⟩
  have L := L.keep o19
  repeat refine wo_nil ?_
  refine ⟨?_, ?_⟩
  · repeat (first | exact trivial | refine ⟨.inr (stillLd rfl L.h7), ?_⟩ | refine ⟨.inr (stillLd rfl L.h8), ?_⟩ | refine ⟨.inr (stillN rfl L.ri.cell L.ri.n), ?_⟩)
  refine wd_act rfl rfl rfl ?_
  refine wo_on rfl ?_
  refine wo_call rfl rfl orc_cons rfl (rwords_spec (x := s) L.o.wf) ?_
  rintro r A20 ⟨rfl, o20⟩
  have L := L.keep o20
  repeat refine wo_nil ?_
  refine ⟨?_, ?_⟩
  · repeat (first | exact trivial | refine ⟨.inr (stillLd rfl L.h7), ?_⟩ | refine ⟨.inr (stillLd rfl L.h8), ?_⟩ | refine ⟨.inr (stillN rfl L.ri.cell L.ri.n), ?_⟩)
  repeat (first
    | (refine wd_pure rfl rfl rfl rfl rfl ?_
       repeat (first | refine wo_nil ?_ | refine wo_eql rfl rfl rfl ?_ | refine wo_pick rfl rfl rfl ?_ | refine wo_on rfl ?_)
       refine ⟨rfl, ?_⟩))
  refine wd_act rfl rfl rfl ?_
  repeat (first | refine wo_nil ?_ | refine wo_assign rfl rfl ?_)
  refine ⟨?_, wd_nil ?_⟩
  · repeat (first | exact trivial | refine ⟨.inr (stillLd rfl L.h7), ?_⟩ | refine ⟨.inr (stillLd rfl L.h8), ?_⟩ | refine ⟨.inr (stillN rfl L.ri.cell L.ri.n), ?_⟩)
  exact wg_ret rfl (congrArg AV.bool (decide_eq_true rfl))
end Go.Proofs.Ytokieeiohfcgdaa.Ae
