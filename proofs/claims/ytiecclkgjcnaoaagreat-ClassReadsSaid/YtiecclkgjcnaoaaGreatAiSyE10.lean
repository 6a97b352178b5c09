/-
  THE DOCUMENT'S WRITING, by the rules: a constant; how long things are.
  THE DOCUMENT'S WRITING: what a class's bytes are, how long they are; what holds under way.
-/
import Derived.Test.YtiecclkgjcnaoaaGreatAiSyW15
import Derived.Test.YtiecclkgjcnaoaaGreatAiSyE3
namespace Go.Proofs.YtiecclkgjcnaoaaGreat.Ae
open Go.AE
set_option linter.unusedVariables false
set_option maxRecDepth 100000
theorem stillStr {s : Str} : valEq (.str s) (.str s) = true := by
  exact strEq_self s
theorem stillLen {K : FuncId} {C : FnE} {l : Kn} {A : AW} {d : Option Tmp} {t : Tmp} {pos : String} {ty T : TypeId} {after : Array Edge} {gd : Option (Nat × Bool)} {v : AV} {n : Nat} (ht : R.lenKind (ES K) T = 2) (hl : l.find t = some v) (hn : lenV v = some n) :
    (∀ F, Kf C l F → execA (ES K) F ⟨d, .call ⟨.builtin .len, #[.tmp t], #[T]⟩, ty, pos, after, gd⟩ A = .val (.int .i64 (n : Int)) A) ∧ valEq (.int .i64 (n : Int)) (.int .i64 (n : Int)) = true := by
  refine ⟨fun F hF => ?_, stillInt⟩
  show liftR (lenA (ES K) T (ev F (.tmp t)) A) = _
  rw [hF.ev (x := .tmp t) (v := v) hl, lenA_eq ht hn]
  rfl
def encCo (c : CoT) : List Nat :=
  c.kind.toNat :: (if c.kind = 1 then grp (zz c.int) else if c.kind = 2 then from8 8 0 c.x.1 ++ from8 8 0 c.x.2 else if c.kind = 3 then encS c.cls else encS c.cls ++ encS c.name)
theorem encS_len {s : Str} (h : s.length ≤ 20) : (encS s).length ≤ 21 := by
  unfold encS
  rw [grp_lt (by omega), List.length_append, List.length_singleton]
  omega
theorem isN_len {s : Str} (h : isN s) : s.length ≤ 20 := h.2.1
theorem coOk_cls {c : CoT} (h : coOk c) : c.cls.length ≤ 20 := by
  rcases h.2.2.2.1 with h3 | h3
  · exact isN_len (h.2.2.2.2.2.1 h3)
  · rw [h3]; exact Nat.zero_le _
theorem coOk_name {c : CoT} (h : coOk c) : c.name.length ≤ 20 := by
  rcases h.2.2.2.2.1 with h3 | h3
  · exact isN_len (h.2.2.2.2.2.2 h3)
  · rw [h3]; exact Nat.zero_le _
def intR (z : Int) : Prop := -9223372036854775808 ≤ z ∧ z < 9223372036854775808
theorem encCo_len {c : CoT} (h : coOk c) (hi : intR c.int) : (encCo c).length ≤ 43 := by
  unfold encCo
  have h1 := encS_len (coOk_cls h)
  have h2 := encS_len (coOk_name h)
  have h3 := grp_len10 (n := zz c.int) (by have := zz_lt hi.1 hi.2; omega)
  rw [List.length_cons]
  split
  · omega
  split
  · rw [List.length_append, from8_len, from8_len]; decide
  split
  · omega
  · rw [List.length_append]; omega
theorem hold_es {A A1 : AW} {v v' : AV} {bs xs : List Nat} {f t es : Nat} {ro : Bool} {cs : List AV} (k : BStep A A1 v v' bs xs) (h : Buf A 1 v bs.length (bys bs)) (hf : A.heap.get f = some (.cells t ro es cs)) (he : es ≠ 1) : A1.heap.get f = some (.cells t ro es cs) :=
  k.only.keep _ _ hf fun hg => by
    obtain ⟨t', ro', all', e2⟩ := row_fam h.row hg
    rw [hf] at e2
    cases e2
    exact he rfl
set_option maxHeartbeats 4000000 in
theorem rcw_spec {K : FuncId} {A : AW} {v : AV} {bs : List Nat} {c : CoT} (hw : Wf A) (h : Buf A 1 v bs.length (bys bs)) (hl : bs.length < 90000) (hc : coOk c) (hi : intR c.int) :
    CallP (ES K) 80 [v, .agg (coc c)] A fun r A1 => BStep A A1 v r bs (encCo c) := by
  have l1 := coOk_cls hc
  have l2 := coOk_name hc
  obtain ⟨k, z, x, s, n⟩ := c
  have hk : 1 ≤ k ∧ k ≤ 5 := hc.1
  obtain ⟨q, rfl⟩ : ∃ q : Nat, k = (q : Int) := ⟨k.toNat, by omega⟩
  refine call_of rfl rfl rfl ?_
  unfold coc
  repeat (first | refine qO ?_ | refine qA ?_)
  refine wo_box rfl rfl rfl rfl ?_
  refine wo_A (fun A1 => Only A A1 none' ∧ A1.heap.get A.nxt = some (.cells 0 false 5 [.int .i64 (q : Int), .int .i64 z, .cplx .f64 x.1 x.2, .str s, .str n])) ⟨Only.add hw _, by rw [AW.add_get, if_pos rfl]; rfl⟩ ?_
  rintro A1 ⟨o1, hx⟩
  have h1 := h.keep o1 fun _ _ h => h
  generalize A.nxt = fx at hx
  repeat (first | refine qO ?_ | refine qA ?_ | refine qG ?_ | refine qJ rfl rfl ?_ | refine qE rfl rfl ?_ | refine qI rfl rfl rfl ?_ | refine qP rfl rfl rfl rfl (by assumption) rfl ?_)
  refine wo_conv rfl rfl rfl rfl (q : Int) (by rw [wrap_u8n, Nat.mod_eq_of_lt (by omega)]) ?_
  refine wo_buildSlice rfl rfl rfl ?_
  refine wo_append rfl rfl rfl rfl rfl (append_one (n := bs.length) (de := d5) rfl rfl rfl rfl o1.wf h1 rfl (by decide) (room_of (by omega) (by decide))) ?_
  intro v2 A2 g
  have k1 : BStep A A2 v v2 bs [q] := BStep.of o1 (xs := [q]) g
  have k1' : BStep A1 A2 v v2 bs [q] := BStep.of (Only.refl o1.wf _) (xs := [q]) g
  have hx := hold_es k1' h1 hx (by decide)
  have hb : (bs ++ [q]).length < 90001 := by rw [List.length_append, List.length_singleton]; omega
  have l1 : s.length ≤ 20 := l1
  have l2 : n.length ≤ 20 := l2
  have htn : encCo ⟨(q : Int), z, x, s, n⟩ = [q] ++ (if (q : Int) = 1 then grp (zz z) else if (q : Int) = 2 then from8 8 0 x.1 ++ from8 8 0 x.2 else if (q : Int) = 3 then encS s else encS s ++ encS n) := by
    unfold encCo
    simp
  rw [htn]
  repeat (first | refine qO ?_ | refine qY ?_ | refine qA ?_ | refine qG ?_ | refine qE rfl rfl ?_ | refine qI rfl rfl rfl ?_ | refine qP rfl rfl rfl rfl (by assumption) rfl ?_ | refine xD rfl rfl rfl ?_)
  refine qV rfl (fun c1 => ?_) fun c1 => ?_
  · rw [if_pos c1]
    repeat (first | refine qO ?_ | refine qA ?_ | refine qJ rfl rfl ?_ | refine qI rfl rfl rfl ?_ | refine qP rfl rfl rfl rfl (by assumption) rfl ?_)
    refine qU rfl rfl orc_cons rfl (refInt_spec (z := z) k1.only.wf k1.buf (by omega) hi.1 hi.2) ?_
    intro r A3 k2
    repeat (first | refine qG ?_ | refine qE rfl rfl ?_)
    exact qQ rfl (k1.trans hw k2)
  rw [if_neg c1]
  repeat (first | refine qO ?_ | refine qA ?_ | refine qG ?_ | refine qE rfl rfl ?_ | refine xD rfl rfl rfl ?_)
  refine qV rfl (fun c2 => ?_) fun c2 => ?_
  · rw [if_pos c2]
    repeat (first | refine qO ?_ | refine qA ?_ | refine qJ rfl rfl ?_ | refine qI rfl rfl rfl ?_ | refine qP rfl rfl rfl rfl (by assumption) rfl ?_)
    refine qU rfl rfl orc_cons rfl (refCplx_spec (a := x.1) (b := x.2) k1.only.wf k1.buf (by omega)) ?_
    intro r A3 k2
    repeat (first | refine qG ?_ | refine qE rfl rfl ?_)
    exact qQ rfl (k1.trans hw k2)
  rw [if_neg c2]
  repeat (first | refine qO ?_ | refine qA ?_ | refine qG ?_ | refine qE rfl rfl ?_ | refine xD rfl rfl rfl ?_)
  refine qV rfl (fun c3 => ?_) fun c3 => ?_
  · rw [if_pos c3]
    repeat (first | refine qO ?_ | refine qA ?_ | refine qJ rfl rfl ?_ | refine qI rfl rfl rfl ?_ | refine qP rfl rfl rfl rfl (by assumption) rfl ?_)
    refine qU rfl rfl orc_cons rfl (refText_spec (s := s) k1.only.wf k1.buf (by omega) (by omega)) ?_
    intro r A3 k2
    repeat (first | refine qG ?_ | refine qE rfl rfl ?_)
    exact qQ rfl (k1.trans hw k2)
  rw [if_neg c3]
  repeat (first | refine qO ?_ | refine qS ?_ | refine xB ?_)
  refine wg_draw rfl ?_
  repeat (first
    | (refine xC rfl rfl rfl rfl rfl ?_
       repeat (first | refine qG ?_ | refine qJ rfl rfl ?_ | refine qI rfl rfl rfl ?_)
       refine ⟨rfl, ?_⟩)
    | (refine xI rfl rfl rfl rfl rfl rfl rfl ?_
       repeat (first | refine qG ?_ | refine qP rfl rfl rfl rfl (by assumption) rfl ?_)
       refine ⟨rfl, _, rfl, ?_⟩))
  refine wd_act rfl rfl rfl ?_
  refine qU rfl rfl orc_cons rfl (refText_spec (s := s) k1.only.wf k1.buf (by omega) (by omega)) ?_
  intro r A3 k2
  have k12 := k1.trans hw k2
  have hx := hold_es k2 k1.buf hx (by decide)
  have hb3 : ((bs ++ [q]) ++ encS s).length < 90100 := by rw [List.length_append]; have := encS_len l1; omega
  repeat refine qG ?_
  refine ⟨?_, ?_⟩
  · repeat (first | exact trivial | refine ⟨.inl (by dsimp only; rfl), ?_⟩ | refine ⟨.inr (stillG rfl rfl rfl (by assumption) (by first | rfl | assumption) (by first | exact stillInt | exact stillStr | exact Full.still (by assumption))), ?_⟩)
  refine wd_act rfl rfl rfl ?_
  refine qU rfl rfl orc_cons rfl (refText_spec (s := n) k2.only.wf k2.buf (by show ((bs ++ [q]) ++ encS s).length < _; omega) (by omega)) ?_
  intro r A4 k3
  repeat refine qG ?_
  have hx := hold_es k3 k2.buf hx (by decide)
  refine ⟨?_, ?_⟩
  · repeat (first | exact trivial | refine ⟨.inl (by dsimp only; rfl), ?_⟩)
  refine wd_act rfl rfl rfl ?_
  repeat (first | refine qG ?_ | refine qE rfl rfl ?_)
  refine ⟨?_, ?_⟩
  · repeat (first | exact trivial | refine ⟨.inl (by dsimp only; rfl), ?_⟩)
  refine wd_nil ?_
  refine qQ rfl (k1.trans hw ?_)
  exact k2.trans k1.only.wf k3
end Go.Proofs.YtiecclkgjcnaoaaGreat.Ae
namespace Go.Proofs.YtiecclkgjcnaoaaGreat.Ae
open Go.AE
set_option linter.unusedVariables false
set_option maxRecDepth 100000
def encF (f : FiT) : List Nat := encS f.name ++ (encK f.ty ++ [if f.vol = true then 1 else 0])
def encH (h : HaT) : List Nat := grp h.lo.toNat ++ (grp h.hi.toNat ++ (grp h.tg.toNat ++ (grp (h.cl + 1).toNat ++ grp h.de.toNat)))
def encM (m : MeT) : List Nat :=
  encS m.name ++ (grp m.params.length ++ (m.params.flatMap encK ++ (encK m.ret ++ (grp m.locals.toNat ++ (grp m.stack.toNat ++ (grp (putL m.code).1.length ++ ((putL m.code).1 ++ (grp m.hands.length ++ m.hands.flatMap encH))))))))
def encP (c : ClT) : List Nat := [76, 79, 79, 77, 1] ++ (encS c.name ++ (encS c.super ++ grp c.pool.length))
def encC (c : ClT) : List Nat :=
  encP c ++ (c.pool.flatMap encCo ++ (grp c.fields.length ++ (c.fields.flatMap encF ++ (grp c.methods.length ++ c.methods.flatMap encM))))
theorem flatK_le {α : Type} {f : α → List Nat} {k : Nat} : ∀ {l : List α}, (∀ x ∈ l, (f x).length ≤ k) → (l.flatMap f).length ≤ l.length * k
  | [], _ => Nat.zero_le _
  | x :: l, h => by
    rw [List.flatMap_cons, List.length_append, List.length_cons, Nat.add_mul, Nat.one_mul, Nat.add_comm]
    exact Nat.add_le_add (flatK_le fun y hy => h y (List.mem_cons_of_mem _ hy)) (h x (List.mem_cons_self ..))
theorem flatT_le {α : Type} {f : α → List Nat} {k : Nat} {l : List α} (i : Nat) (h : ∀ x ∈ l, (f x).length ≤ k) : ((l.take i).flatMap f).length ≤ l.length * k :=
  Nat.le_trans (flatK_le fun x hx => h x (List.mem_of_mem_take hx)) (Nat.mul_le_mul_right _ (by rw [List.length_take]; omega))
theorem flat_snoc {α : Type} {f : α → List Nat} {l : List α} {i : Nat} {x : α} (h : l[i]? = some x) : (l.take (i + 1)).flatMap f = (l.take i).flatMap f ++ f x := by
  rw [List.take_add_one, h, Option.toList_some, List.flatMap_append, List.flatMap_cons, List.flatMap_nil, List.append_nil]
theorem tyOk_len {void : Bool} {t : Ty'} (h : tyOk void t) : t.2.length ≤ 20 := by
  unfold tyOk at h
  split at h
  · rw [h]; exact Nat.zero_le _
  · split at h
    · exact isN_len h
    · rw [h.2.2]; exact Nat.zero_le _
theorem encK_len {void : Bool} {t : Ty'} (h : tyOk void t) : (encK t).length ≤ 22 := by
  unfold encK
  have := encS_len (tyOk_len h)
  rw [List.length_cons]
  split
  · omega
  · exact Nat.le_trans (Nat.le_refl 1) (by decide)
theorem grp_le {n : Nat} (h : n < 18446744073709551616) : (grp n).length ≤ 10 := grp_len10 (by omega)
theorem encF_len {a : List FiT} {f : FiT} (h : fiOk a f) : (encF f).length ≤ 44 := by
  unfold encF
  rw [List.length_append, List.length_append, List.length_singleton]
  have := encS_len (isN_len h.1.1)
  have := encK_len h.1.2
  omega
theorem haOk_fit {pool : List CoT} {n : Nat} {h : HaT} (hp : pool.length ≤ 128) (hn : n ≤ 200) (k : haOk pool n h) : ∃ a b c d e : Nat, h = ⟨(a : Int), (b : Int), (c : Int), (d : Int) - 1, (e : Int)⟩ ∧ a ≤ 200 ∧ b ≤ 200 ∧ c ≤ 200 ∧ d ≤ 200 ∧ e ≤ 200 := by
  obtain ⟨lo, hi, tg, cl, de⟩ := h
  obtain ⟨⟨h1, h2, h3, h4, h5⟩, ⟨h6, h7, _⟩, h8, h9⟩ := k
  simp only at h1 h2 h3 h4 h5 h6 h7 h8 h9
  refine ⟨lo.toNat, hi.toNat, tg.toNat, (cl + 1).toNat, de.toNat, ?_, by omega, by omega, by omega, by omega, by omega⟩
  rw [HaT.mk.injEq]
  omega
theorem encH_len {pool : List CoT} {n : Nat} {h : HaT} (hp : pool.length ≤ 128) (hn : n ≤ 200) (k : haOk pool n h) : (encH h).length ≤ 50 := by
  obtain ⟨a, b, c, d, e, rfl, h1, h2, h3, h4, h5⟩ := haOk_fit hp hn k
  unfold encH
  simp only [List.length_append]
  have := grp_le (n := (a : Int).toNat) (by omega)
  have := grp_le (n := (b : Int).toNat) (by omega)
  have := grp_le (n := (c : Int).toNat) (by omega)
  have := grp_le (n := ((d : Int) - 1 + 1).toNat) (by omega)
  have := grp_le (n := (e : Int).toNat) (by omega)
  omega
theorem bodyOk_put {pool : List CoT} {m : MeT} (h : bodyOk pool m) : putL m.code = (grp m.code.length ++ m.code.flatMap encI, 0) := by
  unfold putL
  rw [if_neg (by have := h.1.2; omega), if_neg]
  rintro ⟨x, hx, hn⟩
  exact hn (h.2.1 x hx).1
theorem bodyOk_len {pool : List CoT} {m : MeT} (h : bodyOk pool m) : (putL m.code).1.length ≤ 2210 := by
  rw [bodyOk_put h, List.length_append]
  have h1 := h.1.2
  have h2 := grp_le (n := m.code.length) (by omega)
  have h3 := flatK_le (f := encI) (k := 11) (l := m.code) fun x hx => encI_len (h.2.1 x hx).1
  have := Nat.mul_le_mul_right 11 h1
  omega
theorem encM_len {pool : List CoT} {a : List MeT} {m : MeT} (hp : pool.length ≤ 128) (h : methOk pool a m) : (encM m).length ≤ 4000 := by
  obtain ⟨h1, h2, h3, h4, h5, h6, h7, h8⟩ := h
  unfold encM
  simp only [List.length_append]
  have := encS_len (isN_len h1)
  have := grp_le (n := m.params.length) (by omega)
  have := flatK_le (f := encK) (k := 22) (l := m.params) fun x hx => encK_len (h3 x hx)
  have := encK_len h4
  have := grp_le (n := m.locals.toNat) (by omega)
  have := grp_le (n := m.stack.toNat) (by omega)
  have := bodyOk_len h8
  have := grp_le (n := (putL m.code).1.length) (by omega)
  have h9 := h8.2.2.2.1
  have := grp_le (n := m.hands.length) (by omega)
  have := flatK_le (f := encH) (k := 50) (l := m.hands) fun x hx => encH_len hp h8.1.2 (h8.2.2.2.2 x hx)
  omega
theorem encP_len {c : ClT} (h : clsOk c) : (encP c).length ≤ 60 := by
  obtain ⟨h1, h2, h3, _⟩ := h
  unfold encP
  simp only [List.length_append, List.length_cons, List.length_nil]
  have := encS_len (isN_len h1)
  have := encS_len (s := c.super) (by
    rcases h2 with h2 | h2
    · rw [h2]; exact Nat.zero_le _
    · exact isN_len h2)
  have := grp_le (n := c.pool.length) (by omega)
  omega
theorem rtxt_spec {K : FuncId} {A : AW} {v : AV} {bs s : List Nat} (hw : Wf A) (h : Buf A 1 v bs.length (bys bs)) (hl : bs.length < 1000000) (hs : s.length < 1000000) :
    CallP (ES K) 79 [v, .str s] A fun r A1 => BStep A A1 v r bs (encS s) := refText_spec hw h hl hs
theorem rnumZ_spec {K : FuncId} {A : AW} {v : AV} {bs : List Nat} {z : Int} (hw : Wf A) (h : Buf A 1 v bs.length (bys bs)) (hl : bs.length < 1000000000000) (h0 : 0 ≤ z) (h1 : z < 9223372036854775808) :
    CallP (ES K) 78 [v, .int .i64 z] A fun r A1 => BStep A A1 v r bs (grp z.toNat) := by
  obtain ⟨n, rfl⟩ : ∃ n : Nat, z = (n : Int) := ⟨z.toNat, by omega⟩
  exact rnum_spec hw h hl (by omega)
theorem EB.lit {A A1 A2 : AW} {f n : Nat} {v : AV} {bs xs : List Nat} (hw : Wf A) (o : Only A A1 none') (hf : A.nxt ≤ f) (k : BStep A1 A2 (.slice f 0 0 n n true) v bs xs) : EB A A2 v (bs ++ xs) :=
  ⟨k.buf, Only.fresh hw o k.only fun g hg => by cases hg; exact hf, fun g hg => (k.grow g hg).elim (fun h => by cases h; exact hf) fun h => Nat.le_trans o.nxt h⟩
theorem hold_row {A A1 : AW} {v v' x : AV} {bs xs : List Nat} {n : Nat} {cs : List AV} (hw : Wf A) (k : BStep A A1 v v' bs xs) (hx : Buf A 1 x n cs) (hd : Disj x.isFam v.isFam) : Buf A1 1 x n cs ∧ Disj x.isFam v'.isFam :=
  ⟨hx.keep k.only hd, fun g hg hv => (k.grow g hv).elim (hd g hg) fun h => by
    have := hx.row.under hw g hg
    omega⟩
theorem hold_lit {A A1 : AW} {v v' : AV} {bs xs : List Nat} {f : Nat} {F : AFam} (hw : Wf A) (k : BStep A A1 v v' bs xs) (hv : A.heap.get f = some F) (nv : ¬ v.isFam f) : A1.heap.get f = some F ∧ ¬ v'.isFam f :=
  ⟨k.only.keep _ _ hv nv, fun h => (k.grow f h).elim nv fun h => by
    have := hw f F hv
    omega⟩
theorem BStep.one {A A1 : AW} {v v' : AV} {bs : List Nat} {b : Nat} (g : Grew A A1 1 v v' (bs.length + 1) (bys bs ++ [.int .u8 (b : Int)])) : BStep A A1 v v' bs [b] :=
  BStep.of' g (by rw [List.length_append, List.length_singleton]) (by rw [bys_append]; rfl)
theorem avsTy {x : Ty'} : valEq (.agg (tyc x)) (.agg (tyc x)) = true := by
  obtain ⟨k, s⟩ := x
  have h1 : avEq (.int .i64 k) (.int .i64 k) = true := stillInt (k := .i64) (n := k)
  have h2 : avEq (.str s) (.str s) = true := stillStr (s := s)
  show avsEq [.int .i64 k, .str s] [.int .i64 k, .str s] = true
  simp only [avsEq, h1, h2]
  rfl
theorem stillTy {K : FuncId} {C : FnE} {l : Kn} {A : AW} {d : Option Tmp} {t : Tmp} {pos : String} {ty : TypeId} {after : Array Edge} {gd : Option (Nat × Bool)} {f s o es : Nat} {ro : Bool} {cs : List AV} {x : Ty'} (hl : l.find t = some (.ptr f s o)) (hf : A.heap.get f = some (.cells s ro es cs)) (hn : takeN 2 (dropN o cs) = some (tyc x)) :
    (∀ F, Kf C l F → execA (ES K) F ⟨d, .load 43 (.tmp t), ty, pos, after, gd⟩ A = .val (.agg (tyc x)) A) ∧ valEq (.agg (tyc x)) (.agg (tyc x)) = true := by
  refine ⟨fun F hF => ?_, avsTy⟩
  show liftR (loadA (ES K) 43 (ev F (.tmp t)) A) = _
  rw [hF.ev (x := .tmp t) (v := .ptr f s o) hl, loadN_eq (dt := d43) rfl rfl hf hn]
  rfl
end Go.Proofs.YtiecclkgjcnaoaaGreat.Ae
