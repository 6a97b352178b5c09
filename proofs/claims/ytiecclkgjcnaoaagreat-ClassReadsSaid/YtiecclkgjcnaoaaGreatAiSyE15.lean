/-
  PLAIN: both readers of classes say the same.
  EQUAL STRUCTS ARE EQUAL, by the rules.
  WHAT WAS READ TWICE IS THE SAME, by the rules: Types, the numbers of a constant, a method.
-/
import Derived.Test.YtiecclkgjcnaoaaGreatAiSyE21
import Derived.Test.YtiecclkgjcnaoaaGreatAiSyD10
import Derived.Test.YtiecclkgjcnaoaaGreatAiSyD8
import Derived.Test.YtiecclkgjcnaoaaGreatAiSyD11
import Derived.Test.YtiecclkgjcnaoaaGreatAiSyW4
namespace Go.Proofs.YtiecclkgjcnaoaaGreat.Ae
open Go.AE
set_option linter.unusedVariables false
set_option maxRecDepth 100000
theorem shS_nil : shS [] := by show 0 < _; decide
theorem shS_of {s : Str} (h : s.length ≤ 20) : shS s := by
  unfold shS
  omega
theorem rdT_sh (bs : List Nat) : shS (rdT 20 bs).1 := shS_of (by have := rdT_len (m := 20) (l := bs) (by decide); omega)
theorem qT_sh (e : Bool) (bs : List Nat) : shS (qT e bs).1 := shS_of (by have := rdT_len (m := 20) (l := bs) (by decide); show (rdT 20 bs).1.length ≤ 20; omega)
theorem qK_sh (e : Bool) (bs : List Nat) : shS (qK e bs).1.2 := by
  unfold qK
  split
  · exact rdT_sh _
  · exact shS_nil
theorem rdX_lt (bs : List Nat) : (rdX bs).1.1 < 18446744073709551616 ∧ (rdX bs).1.2 < 18446744073709551616 := by
  unfold rdX
  split
  · exact ⟨by show 0 < _; decide, by show 0 < _; decide⟩
  · exact ⟨leA_lt _ _, leA_lt _ _⟩
theorem rdZ_in (bs : List Nat) : intR (rdZ bs).1 := unz_range (rdG_lt bs 0 0 (by decide))
theorem zero_in : intR 0 := ⟨by decide, by decide⟩
theorem zero_lt64 : (0 : Nat) < 18446744073709551616 := by decide
theorem qCo_sh (e : Bool) (bs : List Nat) : (shS (qCo e bs).1.cls ∧ shS (qCo e bs).1.name) ∧ inX (qCo e bs).1 := by
  unfold qCo qEnd
  simp only
  unfold qCo'
  split
  · exact ⟨⟨shS_nil, shS_nil⟩, rdZ_in _, zero_lt64, zero_lt64⟩
  · split
    · exact ⟨⟨shS_nil, shS_nil⟩, zero_in, rdX_lt _⟩
    · split
      · exact ⟨⟨rdT_sh _, shS_nil⟩, zero_in, zero_lt64, zero_lt64⟩
      · exact ⟨⟨rdT_sh _, rdT_sh _⟩, zero_in, zero_lt64, zero_lt64⟩
theorem qF_sh (e : Bool) (bs : List Nat) : shS (qF e bs).1.name ∧ shS (qF e bs).1.ty.2 := ⟨qT_sh e bs, qK_sh _ _⟩
theorem qL_all {α : Type} {q : Bool → List Nat → α × Bool × List Nat} {P : α → Prop} (h : ∀ e bs, P (q e bs).1) : ∀ (n : Nat) (e : Bool) (bs : List Nat), ∀ x ∈ (qL q n e bs).1, P x
  | 0, e, bs => fun x hx => absurd hx (List.not_mem_nil)
  | n + 1, e, bs => fun x hx => by
    unfold qL at hx
    split at hx
    · exact absurd hx (List.not_mem_nil)
    · rcases List.mem_cons.1 hx with rfl | hx
      · exact h _ _
      · exact qL_all h n _ _ x hx
theorem pL_all {α : Type} {p : Int → List Nat → α × Int × List Nat} {P : α → Prop} (h : ∀ e bs, P (p e bs).1) : ∀ (n : Nat) (e : Int) (bs : List Nat), ∀ x ∈ (pL p n e bs).1, P x
  | 0, e, bs => fun x hx => absurd hx (List.not_mem_nil)
  | n + 1, e, bs => fun x hx => by
    unfold pL at hx
    split at hx
    · exact absurd hx (List.not_mem_nil)
    · rcases List.mem_cons.1 hx with rfl | hx
      · exact h _ _
      · exact pL_all h n _ _ x hx
theorem qM_all {α : Type} {q : Bool → List Nat → α × Bool × List Nat} {P : α → Prop} (h : ∀ e bs, P (q e bs).1) (m : Int) (e : Bool) (bs : List Nat) : ∀ x ∈ (qM q m e bs).1, P x := qL_all h _ _ _
theorem pM_all {α : Type} {p : Int → List Nat → α × Int × List Nat} {P : α → Prop} (h : ∀ e bs, P (p e bs).1) (m : Int) (e : Int) (bs : List Nat) : ∀ x ∈ (pM p m e bs).1, P x := pL_all h _ _ _
theorem qMe6_sh {n : Str × Bool × List Nat} {ps : List Ty' × Bool × List Nat} {r : Ty' × Bool × List Nat} {lo sk c : Nat × Bool × List Nat} (h1 : shS n.1) (h2 : ∀ t ∈ ps.1, shS t.2) (h3 : shS r.1.2) : shM (qMe6 n ps r lo sk c).1 := by
  unfold qMe6
  split
  · exact ⟨h1, h2, h3⟩
  · exact ⟨h1, h2, h3⟩
theorem qMe_sh (e : Bool) (bs : List Nat) : shM (qMe e bs).1 := by
  unfold qMe
  exact qMe6_sh (qT_sh _ _) (qM_all (P := fun t : Ty' => shS t.2) qK_sh _ _ _) (qK_sh _ _)
theorem qD5_sh {n su : Str × Bool × List Nat} {po : List CoT × Bool × List Nat} {fi : List FiT × Bool × List Nat} {me : List MeT × Bool × List Nat} (h1 : shS n.1) (h2 : shS su.1) (h3 : ∀ x ∈ po.1, (shS x.cls ∧ shS x.name) ∧ inX x) (h4 : ∀ f ∈ fi.1, shS f.name ∧ shS f.ty.2) (h5 : ∀ m ∈ me.1, shM m) :
    shC (qD5 n su po fi me).1 ∧ ∀ x ∈ (qD5 n su po fi me).1.pool, inX x :=
  ⟨⟨⟨h1, h2⟩, fun x hx => (h3 x hx).1, h4, h5⟩, fun x hx => (h3 x hx).2⟩
theorem qD_all (bs : List Nat) : shC (qD bs).1 ∧ ∀ x ∈ (qD bs).1.pool, inX x := by
  unfold qD
  exact qD5_sh (qT_sh _ _) (qT_sh _ _) (qM_all (P := fun x : CoT => (shS x.cls ∧ shS x.name) ∧ inX x) qCo_sh _ _ _) (qM_all (P := fun f : FiT => shS f.name ∧ shS f.ty.2) qF_sh _ _ _) (qM_all (P := shM) qMe_sh _ _ _)
theorem qD_sh (bs : List Nat) : shC (qD bs).1 := (qD_all bs).1
theorem qD_in (bs : List Nat) : ∀ x ∈ (qD bs).1.pool, inX x := (qD_all bs).2
theorem pCo_in (e : Int) (bs : List Nat) : inX (pCo e bs).1 := by
  unfold pCo pCo'
  split
  · refine ⟨?_, zero_lt64, zero_lt64⟩
    show intR (kp 0 rdZ _ _).1
    unfold kp
    split
    · exact zero_in
    · exact rdZ_in _
  · split
    · refine ⟨zero_in, ?_⟩
      show (kp (0, 0) rdX _ _).1.1 < _ ∧ (kp (0, 0) rdX _ _).1.2 < _
      unfold kp
      split
      · exact ⟨zero_lt64, zero_lt64⟩
      · exact rdX_lt _
    · split
      · exact ⟨zero_in, zero_lt64, zero_lt64⟩
      · split <;> exact ⟨zero_in, zero_lt64, zero_lt64⟩
theorem dec5_in {n su : Str × Int × List Nat} {po : List CoT × Int × List Nat} {fi : List FiT × Int × List Nat} {me : List MeT × Int × List Nat} (h : ∀ x ∈ po.1, inX x) : ∀ x ∈ (dec5 n su po fi me).1.pool, inX x := h
theorem dec_in (bs : List Nat) : ∀ x ∈ (dec bs).1.pool, inX x := by
  unfold dec
  exact dec5_in (pM_all (P := inX) pCo_in _ _ _)
theorem small.cons {x : Nat} {ys : List Nat} (h : x < 256) (k : small ys) : small (x :: ys) := fun b hb => by
  rcases List.mem_cons.1 hb with rfl | hb
  · exact h
  · exact k b hb
theorem small.append {xs ys : List Nat} (h : small xs) (k : small ys) : small (xs ++ ys) := fun b hb => (List.mem_append.1 hb).elim (h b) (k b)
theorem small.nil : small [] := fun b hb => absurd hb (List.not_mem_nil)
theorem small.flat {α : Type} {f : α → List Nat} {l : List α} (h : ∀ x ∈ l, small (f x)) : small (l.flatMap f) := fun b hb => by
  obtain ⟨x, hx, hb⟩ := List.mem_flatMap.1 hb
  exact h x hx b hb
theorem small_grp (n : Nat) : small (grp n) := grp_256 n
theorem small_isN {s : Str} (h : isN s) : small s := fun b hb => by
  have := h.2.2.2 b hb
  unfold partB letB at this
  simp only [Bool.or_eq_true, decide_eq_true_eq] at this
  omega
theorem small_S {s : Str} (h : small s) : small (encS s) := (small_grp _).append h
theorem small_K {v : Bool} {t : Ty'} (h : tyOk v t) : small (encK t) := by
  have h1 := (tyOk_k h).1
  unfold encK
  refine small.cons (by omega) ?_
  split
  · rename_i c
    unfold tyOk at h
    rw [if_neg (by omega), if_pos c] at h
    exact small_S (small_isN h)
  · exact small.nil
theorem small_Co {c : CoT} (h : coOk c) : small (encCo c) := by
  obtain ⟨h1, h2, h3, h4, h5, h6, h7⟩ := h
  unfold encCo
  refine small.cons (by omega) ?_
  split
  · exact small_grp _
  · split
    · exact small.append (from8_small _ _ _) (from8_small _ _ _)
    · split
      · exact small_S (small_isN (h6 (by omega)))
      · exact small.append (small_S (small_isN (h6 (by omega)))) (small_S (small_isN (h7 (by omega))))
theorem small_F {l : List FiT} {f : FiT} (h : fiOk l f) : small (encF f) := by
  unfold encF
  refine small.append (small_S (small_isN h.1.1)) (small.append (small_K h.1.2) (small.cons ?_ small.nil))
  split <;> decide
theorem small_H (h : HaT) : small (encH h) := by
  unfold encH
  exact (small_grp _).append ((small_grp _).append ((small_grp _).append ((small_grp _).append (small_grp _))))
theorem small_L {α : Type} {enc : α → List Nat} {l : List α} (h : ∀ x ∈ l, small (enc x)) : small (encL enc l) := (small_grp _).append (small.flat h)
theorem small_M {pool : List CoT} {l : List MeT} {m : MeT} (h : methOk pool l m) : small (encM m) := by
  rw [encM_eq]
  exact (small_S (small_isN h.1)).append ((small_L fun t ht => small_K (h.2.2.1 t ht)).append ((small_K h.2.2.2.1).append ((small_grp _).append ((small_grp _).append (((small_grp _).append (putL_lt _)).append (small_L fun x _ => small_H x))))))
theorem small_C {c : ClT} (h : clsOk c) : small (encC c) := by
  have hs : small c.super := by
    rcases h.2.1 with e | e
    · rw [e]; exact small.nil
    · exact small_isN e
  rw [encC_eq]
  refine small.append (by unfold small; decide) ((small_S (small_isN h.1)).append ((small_S hs).append ((small_L fun x hx => small_Co (h.2.2.2.1 x hx)).append ((small_L fun f hf => ?_).append (small_L fun m hm => ?_)))))
  · obtain ⟨i, hi⟩ := at_of hf
    exact small_F (h.2.2.2.2.1.2 i f hi)
  · obtain ⟨i, hi⟩ := at_of hm
    exact small_M (h.2.2.2.2.2.2 i m hi)
theorem reads_no {bs : List Nat} (hs : small bs) (h : ¬ docOk bs) : ¬ ((dec bs).2 = 0 ∧ clsOk (dec bs).1) := by
  rintro ⟨h0, hc⟩
  have e := (dec_fwd bs).2 hs h0
  have hx := dec_in bs
  generalize (dec bs).1 = c at hc e hx
  subst e
  refine h ?_
  have hq := qD_back hc hx
  unfold docOk
  rw [hq]
  refine ⟨?_, rfl, hc, mods_id hs⟩
  rw [encC_eq]
  exact ⟨by rw [List.length_append]; exact Nat.le_add_right 5 _, rfl⟩
theorem reads_yes {bs : List Nat} (h : docOk bs) : (dec bs).2 = 0 ∧ (dec bs).1 = (qD (bs.drop 5)).1 := by
  obtain ⟨_, _, hc, hm⟩ := h
  have hx := qD_in (bs.drop 5)
  generalize (qD (bs.drop 5)).1 = c at hc hm hx
  rw [mods_id (small_C hc)] at hm
  subst hm
  rw [dec_back hc hx]
  exact ⟨rfl, rfl⟩
end Go.Proofs.YtiecclkgjcnaoaaGreat.Ae
namespace Go.Proofs.YtiecclkgjcnaoaaGreat.Ae
open Go.AE
set_option linter.unusedVariables false
set_option maxRecDepth 100000
theorem forIn_some {α β : Type} (P : Program) {body : α → β → Sem (ForInStep β)} {b : β} : ∀ {l : List α}, (∀ f ∈ l, runQ P (body f b) = some (.yield b)) → runQ P (forIn l b body) = some b
  | [], _ => by
    rw [List.forIn_nil]
    rfl
  | f :: l, h => by
    rw [List.forIn_cons, runQ_bind, h f (List.mem_cons_self ..)]
    exact forIn_some P fun g hg => h g (List.mem_cons_of_mem _ hg)
theorem eqInt1 {d : Nat} {a : Int} : runQ Tryz.prog (Go.Op.equalIn (d + 1) 3 (.int .i64 a) (.int .i64 a)) = some true := by
  unfold Go.Op.equalIn
  rw [runQ_bind, show runQ Tryz.prog (Go.underlying 3) = some (.int .i64) from by kernel_rfl]
  show some (a == a) = _
  rw [beq_self_eq_true]
theorem eqStr1 {d : Nat} {a : ByteArray} : runQ Tryz.prog (Go.Op.equalIn (d + 1) 9 (.string a) (.string a)) = some true := by
  unfold Go.Op.equalIn
  rw [runQ_bind, show runQ Tryz.prog (Go.underlying 9) = some .string from by kernel_rfl]
  show some (a == a) = _
  have : (a == a) = (a.data == a.data) := by cases a; rfl
  rw [this]
  exact congrArg some (beq_self_eq_true a.data)
theorem eqBool1 {d : Nat} {a : Bool} : runQ Tryz.prog (Go.Op.equalIn (d + 1) 4 (.bool a) (.bool a)) = some true := by
  unfold Go.Op.equalIn
  rw [runQ_bind, show runQ Tryz.prog (Go.underlying 4) = some .bool from by kernel_rfl]
  cases a <;> rfl
theorem eqStruct {d : Nat} {t : TypeId} {fs : List Field} {xs : Array Value} (hu : runQ Tryz.prog (Go.underlying t) = some (.struct fs.toArray)) (hs : Go.Program.stoodInHeld Tryz.prog t = false)
    (h : ∀ f ∈ fs, ∃ v, runQ Tryz.prog (Go.part f.type xs f.offset) = some v ∧ runQ Tryz.prog (Go.Op.equalIn d f.type v v) = some true) : runQ Tryz.prog (Go.Op.equalIn (d + 1) t (.agg xs) (.agg xs)) = some true := by
  unfold Go.Op.equalIn
  rw [runQ_bind, hu]
  dsimp only [Option.bind_some]
  rw [runQ_bind, show runQ Tryz.prog Go.program = some Tryz.prog from rfl]
  dsimp only [Option.bind_some]
  rw [hs, if_neg (by decide)]
  rw [List.forIn_toArray, runQ_bind, forIn_some Tryz.prog]
  · rfl
  · intro f hf
    obtain ⟨v, h1, h2⟩ := h f hf
    by_cases hn : f.name ≠ "_"
    · rw [if_pos hn]
      simp only [runQ_bind]
      rw [h1]
      dsimp only [Option.bind_some]
      rw [h2]
      rfl
    · rw [if_neg hn]
      rfl
def fld (n : String) (t : TypeId) (o b : Nat) : Field := { name := n, type := t, offset := o, embedded := false, tag := "", pkgPath := "", byteOffset := b }
def bya (s : Str) : ByteArray := ⟨(s.map UInt8.ofNat).toArray⟩
def tyV (t : Ty') : Value := .agg #[.int .i64 t.1, .string (bya t.2)]
theorem eqTy1 {d : Nat} {t : Ty'} : runQ Tryz.prog (Go.Op.equalIn (d + 2) 43 (tyV t) (tyV t)) = some true := by
  refine eqStruct (fs := [fld "Kind" 3 0 0, fld "Class" 9 1 8]) (by kernel_rfl) (by kernel_rfl) fun f hf => ?_
  simp only [List.mem_cons, List.not_mem_nil, or_false] at hf
  rcases hf with rfl | rfl
  · exact ⟨.int .i64 t.1, by kernel_rfl, eqInt1⟩
  · exact ⟨.string (bya t.2), by kernel_rfl, eqStr1⟩
theorem eqIns1 {d : Nat} {x : In} : runQ Tryz.prog (Go.Op.equalIn (d + 2) 40 (.agg #[.int .i64 x.1, .int .i64 x.2]) (.agg #[.int .i64 x.1, .int .i64 x.2])) = some true := by
  refine eqStruct (fs := [fld "Op" 3 0 0, fld "A" 3 1 8]) (by kernel_rfl) (by kernel_rfl) fun f hf => ?_
  simp only [List.mem_cons, List.not_mem_nil, or_false] at hf
  rcases hf with rfl | rfl
  · exact ⟨.int .i64 x.1, by kernel_rfl, eqInt1⟩
  · exact ⟨.int .i64 x.2, by kernel_rfl, eqInt1⟩
def haV (h : HaT) : Value := .agg #[.int .i64 h.lo, .int .i64 h.hi, .int .i64 h.tg, .int .i64 h.cl, .int .i64 h.de]
theorem eqHa1 {d : Nat} {h : HaT} : runQ Tryz.prog (Go.Op.equalIn (d + 2) 88 (haV h) (haV h)) = some true := by
  refine eqStruct (fs := [fld "From" 3 0 0, fld "To" 3 1 8, fld "Target" 3 2 16, fld "Class" 3 3 24, fld "Depth" 3 4 32]) (by kernel_rfl) (by kernel_rfl) fun f hf => ?_
  simp only [List.mem_cons, List.not_mem_nil, or_false] at hf
  rcases hf with rfl | rfl | rfl | rfl | rfl
  · exact ⟨.int .i64 h.lo, by kernel_rfl, eqInt1⟩
  · exact ⟨.int .i64 h.hi, by kernel_rfl, eqInt1⟩
  · exact ⟨.int .i64 h.tg, by kernel_rfl, eqInt1⟩
  · exact ⟨.int .i64 h.cl, by kernel_rfl, eqInt1⟩
  · exact ⟨.int .i64 h.de, by kernel_rfl, eqInt1⟩
def fiV (f : FiT) : Value := .agg #[.string (bya f.name), .int .i64 f.ty.1, .string (bya f.ty.2), .bool f.vol]
theorem eqFi1 {d : Nat} {x : FiT} : runQ Tryz.prog (Go.Op.equalIn (d + 3) 65 (fiV x) (fiV x)) = some true := by
  refine eqStruct (fs := [fld "Name" 9 0 0, fld "Type" 43 1 16, fld "Volatile" 4 3 40]) (by kernel_rfl) (by kernel_rfl) fun f hf => ?_
  simp only [List.mem_cons, List.not_mem_nil, or_false] at hf
  rcases hf with rfl | rfl | rfl
  · exact ⟨.string (bya x.name), by kernel_rfl, eqStr1⟩
  · exact ⟨tyV x.ty, by kernel_rfl, eqTy1⟩
  · exact ⟨.bool x.vol, by kernel_rfl, eqBool1⟩
theorem neq_self {K : FuncId} {A : AW} {t : TypeId} {v : Value} (hg : runQ Tryz.prog (Go.eqGuard .neq t (.tmp 0) (.tmp 0) v v) = some ()) (hq : runQ Tryz.prog (Go.binOp .neq t v v) = some (.bool false)) :
    quiet (ES K) (do Go.eqGuard .neq t (.tmp 0) (.tmp 0) v v; Go.binOp .neq t v v) A = .val (.bool false) A := by
  refine quiet_of _ (.bool false) _ ?_ rfl
  rw [runQ_bind, hg]
  exact hq
theorem tyNe1 {K : FuncId} {A : AW} {x : Ty'} : binA (ES K) .neq 43 (.agg (tyc x)) (.agg (tyc x)) A = .val (.bool false) A := by
  show quiet (ES K) (do Go.eqGuard .neq 43 (.tmp 0) (.tmp 0) (tyV x) (tyV x); Go.binOp .neq 43 (tyV x) (tyV x)) A = _
  refine neq_self (by kernel_rfl) ?_
  show runQ Tryz.prog (do pure (Value.bool (!(← Go.Op.equalIn (9998 + 2) 43 (tyV x) (tyV x))))) = _
  rw [runQ_bind, eqTy1]
  rfl
theorem insNe1 {K : FuncId} {A : AW} {x : In} : binA (ES K) .neq 40 (.agg (icl x)) (.agg (icl x)) A = .val (.bool false) A := by
  show quiet (ES K) (do Go.eqGuard .neq 40 (.tmp 0) (.tmp 0) (.agg #[.int .i64 x.1, .int .i64 x.2]) (.agg #[.int .i64 x.1, .int .i64 x.2]); Go.binOp .neq 40 (.agg #[.int .i64 x.1, .int .i64 x.2]) (.agg #[.int .i64 x.1, .int .i64 x.2])) A = _
  refine neq_self (by kernel_rfl) ?_
  show runQ Tryz.prog (do pure (Value.bool (!(← Go.Op.equalIn (9998 + 2) 40 (.agg #[.int .i64 x.1, .int .i64 x.2]) (.agg #[.int .i64 x.1, .int .i64 x.2]))))) = _
  rw [runQ_bind, eqIns1]
  rfl
theorem haNe1 {K : FuncId} {A : AW} {x : HaT} : binA (ES K) .neq 88 (.agg (hac x)) (.agg (hac x)) A = .val (.bool false) A := by
  show quiet (ES K) (do Go.eqGuard .neq 88 (.tmp 0) (.tmp 0) (haV x) (haV x); Go.binOp .neq 88 (haV x) (haV x)) A = _
  refine neq_self (by kernel_rfl) ?_
  show runQ Tryz.prog (do pure (Value.bool (!(← Go.Op.equalIn (9998 + 2) 88 (haV x) (haV x))))) = _
  rw [runQ_bind, eqHa1]
  rfl
theorem fiNe1 {K : FuncId} {A : AW} {x : FiT} : binA (ES K) .neq 65 (.agg (fic x)) (.agg (fic x)) A = .val (.bool false) A := by
  show quiet (ES K) (do Go.eqGuard .neq 65 (.tmp 0) (.tmp 0) (fiV x) (fiV x); Go.binOp .neq 65 (fiV x) (fiV x)) A = _
  refine neq_self (by kernel_rfl) ?_
  show runQ Tryz.prog (do pure (Value.bool (!(← Go.Op.equalIn (9997 + 3) 65 (fiV x) (fiV x))))) = _
  rw [runQ_bind, eqFi1]
  rfl
end Go.Proofs.YtiecclkgjcnaoaaGreat.Ae
namespace Go.Proofs.YtiecclkgjcnaoaaGreat.Ae
open Go.AE
set_option linter.unusedVariables false
set_option maxRecDepth 100000
theorem types_spec {K : FuncId} {A : AW} {v u : AV} {l : List Ty'} (h1 : Row A 2 v l.length (l.flatMap tyc)) (h2 : Row A 2 u l.length (l.flatMap tyc)) (hl : l.length < 1000000000) :
    CallP (ES K) 85 [v, u] A fun r A1 => r = .bool true ∧ A1 = A := by
  refine call_of rfl rfl rfl ?_
  repeat (first | refine qO ?_ | refine qA ?_ | refine qG ?_ | refine qJ rfl rfl ?_ | refine qE rfl rfl ?_)
  refine xJ rfl rfl rfl h1.lenV ?_
  repeat refine qJ rfl rfl ?_
  refine xJ rfl rfl rfl h2.lenV ?_
  repeat (first | refine qG ?_ | refine xL rfl rfl rfl ?_)
  refine qV rfl (fun h => absurd rfl h) fun _ => ?_
  repeat (first | refine qO ?_ | refine qS ?_ | refine qY ?_ | refine qA ?_ | refine qG ?_ | refine qE rfl rfl ?_)
  refine wg_loop ?_
  refine wg_le (.put 0 v (.put 1 u (.put 5 (.int .i64 ((0 : Nat) : Int)) .nil))) ?_ ⟨rfl, rfl, rfl, trivial⟩
  refine wg_ind (ι := Nat) (fun i => l.length - i) (fun i => .put 0 v (.put 1 u (.put 5 (.int .i64 (i : Int)) .nil))) (fun i A1 => A1 = A ∧ i ≤ l.length) ?_ 0 A ⟨rfl, Nat.zero_le _⟩
  rintro i A1 ⟨rfl, hi⟩ ih
  repeat (first | refine qO ?_ | refine qA ?_ | refine qJ rfl rfl ?_)
  refine xJ rfl rfl rfl h1.lenV ?_
  repeat (first | refine qG ?_ | refine xM rfl rfl rfl ?_)
  refine qV rfl (fun hlt => ?_) fun hge => ?_
  · have hlt : i < l.length := Int.ofNat_lt.1 hlt
    obtain ⟨x, hx⟩ : ∃ x, l[i]? = some x := ⟨l[i], List.getElem?_eq_getElem hlt⟩
    obtain ⟨f, t, o, c, ex, ro, all, e0, hh, _, hat⟩ := row_el (cl := tyc) (fun _ => rfl) h1 hx
    obtain ⟨f', t', o', c', ex', ro', all', e0', hh', _, hat'⟩ := row_el (cl := tyc) (fun _ => rfl) h2 hx
    repeat (first | refine qO ?_ | refine qS ?_ | refine qY ?_)
    refine wg_draw rfl ?_
    repeat (first
      | (refine xC rfl rfl rfl rfl rfl ?_
         repeat (first | refine qG ?_ | refine qJ rfl rfl ?_)
         refine ⟨rfl, ?_⟩))
    refine xC rfl rfl rfl rfl rfl ?_
    refine xF i rfl (congrArg some e0) rfl rfl rfl hlt ?_
    repeat refine qG ?_
    refine ⟨rfl, ?_⟩
    refine xI rfl rfl rfl rfl rfl rfl rfl ?_
    refine xG (vs := tyc x) rfl rfl rfl rfl hh ((hat 2 0 (Nat.le_refl _)).trans rfl) ?_
    repeat refine qG ?_
    refine ⟨rfl, _, rfl, ?_⟩
    repeat (first
      | (refine xC rfl rfl rfl rfl rfl ?_
         repeat (first | refine qG ?_ | refine qJ rfl rfl ?_)
         refine ⟨rfl, ?_⟩))
    refine xC rfl rfl rfl rfl rfl ?_
    refine xF i rfl (congrArg some e0') rfl rfl rfl hlt ?_
    repeat refine qG ?_
    refine ⟨rfl, ?_⟩
    refine xI rfl rfl rfl rfl rfl rfl rfl ?_
    refine xG (vs := tyc x) rfl rfl rfl rfl hh' ((hat' 2 0 (Nat.le_refl _)).trans rfl) ?_
    repeat refine qG ?_
    refine ⟨rfl, _, rfl, ?_⟩
    refine xC rfl rfl rfl rfl rfl ?_
    refine wo_binV rfl rfl rfl tyNe1 ?_
    repeat refine qG ?_
    refine ⟨rfl, wd_nil ?_⟩
    refine wg_false rfl ?_
    repeat (first | refine qS ?_ | refine xB ?_ | refine qA ?_ | refine qJ rfl rfl ?_)
    refine wo_add rfl rfl rfl (by omega) (by omega) ?_
    repeat (first | refine qG ?_ | refine qE rfl rfl ?_)
    refine xN ?_
    refine wg_le (.put 0 v (.put 1 u (.put 5 (.int .i64 ((i + 1 : Nat) : Int)) .nil))) ?_ ⟨rfl, rfl, rfl, trivial⟩
    exact ih (i + 1) A1 (by omega) ⟨rfl, hlt⟩
  · refine wg_exit rfl ?_
    repeat (first | refine qO ?_ | refine qA ?_ | refine qG ?_ | refine qE rfl rfl ?_)
    exact qQ rfl ⟨rfl, rfl⟩
theorem csame_spec {K : FuncId} {A : AW} {a b : Nat} : CallP (ES K) 40 [.cplx .f64 a b, .cplx .f64 a b] A fun r A1 => r = .bool true ∧ A1 = A := by
  refine call_of rfl rfl rfl ?_
  repeat (first | refine qO ?_ | refine qA ?_ | refine qG ?_ | refine qJ rfl rfl ?_ | refine qE rfl rfl ?_)
  refine qU rfl rfl orc_cons rfl bits_spec ?_
  rintro r A2 ⟨rfl, rfl⟩
  repeat (first | refine qO ?_ | refine qA ?_ | refine qG ?_ | refine qJ rfl rfl ?_ | refine qE rfl rfl ?_ | refine xK rfl rfl rfl ?_)
  refine qU rfl rfl orc_cons rfl bits_spec ?_
  rintro r A3 ⟨rfl, rfl⟩
  repeat (first | refine qO ?_ | refine qA ?_ | refine qG ?_ | refine qJ rfl rfl ?_ | refine qE rfl rfl ?_ | refine xK rfl rfl rfl ?_ | refine xD rfl rfl rfl ?_)
  refine xA 22 true rfl (decide_eq_true rfl) ?_
  repeat (first | refine qG ?_ | refine qJ rfl rfl ?_ | refine qE rfl rfl ?_ | refine xD rfl rfl rfl ?_ | refine qR rfl rfl rfl ?_ | refine qX rfl ?_)
  exact qQ rfl ⟨congrArg AV.bool (decide_eq_true rfl), rfl⟩
set_option maxHeartbeats 4000000 in
theorem rmethods_spec {K : FuncId} {A : AW} {n0 n1 : Nat} {m : MeT} {pv cv hv pu cu hu : AV} (hw : Wf A) (h1 : MeR A n0 m pv cv hv) (h2 : MeR A n1 m pu cu hu) (l1 : m.params.length < 1000000) (l2 : m.code.length < 1000000) (l3 : m.hands.length < 1000000) :
    CallP (ES K) 41 [.agg (mec m pv cv hv), .agg (mec m pu cu hu)] A fun r A1 => r = .bool true ∧ Only A A1 none' := by
  refine call_of rfl rfl rfl ?_
  unfold mec
  repeat (first | refine qO ?_ | refine qA ?_)
  refine wo_box rfl rfl rfl rfl ?_
  refine wo_A (fun A1 => Only A A1 none' ∧ A1.heap.get A.nxt = some (.cells 0 false 8 [.str m.name, pv, .int .i64 m.ret.1, .str m.ret.2, .int .i64 m.locals, .int .i64 m.stack, cv, hv])) ⟨Only.add hw _, by rw [AW.add_get, if_pos rfl]; rfl⟩ ?_
  rintro A1 ⟨o1, hx⟩
  generalize A.nxt = f2 at hx
  refine wo_box rfl rfl rfl rfl ?_
  refine wo_A (fun A2 => Only A1 A2 none' ∧ A2.heap.get A1.nxt = some (.cells 0 false 8 [.str m.name, pu, .int .i64 m.ret.1, .str m.ret.2, .int .i64 m.locals, .int .i64 m.stack, cu, hu])) ⟨Only.add o1.wf _, by rw [AW.add_get, if_pos rfl]; rfl⟩ ?_
  rintro A2 ⟨o2, hy⟩
  generalize A1.nxt = f3 at hy
  have hx := o2.keep _ _ hx fun h => h
  have o12 := o1.same o2
  have h1 := h1.keep o12 fun _ h => h.elim
  have h2 := h2.keep o12 fun _ h => h.elim
  have nt := hx
  have nu := hy
  have e1 : takeN 2 (dropN 2 [.str m.name, pv, .int .i64 m.ret.1, .str m.ret.2, .int .i64 m.locals, .int .i64 m.stack, cv, hv]) = some (tyc m.ret) := rfl
  have e2 : takeN 2 (dropN 2 [.str m.name, pu, .int .i64 m.ret.1, .str m.ret.2, .int .i64 m.locals, .int .i64 m.stack, cu, hu]) = some (tyc m.ret) := rfl
  repeat (first | refine qO ?_ | refine qA ?_ | refine qG ?_ | refine qJ rfl rfl ?_ | refine qE rfl rfl ?_ | refine qI rfl rfl rfl ?_ | refine qP rfl rfl rfl rfl (by assumption) rfl ?_ | refine wo_strNe rfl rfl rfl ?_)
  refine xA 12 false rfl (decide_eq_false fun h => h rfl) ?_
  repeat (first | refine qI rfl rfl rfl ?_ | refine qP rfl rfl rfl rfl (by assumption) rfl ?_ | refine qX rfl ?_)
  refine qU rfl rfl orc_cons rfl (types_spec h1.p h2.p (by omega)) ?_
  rintro r A3 ⟨rfl, e3⟩
  obtain rfl : A2 = A3 := e3.symm
  repeat (first | refine qJ rfl rfl ?_ | refine qI rfl rfl rfl ?_ | refine wo_not rfl rfl ?_ | refine qR rfl rfl rfl ?_ | refine qX rfl ?_)
  refine xG (vs := tyc m.ret) rfl rfl rfl rfl hx e1 ?_
  repeat (first | refine qI rfl rfl rfl ?_ | refine qX rfl ?_)
  refine xG (vs := tyc m.ret) rfl rfl rfl rfl hy e2 ?_
  repeat refine qX rfl ?_
  refine wo_binV rfl rfl rfl tyNe1 ?_
  repeat (first | refine qJ rfl rfl ?_ | refine qI rfl rfl rfl ?_ | refine qP rfl rfl rfl rfl (by assumption) rfl ?_ | refine xL rfl rfl rfl ?_ | refine qR rfl rfl rfl ?_ | refine qX rfl ?_)
  refine xA 34 false rfl (decide_eq_false fun h => h rfl) ?_
  repeat (first | refine qJ rfl rfl ?_ | refine qI rfl rfl rfl ?_ | refine qP rfl rfl rfl rfl (by assumption) rfl ?_ | refine xL rfl rfl rfl ?_ | refine qR rfl rfl rfl ?_ | refine qX rfl ?_)
  refine xA 41 false rfl (decide_eq_false fun h => h rfl) ?_
  repeat (first | refine qI rfl rfl rfl ?_ | refine qP rfl rfl rfl rfl (by assumption) rfl ?_ | refine qX rfl ?_)
  refine xJ rfl rfl rfl h1.c.lenV ?_
  repeat (first | refine qI rfl rfl rfl ?_ | refine qP rfl rfl rfl rfl (by assumption) rfl ?_ | refine qX rfl ?_)
  refine xJ rfl rfl rfl h2.c.lenV ?_
  repeat (first | refine qJ rfl rfl ?_ | refine xL rfl rfl rfl ?_ | refine qR rfl rfl rfl ?_ | refine qX rfl ?_)
  refine xA 50 false rfl (decide_eq_false fun h => h rfl) ?_
  repeat (first | refine qI rfl rfl rfl ?_ | refine qP rfl rfl rfl rfl (by assumption) rfl ?_ | refine qX rfl ?_)
  refine xJ rfl rfl rfl h1.h.lenV ?_
  repeat (first | refine qI rfl rfl rfl ?_ | refine qP rfl rfl rfl rfl (by assumption) rfl ?_ | refine qX rfl ?_)
  refine xJ rfl rfl rfl h2.h.lenV ?_
  repeat (first | refine qG ?_ | refine xL rfl rfl rfl ?_ | refine qR rfl rfl rfl ?_ | refine qX rfl ?_)
  refine qV rfl (fun h => absurd rfl h) fun _ => ?_
  repeat (first | refine qO ?_ | refine qS ?_ | refine qY ?_ | refine qA ?_ | refine qG ?_ | refine qE rfl rfl ?_)
  refine wg_loop ?_
  refine wg_le (.put 2 (.ptr f2 0 0) (.put 3 (.ptr f3 0 0) (.put 5 (.int .i64 ((0 : Nat) : Int)) .nil))) ?_ ⟨rfl, rfl, rfl, trivial⟩
  refine wg_ind (ι := Nat) (fun i => m.code.length - i) (fun i => .put 2 (.ptr f2 0 0) (.put 3 (.ptr f3 0 0) (.put 5 (.int .i64 (i : Int)) .nil))) (fun i A4 => A4 = A2 ∧ i ≤ m.code.length) ?_ 0 A2 ⟨rfl, Nat.zero_le _⟩
  rintro i A4 ⟨e4, hi⟩ ih
  obtain rfl : A2 = A4 := e4.symm
  repeat (first | refine qO ?_ | refine qA ?_ | refine qJ rfl rfl ?_ | refine qI rfl rfl rfl ?_ | refine qP rfl rfl rfl rfl (by assumption) rfl ?_)
  refine xJ rfl rfl rfl h1.c.lenV ?_
  repeat (first | refine qG ?_ | refine xM rfl rfl rfl ?_)
  refine qV rfl (fun hlt => ?_) fun hge => ?_
  · have hlt : i < m.code.length := Int.ofNat_lt.1 hlt
    obtain ⟨x, hxi⟩ : ∃ x, m.code[i]? = some x := ⟨m.code[i], List.getElem?_eq_getElem hlt⟩
    obtain ⟨f, t, o, c, ex, ro, all, e0, hh, _, hat⟩ := row_el (cl := icl) (fun _ => rfl) h1.c hxi
    obtain ⟨f', t', o', c', ex', ro', all', e0', hh', _, hat'⟩ := row_el (cl := icl) (fun _ => rfl) h2.c hxi
    repeat (first | refine qO ?_ | refine qS ?_ | refine qY ?_)
    refine wg_draw rfl ?_
    repeat (first
      | (refine xC rfl rfl rfl rfl rfl ?_
         repeat (first | refine qG ?_ | refine qJ rfl rfl ?_ | refine qI rfl rfl rfl ?_)
         refine ⟨rfl, ?_⟩)
      | (refine xI rfl rfl rfl rfl rfl rfl rfl ?_
         repeat (first | refine qG ?_ | refine qP rfl rfl rfl rfl (by assumption) rfl ?_)
         refine ⟨rfl, _, rfl, ?_⟩))
    refine xC rfl rfl rfl rfl rfl ?_
    refine xF i rfl (congrArg some e0) rfl rfl rfl hlt ?_
    repeat refine qG ?_
    refine ⟨rfl, ?_⟩
    refine xI rfl rfl rfl rfl rfl rfl rfl ?_
    refine xG (vs := icl x) rfl rfl rfl rfl hh ((hat 2 0 (Nat.le_refl _)).trans rfl) ?_
    repeat refine qG ?_
    refine ⟨rfl, _, rfl, ?_⟩
    repeat (first
      | (refine xC rfl rfl rfl rfl rfl ?_
         repeat (first | refine qG ?_ | refine qJ rfl rfl ?_ | refine qI rfl rfl rfl ?_)
         refine ⟨rfl, ?_⟩)
      | (refine xI rfl rfl rfl rfl rfl rfl rfl ?_
         repeat (first | refine qG ?_ | refine qP rfl rfl rfl rfl (by assumption) rfl ?_)
         refine ⟨rfl, _, rfl, ?_⟩))
    refine xC rfl rfl rfl rfl rfl ?_
    refine xF i rfl (congrArg some e0') rfl rfl rfl hlt ?_
    repeat refine qG ?_
    refine ⟨rfl, ?_⟩
    refine xI rfl rfl rfl rfl rfl rfl rfl ?_
    refine xG (vs := icl x) rfl rfl rfl rfl hh' ((hat' 2 0 (Nat.le_refl _)).trans rfl) ?_
    repeat refine qG ?_
    refine ⟨rfl, _, rfl, ?_⟩
    refine xC rfl rfl rfl rfl rfl ?_
    refine wo_binV rfl rfl rfl insNe1 ?_
    repeat refine qG ?_
    refine ⟨rfl, wd_nil ?_⟩
    refine wg_false rfl ?_
    repeat (first | refine qS ?_ | refine xB ?_ | refine qA ?_ | refine qJ rfl rfl ?_)
    refine wo_add rfl rfl rfl (by omega) (by omega) ?_
    repeat (first | refine qG ?_ | refine qE rfl rfl ?_)
    refine xN ?_
    refine wg_le (.put 2 (.ptr f2 0 0) (.put 3 (.ptr f3 0 0) (.put 5 (.int .i64 ((i + 1 : Nat) : Int)) .nil))) ?_ ⟨rfl, rfl, rfl, trivial⟩
    exact ih (i + 1) A2 (by omega) ⟨rfl, hlt⟩
  clear ih
  refine wg_exit rfl ?_
  repeat (first | refine qO ?_ | refine qY ?_ | refine qA ?_ | refine qG ?_ | refine qE rfl rfl ?_)
  refine wg_loop ?_
  refine wg_le (.put 2 (.ptr f2 0 0) (.put 3 (.ptr f3 0 0) (.put 6 (.int .i64 ((0 : Nat) : Int)) .nil))) ?_ ⟨rfl, rfl, rfl, trivial⟩
  refine wg_ind (ι := Nat) (fun i => m.hands.length - i) (fun i => .put 2 (.ptr f2 0 0) (.put 3 (.ptr f3 0 0) (.put 6 (.int .i64 (i : Int)) .nil))) (fun i A4 => A4 = A2 ∧ i ≤ m.hands.length) ?_ 0 A2 ⟨rfl, Nat.zero_le _⟩
  rintro i A4 ⟨e4, hi⟩ ih
  obtain rfl : A2 = A4 := e4.symm
  repeat (first | refine qO ?_ | refine qA ?_ | refine qJ rfl rfl ?_ | refine qI rfl rfl rfl ?_ | refine qP rfl rfl rfl rfl (by assumption) rfl ?_)
  refine xJ rfl rfl rfl h1.h.lenV ?_
  repeat (first | refine qG ?_ | refine xM rfl rfl rfl ?_)
  refine qV rfl (fun hlt => ?_) fun hge => ?_
  · have hlt : i < m.hands.length := Int.ofNat_lt.1 hlt
    obtain ⟨x, hxi⟩ : ∃ x, m.hands[i]? = some x := ⟨m.hands[i], List.getElem?_eq_getElem hlt⟩
    obtain ⟨f, t, o, c, ex, ro, all, e0, hh, _, hat⟩ := row_el (cl := hac) (fun _ => rfl) h1.h hxi
    obtain ⟨f', t', o', c', ex', ro', all', e0', hh', _, hat'⟩ := row_el (cl := hac) (fun _ => rfl) h2.h hxi
    repeat (first | refine qO ?_ | refine qS ?_ | refine qY ?_)
    refine wg_draw rfl ?_
    repeat (first
      | (refine xC rfl rfl rfl rfl rfl ?_
         repeat (first | refine qG ?_ | refine qJ rfl rfl ?_ | refine qI rfl rfl rfl ?_)
         refine ⟨rfl, ?_⟩)
      | (refine xI rfl rfl rfl rfl rfl rfl rfl ?_
         repeat (first | refine qG ?_ | refine qP rfl rfl rfl rfl (by assumption) rfl ?_)
         refine ⟨rfl, _, rfl, ?_⟩))
    refine xC rfl rfl rfl rfl rfl ?_
    refine xF i rfl (congrArg some e0) rfl rfl rfl hlt ?_
    repeat refine qG ?_
    refine ⟨rfl, ?_⟩
    refine xI rfl rfl rfl rfl rfl rfl rfl ?_
    refine xG (vs := hac x) rfl rfl rfl rfl hh ((hat 5 0 (Nat.le_refl _)).trans rfl) ?_
    repeat refine qG ?_
    refine ⟨rfl, _, rfl, ?_⟩
    repeat (first
      | (refine xC rfl rfl rfl rfl rfl ?_
         repeat (first | refine qG ?_ | refine qJ rfl rfl ?_ | refine qI rfl rfl rfl ?_)
         refine ⟨rfl, ?_⟩)
      | (refine xI rfl rfl rfl rfl rfl rfl rfl ?_
         repeat (first | refine qG ?_ | refine qP rfl rfl rfl rfl (by assumption) rfl ?_)
         refine ⟨rfl, _, rfl, ?_⟩))
    refine xC rfl rfl rfl rfl rfl ?_
    refine xF i rfl (congrArg some e0') rfl rfl rfl hlt ?_
    repeat refine qG ?_
    refine ⟨rfl, ?_⟩
    refine xI rfl rfl rfl rfl rfl rfl rfl ?_
    refine xG (vs := hac x) rfl rfl rfl rfl hh' ((hat' 5 0 (Nat.le_refl _)).trans rfl) ?_
    repeat refine qG ?_
    refine ⟨rfl, _, rfl, ?_⟩
    refine xC rfl rfl rfl rfl rfl ?_
    refine wo_binV rfl rfl rfl haNe1 ?_
    repeat refine qG ?_
    refine ⟨rfl, wd_nil ?_⟩
    refine wg_false rfl ?_
    repeat (first | refine qS ?_ | refine xB ?_ | refine qA ?_ | refine qJ rfl rfl ?_)
    refine wo_add rfl rfl rfl (by omega) (by omega) ?_
    repeat (first | refine qG ?_ | refine qE rfl rfl ?_)
    refine xN ?_
    refine wg_le (.put 2 (.ptr f2 0 0) (.put 3 (.ptr f3 0 0) (.put 6 (.int .i64 ((i + 1 : Nat) : Int)) .nil))) ?_ ⟨rfl, rfl, rfl, trivial⟩
    exact ih (i + 1) A2 (by omega) ⟨rfl, hlt⟩
  clear ih
  refine wg_exit rfl ?_
  repeat (first | refine qO ?_ | refine qA ?_ | refine qG ?_ | refine qE rfl rfl ?_)
  exact qQ rfl ⟨rfl, o12⟩
end Go.Proofs.YtiecclkgjcnaoaaGreat.Ae
