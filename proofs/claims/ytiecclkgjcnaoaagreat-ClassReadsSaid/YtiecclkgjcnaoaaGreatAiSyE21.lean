/-
  PLAIN: what was written is read back, by both readers of classes.
-/
import Derived.Test.YtiecclkgjcnaoaaGreatAiSyE20
namespace Go.Proofs.YtiecclkgjcnaoaaGreat.Ae
open Go.AE
set_option linter.unusedVariables false
set_option maxRecDepth 100000
def Bk {α : Type} (p : Int → List Nat → α × Int × List Nat) (enc : α → List Nat) (x : α) : Prop := ∀ rest, p 0 (enc x ++ rest) = (x, 0, rest)
def Qk {α : Type} (q : Bool → List Nat → α × Bool × List Nat) (enc : α → List Nat) (x : α) : Prop := ∀ rest, q false (enc x ++ rest) = (x, false, rest)
def Rk {α : Type} (f : List Nat → α × Nat × Nat) (enc : α → List Nat) (x : α) : Prop := ∀ rest, f (enc x ++ rest) = (x, 0, (enc x).length)
theorem Rk.p {α : Type} {z : α} {f : List Nat → α × Nat × Nat} {enc : α → List Nat} {x : α} (h : Rk f enc x) : Bk (kp z f) enc x := fun rest => by
  rw [kp_ok, h rest]
  simp only [List.drop_left]
  rfl
theorem Rk.q {α : Type} {f : List Nat → α × Nat × Nat} {enc : α → List Nat} {x : α} (h : Rk f enc x) : Qk (kq f) enc x := fun rest => by
  unfold kq
  rw [h rest]
  simp only [List.drop_left]
  rfl
theorem rC {m : Int} {n : Nat} (h : (n : Int) ≤ m) (h2 : n < 18446744073709551616) : Rk (rdC m) grp n := fun rest => by
  unfold rdC
  rw [rdG_back h2, if_pos rfl, if_neg (by simp only; omega)]
theorem rT {s : Str} (h : s.length ≤ 20) : Rk (rdT 20) encS s := fun rest => by
  unfold encS rdT
  rw [List.append_assoc, rC (m := 20) (n := s.length) (by omega) (by omega) (s ++ rest), if_neg (fun h => h rfl), if_neg (by simp only [List.length_append]; omega)]
  simp only [List.drop_left, List.take_left, List.length_append]
theorem rZ {z : Int} (h : intR z) : Rk rdZ (fun z => grp (zz z)) z := fun rest => by
  unfold rdZ
  simp only
  rw [rdG_back (by have := zz_lt h.1 h.2; omega)]
  simp only
  rw [unz_zz' h]
theorem rX {x : Nat × Nat} (h1 : x.1 < 18446744073709551616) (h2 : x.2 < 18446744073709551616) : Rk rdX (fun x => from8 8 0 x.1 ++ from8 8 0 x.2) x := fun rest => by
  unfold rdX
  simp only
  rw [if_neg (by simp only [List.length_append, from8_len]; omega), List.append_assoc, leA_back h1, List.drop_left' (by rw [from8_len]), leA_back h2]
  simp only [List.length_append, from8_len]
theorem pB_cons (k : Nat) (r : List Nat) : pB 0 (k :: r) = (k, 0, r) := kp_ok
theorem qB_cons (k : Nat) (r : List Nat) : qB false (k :: r) = (k, false, r) := rfl
theorem bT {s : Str} (h : s.length ≤ 20) : Bk pT encS s := (rT h).p
theorem dT {s : Str} (h : s.length ≤ 20) : Qk qT encS s := (rT h).q
theorem bC {m : Int} {n : Nat} (h : (n : Int) ≤ m) (h2 : n < 18446744073709551616) : Bk (pC m) grp n := (rC h h2).p
theorem dC {m : Int} {n : Nat} (h : (n : Int) ≤ m) (h2 : n < 18446744073709551616) : Qk (qC m) grp n := (rC h h2).q
theorem tyOk_k {v : Bool} {t : Ty'} (h : tyOk v t) : (0 ≤ t.1 ∧ t.1 ≤ 4) ∧ (t.1 = 4 → t.2.length ≤ 20) ∧ (t.1 ≠ 4 → t.2 = []) := by
  unfold tyOk at h
  split at h
  · exact ⟨by omega, fun c => by omega, fun _ => h⟩
  · split at h
    · exact ⟨by omega, fun _ => isN_len h, fun c => absurd (by assumption) c⟩
    · exact ⟨by omega, fun c => absurd c (by assumption), fun _ => h.2.2⟩
theorem bK {v : Bool} {t : Ty'} (h : tyOk v t) : Bk pK encK t := fun rest => by
  obtain ⟨h1, h2, h3⟩ := tyOk_k h
  obtain ⟨k, s⟩ := t
  have h1 : 0 ≤ k ∧ k ≤ 4 := h1
  unfold encK
  simp only [List.cons_append]
  unfold pK
  rw [pB_cons]
  simp only
  have e : ((k.toNat : Nat) : Int) = k := by omega
  by_cases c : k = 4
  · subst c
    rw [if_pos rfl, if_pos e, bT (h2 rfl)]
  · rw [e, if_neg c, if_neg c]
    have h3 : s = [] := h3 c
    subst h3
    rfl
theorem dK {v : Bool} {t : Ty'} (h : tyOk v t) : Qk qK encK t := fun rest => by
  obtain ⟨h1, h2, h3⟩ := tyOk_k h
  obtain ⟨k, s⟩ := t
  have h1 : 0 ≤ k ∧ k ≤ 4 := h1
  unfold encK
  simp only [List.cons_append]
  unfold qK
  rw [qB_cons]
  simp only
  have e : ((k.toNat : Nat) : Int) = k := by omega
  by_cases c : k = 4
  · subst c
    rw [if_pos rfl, if_pos e, dT (h2 rfl)]
  · rw [e, if_neg c, if_neg c]
    have h3 : s = [] := h3 c
    subst h3
    rfl
def inX (c : CoT) : Prop := intR c.int ∧ c.x.1 < 18446744073709551616 ∧ c.x.2 < 18446744073709551616
theorem bCo {c : CoT} (h : coOk c) (hi : inX c) : Bk pCo encCo c := fun rest => by
  obtain ⟨h1, h2, h3, h4, h5, h6, h7⟩ := h
  obtain ⟨i1, i2, i3⟩ := hi
  obtain ⟨k, i, x, s, n⟩ := c
  simp only at h1 h2 h3 h4 h5 h6 h7 i1 i2 i3
  have e : ((k.toNat : Nat) : Int) = k := by omega
  unfold encCo
  simp only [List.cons_append]
  unfold pCo
  rw [pB_cons]
  simp only
  unfold pCo'
  rw [e]
  by_cases c1 : k = 1
  · subst c1
    obtain rfl := h3.resolve_left (by decide)
    obtain rfl := h4.resolve_left (by decide)
    obtain rfl := h5.resolve_left (by decide)
    rw [if_pos rfl, if_pos rfl]
    have r : pZ 0 (grp (zz i) ++ rest) = (i, 0, rest) := (rZ i1).p rest
    rw [r]
  rw [if_neg c1, if_neg c1]
  obtain rfl := h2.resolve_left c1
  by_cases c2 : k = 2
  · subst c2
    obtain rfl := h4.resolve_left (by decide)
    obtain rfl := h5.resolve_left (by decide)
    rw [if_pos rfl, if_pos rfl]
    have r : pX 0 ((from8 8 0 x.1 ++ from8 8 0 x.2) ++ rest) = (x, 0, rest) := (rX i2 i3).p rest
    rw [r]
  rw [if_neg c2, if_neg c2]
  obtain rfl := h3.resolve_left c2
  have hs := isN_len (h6 (by omega))
  by_cases c3 : k = 3
  · subst c3
    obtain rfl := h5.resolve_left (by decide)
    rw [if_pos rfl, if_pos rfl, bT hs]
  rw [if_neg c3, if_neg c3, if_pos (show k = 4 ∨ k = 5 by omega)]
  have hn := isN_len (h7 (by omega))
  rw [List.append_assoc, bT hs]
  simp only
  rw [bT hn]
theorem dCo {c : CoT} (h : coOk c) (hi : inX c) : Qk qCo encCo c := fun rest => by
  obtain ⟨h1, h2, h3, h4, h5, h6, h7⟩ := h
  obtain ⟨i1, i2, i3⟩ := hi
  obtain ⟨k, i, x, s, n⟩ := c
  simp only at h1 h2 h3 h4 h5 h6 h7 i1 i2 i3
  have e : ((k.toNat : Nat) : Int) = k := by omega
  unfold encCo
  simp only [List.cons_append]
  unfold qCo
  rw [qB_cons]
  simp only
  unfold qCo'
  rw [e]
  by_cases c1 : k = 1
  · subst c1
    obtain rfl := h3.resolve_left (by decide)
    obtain rfl := h4.resolve_left (by decide)
    obtain rfl := h5.resolve_left (by decide)
    rw [if_pos rfl, if_pos rfl]
    have r : rdZ (grp (zz i) ++ rest) = (i, 0, (grp (zz i)).length) := rZ i1 rest
    rw [r]
    unfold qEnd
    simp only [List.drop_left]
    rfl
  rw [if_neg c1, if_neg c1]
  obtain rfl := h2.resolve_left c1
  by_cases c2 : k = 2
  · subst c2
    obtain rfl := h4.resolve_left (by decide)
    obtain rfl := h5.resolve_left (by decide)
    rw [if_pos rfl, if_pos rfl]
    have r : rdX ((from8 8 0 x.1 ++ from8 8 0 x.2) ++ rest) = (x, 0, (from8 8 0 x.1 ++ from8 8 0 x.2).length) := rX i2 i3 rest
    rw [r]
    unfold qEnd
    simp only [List.drop_left]
    rfl
  rw [if_neg c2, if_neg c2]
  obtain rfl := h3.resolve_left c2
  have hs := isN_len (h6 (by omega))
  by_cases c3 : k = 3
  · subst c3
    obtain rfl := h5.resolve_left (by decide)
    rw [if_pos rfl, if_pos rfl, dT hs]
    rfl
  rw [if_neg c3, if_neg c3]
  have hn := isN_len (h7 (by omega))
  rw [List.append_assoc, dT hs]
  simp only
  rw [dT hn]
  rfl
def pF3 (n : Str × Int × List Nat) (k : Ty' × Int × List Nat) (v : Nat × Int × List Nat) : FiT × Int × List Nat := (⟨n.1, k.1, decide ((v.1 : Int) = 1)⟩, badE (decide ((1 : Int) < (v.1 : Int))) 31 v.2.1, v.2.2)
theorem pF_eq (e : Int) (bs : List Nat) : pF e bs = pF3 (pT e bs) (pK (pT e bs).2.1 (pT e bs).2.2) (pB (pK (pT e bs).2.1 (pT e bs).2.2).2.1 (pK (pT e bs).2.1 (pT e bs).2.2).2.2) := rfl
theorem bF {l : List FiT} {f : FiT} (h : fiOk l f) : Bk pF encF f := fun rest => by
  obtain ⟨⟨h1, h2⟩, _⟩ := h
  obtain ⟨n, t, v⟩ := f
  unfold encF
  rw [pF_eq]
  simp only [List.append_assoc]
  rw [bT (isN_len h1)]
  simp only
  rw [bK h2]
  simp only [List.cons_append, List.nil_append]
  rw [pB_cons]
  cases v <;> rfl
theorem dF {l : List FiT} {f : FiT} (h : fiOk l f) : Qk qF encF f := fun rest => by
  obtain ⟨⟨h1, h2⟩, _⟩ := h
  obtain ⟨n, t, v⟩ := f
  unfold encF qF
  simp only [List.append_assoc]
  rw [dT (isN_len h1)]
  simp only
  rw [dK h2]
  simp only [List.cons_append, List.nil_append]
  rw [qB_cons]
  cases v <;> rfl
theorem bH {pool : List CoT} {n : Nat} {h : HaT} (hn : n ≤ 200) (hp : pool.length ≤ 128) (hh : haOk pool n h) : Bk pH encH h := fun rest => by
  obtain ⟨⟨h1, h2, h3, h4, h5⟩, ⟨h6, h7, _⟩, h8, h9⟩ := hh
  obtain ⟨lo, hi, tg, cl, de⟩ := h
  simp only at h1 h2 h3 h4 h5 h6 h7 h8 h9
  unfold encH pH
  simp only [List.append_assoc]
  unfold pN
  rw [bC (by omega) (by omega)]
  simp only
  rw [bC (by omega) (by omega)]
  simp only
  rw [bC (by omega) (by omega)]
  simp only
  rw [bC (by omega) (by omega)]
  simp only
  rw [bC (by omega) (by omega)]
  unfold pH5
  simp only
  rw [show ((lo.toNat : Nat) : Int) = lo by omega, show ((hi.toNat : Nat) : Int) = hi by omega, show ((tg.toNat : Nat) : Int) = tg by omega, show (((cl + 1).toNat : Nat) : Int) - 1 = cl by omega, show ((de.toNat : Nat) : Int) = de by omega]
theorem dH {pool : List CoT} {n : Nat} {h : HaT} (hn : n ≤ 200) (hp : pool.length ≤ 128) (hh : haOk pool n h) : Qk qH encH h := fun rest => by
  obtain ⟨⟨h1, h2, h3, h4, h5⟩, ⟨h6, h7, _⟩, h8, h9⟩ := hh
  obtain ⟨lo, hi, tg, cl, de⟩ := h
  simp only at h1 h2 h3 h4 h5 h6 h7 h8 h9
  unfold encH qH
  simp only [List.append_assoc]
  unfold qN
  rw [dC (by omega) (by omega)]
  simp only
  rw [dC (by omega) (by omega)]
  simp only
  rw [dC (by omega) (by omega)]
  simp only
  rw [dC (by omega) (by omega)]
  simp only
  rw [dC (by omega) (by omega)]
  unfold qH5
  simp only
  rw [show ((lo.toNat : Nat) : Int) = lo by omega, show ((hi.toNat : Nat) : Int) = hi by omega, show ((tg.toNat : Nat) : Int) = tg by omega, show (((cl + 1).toNat : Nat) : Int) - 1 = cl by omega, show ((de.toNat : Nat) : Int) = de by omega]
theorem bL {α : Type} {p : Int → List Nat → α × Int × List Nat} {enc : α → List Nat} : ∀ (l : List α), (∀ x ∈ l, Bk p enc x) → ∀ rest, pL p l.length 0 (l.flatMap enc ++ rest) = (l, 0, rest)
  | [], _, rest => rfl
  | x :: l, h, rest => by
    rw [List.length_cons, List.flatMap_cons, List.append_assoc, pL_next, h x (List.mem_cons_self ..)]
    simp only
    rw [bL l fun y hy => h y (List.mem_cons_of_mem _ hy)]
theorem dL {α : Type} {q : Bool → List Nat → α × Bool × List Nat} {enc : α → List Nat} : ∀ (l : List α), (∀ x ∈ l, Qk q enc x) → ∀ rest, qL q l.length false (l.flatMap enc ++ rest) = (l, false, rest)
  | [], _, rest => rfl
  | x :: l, h, rest => by
    rw [List.length_cons, List.flatMap_cons, List.append_assoc, qL_next, h x (List.mem_cons_self ..)]
    simp only
    rw [dL l fun y hy => h y (List.mem_cons_of_mem _ hy)]
theorem bM {α : Type} {p : Int → List Nat → α × Int × List Nat} {enc : α → List Nat} {l : List α} {m : Int} (hl : (l.length : Int) ≤ m) (hm : m < 1000000) (h : ∀ x ∈ l, Bk p enc x) : Bk (pM p m) (encL enc) l := fun rest => by
  unfold encL pM
  rw [List.append_assoc, bC hl (by omega)]
  simp only
  exact bL l h rest
theorem dM {α : Type} {q : Bool → List Nat → α × Bool × List Nat} {enc : α → List Nat} {l : List α} {m : Int} (hl : (l.length : Int) ≤ m) (hm : m < 1000000) (h : ∀ x ∈ l, Qk q enc x) : Qk (qM q m) (encL enc) l := fun rest => by
  unfold encL qM
  rw [List.append_assoc, dC hl (by omega)]
  simp only
  exact dL l h rest
theorem getL_putL {l : List In} (hl : l.length ≤ 200) (h : ∀ x ∈ l, isP x.1 x.2) : getL (putL l).1 = (l, 0) := by
  have e : (putL l).1 = grp l.length ++ l.flatMap encI ++ [] := by
    unfold putL
    rw [if_neg (by omega), if_neg (fun ⟨x, hx, hn⟩ => hn (h x hx)), List.append_nil]
  rw [e, getL_back hl h []]
  rfl
theorem bCd {l : List In} (hl : l.length ≤ 200) (h : ∀ x ∈ l, isP x.1 x.2) : Bk pCd (fun l => grp (putL l).1.length ++ (putL l).1) l := fun rest => by
  have hp := putL_len l
  unfold pCd
  simp only [List.append_assoc]
  rw [bC (by omega) (by omega)]
  unfold pCd'
  have c : cdE ((putL l).1.length, (0 : Int), (putL l).1 ++ rest) = 0 := by
    unfold cdE
    simp only
    rw [decide_eq_false (by rw [List.length_append]; omega)]
    rfl
  rw [if_neg (by rw [c]; exact fun h => h rfl)]
  simp only [List.take_left, List.drop_left]
  rw [getL_putL hl h]
theorem bMe {pool : List CoT} {l : List MeT} {m : MeT} (hp : pool.length ≤ 128) (h : methOk pool l m) : Bk pMe encM m := fun rest => by
  obtain ⟨h1, h2, h3, h4, _, h5, h6, h7, h8, h9, h10, h11⟩ := h
  obtain ⟨n, ps, r, lo, st, c, hs⟩ := m
  simp only at h1 h2 h3 h4 h5 h6 h7 h8 h9 h10 h11
  rw [encM_eq]
  simp only [List.append_assoc]
  unfold pMe
  rw [bT (isN_len h1)]
  simp only
  rw [bM (by omega) (by decide) fun t ht => bK (h3 t ht)]
  simp only
  rw [bK h4]
  simp only
  unfold pN
  rw [bC (by omega) (by omega)]
  simp only
  rw [bC (by omega) (by omega)]
  simp only
  rw [← List.append_assoc (grp (putL c).1.length), bCd h7.2 fun x hx => (h8 x hx).1]
  simp only
  rw [bM (by omega) (by decide) fun x hx => bH h7.2 hp (h11 x hx)]
  unfold pMe7
  simp only
  rw [show ((lo.toNat : Nat) : Int) = lo by omega, show ((st.toNat : Nat) : Int) = st by omega]
theorem dMe {pool : List CoT} {l : List MeT} {m : MeT} (hp : pool.length ≤ 128) (h : methOk pool l m) : Qk qMe encM m := fun rest => by
  obtain ⟨h1, h2, h3, h4, _, h5, h6, h7, h8, h9, h10, h11⟩ := h
  obtain ⟨n, ps, r, lo, st, c, hs⟩ := m
  simp only at h1 h2 h3 h4 h5 h6 h7 h8 h9 h10 h11
  have hpl := putL_len c
  rw [encM_eq]
  simp only [List.append_assoc]
  unfold qMe
  rw [dT (isN_len h1)]
  simp only
  rw [dM (by omega) (by decide) fun t ht => dK (h3 t ht)]
  simp only
  rw [dK h4]
  simp only
  rw [dC (by omega) (by omega)]
  simp only
  rw [dC (by omega) (by omega)]
  simp only
  have e : ((putL c).1.length : Int) ≤ ((grp (putL c).1.length ++ ((putL c).1 ++ (encL encH hs ++ rest))).length : Int) := by
    simp only [List.length_append]
    omega
  rw [dC e (by omega)]
  unfold qMe6
  simp only
  rw [if_neg (fun h => h.elim (fun h => by cases h) fun h => by rw [List.length_append] at h; omega)]
  simp only [List.take_left, List.drop_left]
  rw [getL_putL h7.2 fun x hx => (h8 x hx).1]
  simp only
  rw [show decide ((0 : Int) ≠ 0) = false from rfl, dM (by omega) (by decide) fun x hx => dH h7.2 hp (h11 x hx)]
  simp only
  rw [show ((lo.toNat : Nat) : Int) = lo by omega, show ((st.toNat : Nat) : Int) = st by omega]
theorem bHdr (rest : List Nat) : hdr ([76, 79, 79, 77, 1] ++ rest) = (0, rest) := by
  unfold hdr
  have e : ∀ ch (r : List Nat), hd ch (0, ch :: r) = (0, r) := fun ch r => by
    unfold hd
    simp only
    rw [pB_cons]
    simp only
    rw [decide_eq_false (fun h => h rfl)]
    rfl
  show hd 1 (hd 77 (hd 79 (hd 79 (hd 76 (0, 76 :: 79 :: 79 :: 77 :: 1 :: rest))))) = _
  rw [e, e, e, e, e]
theorem at_of {α : Type} {l : List α} {x : α} (h : x ∈ l) : ∃ i : Nat, l[i]? = some x := List.getElem?_of_mem h
theorem clsOk_bF {c : ClT} (h : clsOk c) : ∀ f ∈ c.fields, Bk pF encF f ∧ Qk qF encF f := fun f hf => by
  obtain ⟨i, hi⟩ := at_of hf
  exact ⟨bF (h.2.2.2.2.1.2 i f hi), dF (h.2.2.2.2.1.2 i f hi)⟩
theorem clsOk_bM {c : ClT} (h : clsOk c) : ∀ m ∈ c.methods, Bk pMe encM m ∧ Qk qMe encM m := fun m hm => by
  obtain ⟨i, hi⟩ := at_of hm
  exact ⟨bMe h.2.2.1 (h.2.2.2.2.2.2 i m hi), dMe h.2.2.1 (h.2.2.2.2.2.2 i m hi)⟩
theorem super_len {c : ClT} (h : clsOk c) : c.super.length ≤ 20 := by
  rcases h.2.1 with e | e
  · rw [e]; exact Nat.zero_le _
  · exact isN_len e
theorem dec_back {c : ClT} (h : clsOk c) (hx : ∀ x ∈ c.pool, inX x) : dec (encC c) = (c, 0) := by
  have e : encC c = [76, 79, 79, 77, 1] ++ (encS c.name ++ (encS c.super ++ (encL encCo c.pool ++ (encL encF c.fields ++ (encL encM c.methods ++ []))))) := by
    rw [encC_eq, List.append_nil]
  have h1 := h.2.2.1
  have h2 := h.2.2.2.2.1.1
  have h3 := h.2.2.2.2.2.1
  rw [e]
  unfold dec
  rw [bHdr]
  simp only
  rw [bT (isN_len h.1)]
  simp only
  rw [bT (super_len h)]
  simp only
  rw [bM (by omega) (by decide) fun x hm => bCo (h.2.2.2.1 x hm) (hx x hm)]
  simp only
  rw [bM (by omega) (by decide) fun f hf => (clsOk_bF h f hf).1]
  simp only
  rw [bM (by omega) (by decide) fun m hm => (clsOk_bM h m hm).1]
  rfl
theorem qD_back {c : ClT} (h : clsOk c) (hx : ∀ x ∈ c.pool, inX x) : qD ((encC c).drop 5) = (c, false) := by
  have e : (encC c).drop 5 = encS c.name ++ (encS c.super ++ (encL encCo c.pool ++ (encL encF c.fields ++ (encL encM c.methods ++ [])))) := by
    rw [encC_eq, List.append_nil]
    rfl
  have h1 := h.2.2.1
  have h2 := h.2.2.2.2.1.1
  have h3 := h.2.2.2.2.2.1
  rw [e]
  unfold qD
  simp only
  rw [dT (isN_len h.1)]
  simp only
  rw [dT (super_len h)]
  simp only
  rw [dM (by omega) (by decide) fun x hm => dCo (h.2.2.2.1 x hm) (hx x hm)]
  simp only
  rw [dM (by omega) (by decide) fun f hf => (clsOk_bF h f hf).2]
  simp only
  rw [dM (by omega) (by decide) fun m hm => (clsOk_bM h m hm).2]
  rfl
end Go.Proofs.YtiecclkgjcnaoaaGreat.Ae
