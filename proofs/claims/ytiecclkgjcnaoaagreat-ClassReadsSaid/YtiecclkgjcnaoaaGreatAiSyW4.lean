/-
  A WRITER'S FUNCTIONS Byte and Uint, by the rules.
  THE OTHER FUNCTIONS OF A WRITER, and those of the document, by the rules.
  MORE OF A WRITER, and of the document: texts, complex numbers, all that was written.
  COMPLEX NUMBERS, AND ALL THAT WAS WRITTEN, by the rules.
-/
import Derived.Test.YtiecclkgjcnaoaaGreatAiSyTab
import Derived.Test.YtiecclkgjcnaoaaGreatAiSy4
import Derived.KernelRfl
namespace Go.Proofs.YtiecclkgjcnaoaaGreat.Ae
open Go.AE
set_option linter.unusedVariables false
set_option maxRecDepth 100000
structure Wr (A : AW) (fw : Nat) (v : AV) (bs : List Nat) : Prop where
  cell : A.heap.get fw = some (.cells 0 false 1 [v])
  buf : Buf A 1 v bs.length (bys bs)
  own : ¬ v.isFam fw
theorem Wr.keep {A A1 : AW} {fw : Nat} {v : AV} {bs : List Nat} {T : Nat → Prop} (h : Wr A fw v bs) (ho : Only A A1 T) (hd : Disj (both (one fw) v.isFam) T) : Wr A1 fw v bs :=
  ⟨ho.keep fw _ h.cell (hd fw (.inl rfl)), h.buf.keep ho fun g hg => hd g (.inr hg), h.own⟩
theorem Wr.under {A : AW} {fw : Nat} {v : AV} {bs : List Nat} (hw : Wf A) (h : Wr A fw v bs) : Under A (both (one fw) v.isFam) := fun g hg => by
  rcases hg with rfl | hg
  · exact hw _ _ h.cell
  · exact h.buf.under hw g hg
theorem Wr.step {A A0 A1 : AW} {fw : Nat} {v v' : AV} {bs xs : List Nat} (hw : Wf A) (h : Wr A fw v bs) (h0 : Only A A0 none') (g : Grew A0 A1 1 v v' (bs.length + xs.length) (bys bs ++ bys xs)) :
    A1.heap.get fw = some (.cells 0 false 1 [v]) ∧ Wr (A1.put fw (.cells 0 false 1 [v'])) fw v' (bs ++ xs) ∧ Only A (A1.put fw (.cells 0 false 1 [v'])) (both (one fw) v.isFam) ∧ Grow A v.isFam v'.isFam := by
  obtain ⟨h1, h2, h3⟩ := h
  have e0 := h0.keep fw _ h1 fun h => h
  have e1 := g.only.keep fw _ e0 h3
  have hf := hw _ _ h1
  have hf0 := h0.wf _ _ e0
  have hf1 := g.only.wf _ _ e1
  have h3' : ¬ v'.isFam fw := fun e => by
    rcases g.grow fw e with h | h
    · exact h3 h
    · omega
  have op : Only A1 (A1.put fw (.cells 0 false 1 [v'])) (one fw) := Only.put g.only.wf hf1
  refine ⟨e1, ⟨by simp, ?_, h3'⟩, ⟨op.wf, Nat.le_trans h0.nxt (Nat.le_trans g.only.nxt op.nxt), fun k F hk hn => op.keep k F (g.only.keep k F (h0.keep k F hk fun h => h) fun h => hn (.inr h)) fun h => hn (.inl h)⟩, fun k hk => ?_⟩
  · have := g.buf.keep op fun k hk e => by cases e; exact h3' hk
    rw [List.length_append, bys_append]
    exact this
  · rcases g.grow k hk with h | h
    · exact .inl h
    · exact .inr (Nat.le_trans h0.nxt h)
structure WStep (A A1 : AW) (fw : Nat) (v v' : AV) (bs xs : List Nat) : Prop where
  wr : Wr A1 fw v' (bs ++ xs)
  only : Only A A1 (both (one fw) v.isFam)
  grow : Grow A v.isFam v'.isFam
theorem WStep.refl {A : AW} {fw : Nat} {v : AV} {bs : List Nat} (hw : Wf A) (h : Wr A fw v bs) : WStep A A fw v v bs [] := ⟨by simpa using h, Only.refl hw _, Grow.refl _ _⟩
theorem WStep.trans {A A1 A2 : AW} {fw : Nat} {v v1 v2 : AV} {bs xs ys : List Nat} (hw : Wf A) (h : WStep A A1 fw v v1 bs xs) (k : WStep A1 A2 fw v1 v2 (bs ++ xs) ys) : WStep A A2 fw v v2 bs (xs ++ ys) :=
  ⟨by rw [← List.append_assoc]; exact k.wr, h.only.trans hw k.only fun g hg => by
    rcases hg with hg | hg
    · exact .inl (.inl hg)
    · rcases h.grow g hg with h | h
      · exact .inl (.inr h)
      · exact .inr h, h.grow.trans k.grow h.only.nxt⟩
def grp (n : Nat) : List Nat := if h : n < 128 then [n] else (n % 128 + 128) :: grp (n / 128)
termination_by n
theorem grp_lt {n : Nat} (h : n < 128) : grp n = [n] := by rw [grp, dif_pos h]
theorem grp_ge {n : Nat} (h : ¬ n < 128) : grp n = (n % 128 + 128) :: grp (n / 128) := by rw [grp, dif_neg h]
theorem grp_len : ∀ (k n : Nat), n < 128 ^ (k + 1) → (grp n).length ≤ k + 1
  | 0, n, h => by rw [grp_lt (by simpa using h)]; simp
  | k + 1, n, h => by
    by_cases h1 : n < 128
    · rw [grp_lt h1]; simp
    · rw [grp_ge h1]
      have := grp_len k (n / 128) (by rw [Nat.pow_succ] at h; exact Nat.div_lt_of_lt_mul (by rw [Nat.mul_comm]; exact h))
      simp only [List.length_cons]
      omega
theorem grp_len10 {n : Nat} (h : n < 18446744073709551616) : (grp n).length ≤ 10 := grp_len 9 n (Nat.lt_trans h (by decide))
theorem or128 : ∀ m : Fin 256, IntKind.u8.wrap ((BitVec.ofInt 8 (m.val : Int) ||| BitVec.ofInt 8 128).toNat : Int) = ((m.val % 128 + 128 : Nat) : Int) := by decide +kernel
theorem or128_of {n : Nat} : IntKind.u8.wrap ((BitVec.ofInt IntKind.u8.bits ((n % 256 : Nat) : Int) ||| BitVec.ofInt IntKind.u8.bits 128).toNat : Int) = ((n % 128 + 128 : Nat) : Int) := by
  have := or128 ⟨n % 256, Nat.mod_lt _ (by decide)⟩
  simp only at this
  rw [Nat.mod_mod_of_dvd _ (by decide)] at this
  exact this
theorem wrap_u8n (n : Nat) : IntKind.u8.wrap (n : Int) = ((n % 256 : Nat) : Int) := by rw [wrap_u8]; omega
theorem shr7 {E : Env} {A : AW} {n : Nat} {k : IntKind} : intOp E .shr .u64 (n : Int) k 7 A = .val (.int .u64 ((n / 128 : Nat) : Int)) A := by
  rw [int_shr (by decide)]
  have : ((n : Int).fdiv (2 ^ (min (7 : Int).toNat IntKind.u64.bits))) = ((n / 128 : Nat) : Int) := by
    show (n : Int).fdiv 128 = _
    rw [Int.fdiv_eq_ediv_of_nonneg _ (by decide)]
    omega
  rw [this]
end Go.Proofs.YtiecclkgjcnaoaaGreat.Ae
namespace Go.Proofs.YtiecclkgjcnaoaaGreat.Ae
open Go.AE
set_option linter.unusedVariables false
set_option maxRecDepth 100000
structure BStep (A A1 : AW) (v v' : AV) (bs xs : List Nat) : Prop where
  buf : Buf A1 1 v' (bs ++ xs).length (bys (bs ++ xs))
  only : Only A A1 v.isFam
  grow : Grow A v.isFam v'.isFam
theorem BStep.refl {A : AW} {v : AV} {bs : List Nat} (hw : Wf A) (h : Buf A 1 v bs.length (bys bs)) : BStep A A v v bs [] := ⟨by simpa using h, Only.refl hw _, Grow.refl _ _⟩
theorem BStep.trans {A A1 A2 : AW} {v v1 v2 : AV} {bs xs ys : List Nat} (hw : Wf A) (h : BStep A A1 v v1 bs xs) (k : BStep A1 A2 v1 v2 (bs ++ xs) ys) : BStep A A2 v v2 bs (xs ++ ys) :=
  ⟨by rw [← List.append_assoc]; exact k.buf, h.only.trans hw k.only h.grow, h.grow.trans k.grow h.only.nxt⟩
theorem BStep.of {A A0 A1 : AW} {v v' : AV} {bs xs : List Nat} (h0 : Only A A0 none') (g : Grew A0 A1 1 v v' (bs.length + xs.length) (bys bs ++ bys xs)) : BStep A A1 v v' bs xs :=
  ⟨by rw [List.length_append, bys_append]; exact g.buf, (h0.mono fun _ h => h.elim).same g.only, fun k hk => by
    rcases g.grow k hk with h | h
    · exact .inl h
    · exact .inr (Nat.le_trans h0.nxt h)⟩
theorem refUint_spec {K : FuncId} {A : AW} {v : AV} {bs : List Nat} {n : Nat} (hw : Wf A) (h : Buf A 1 v bs.length (bys bs)) (hl : bs.length < 1000000000000) (hn : n < 18446744073709551616) :
    CallP (ES K) 115 [v, .int .u64 (n : Int)] A fun r A1 => BStep A A1 v r bs (grp n) := by
  refine call_of rfl rfl rfl ?_
  repeat (first | refine qO ?_ | refine qY ?_ | refine qA ?_ | refine qG ?_ | refine qE rfl rfl ?_)
  refine wg_loop ?_
  refine wg_le (.put 0 v (.put 1 (.int .u64 (n : Int)) .nil)) ?_ ⟨rfl, rfl, trivial⟩
  refine wg_ind (ι := Nat × List Nat × AV) (fun i => i.1) (fun i => .put 0 i.2.2 (.put 1 (.int .u64 (i.1 : Int)) .nil))
    (fun i A1 => BStep A A1 v i.2.2 bs i.2.1 ∧ i.2.1 ++ grp i.1 = grp n) ?_ (n, [], v) A ⟨BStep.refl hw h, rfl⟩
  rintro ⟨m, xs, u⟩ A1 ⟨hs, hm⟩ ih
  have hs : BStep A A1 v u bs xs := hs
  have hm : xs ++ grp m = grp n := hm
  have hl1 : xs.length ≤ 10 := by
    have := grp_len10 hn
    rw [← hm, List.length_append] at this
    omega
  repeat (first | refine qO ?_ | refine qA ?_ | refine qG ?_ | refine qJ rfl rfl ?_ | refine wo_geq rfl rfl rfl ?_)
  refine qV rfl (fun hge => ?_) fun hlt => ?_
  · have hge : ¬ m < 128 := fun h => by
      have : (128 : Int) ≤ (m : Int) := hge
      omega
    repeat (first | refine qO ?_ | refine qS ?_ | refine qY ?_ | refine qA ?_ | refine qJ rfl rfl ?_)
    refine wo_conv rfl rfl rfl rfl ((m % 256 : Nat) : Int) (wrap_u8n m) ?_
    refine wo_bin rfl rfl rfl (v := .int .u8 ((m % 128 + 128 : Nat) : Int)) (by rw [int_or]; exact congrArg (fun z => OpR.val (.int .u8 z) A1) or128_of) ?_
    repeat refine wo_buildSlice rfl rfl rfl ?_
    have o1 : Only A1 (A1.add (.cells 0 false 1 [.int .u8 ((m % 128 + 128 : Nat) : Int)])) none' := Only.add hs.only.wf _
    refine wo_append rfl rfl rfl rfl rfl (append_buf (de := d5) (m := 1) (xs := [.int .u8 ((m % 128 + 128 : Nat) : Int)]) rfl rfl rfl rfl o1.wf (hs.buf.keep o1 fun _ _ h => h) ?_ rfl (by decide) (room_of (by rw [List.length_append]; omega) (by decide))) ?_
    · simp only [srcA, readCells]
      rw [AW.add_get, if_pos rfl]
      rfl
    intro v' A2 g
    have k := BStep.of (xs := [m % 128 + 128]) o1 g
    repeat (first | refine qA ?_ | refine qG ?_ | refine qJ rfl rfl ?_ | refine qE rfl rfl ?_)
    refine wo_bin rfl rfl rfl shr7 ?_
    repeat (first | refine xB ?_ | refine qG ?_ | refine qE rfl rfl ?_)
    refine xN ?_
    refine wg_le (.put 0 v' (.put 1 (.int .u64 ((m / 128 : Nat) : Int)) .nil)) ?_ ⟨rfl, rfl, trivial⟩
    refine ih (m / 128, xs ++ [m % 128 + 128], v') A2 (by simp only; omega) ⟨hs.trans hw k, ?_⟩
    simp only [List.append_assoc, List.cons_append, List.nil_append]
    rw [← grp_ge hge, hm]
  · have hlt : m < 128 := by
      have : ¬ (128 : Int) ≤ (m : Int) := hlt
      omega
    refine wg_exit rfl ?_
    repeat (first | refine qO ?_ | refine qA ?_ | refine qJ rfl rfl ?_)
    refine wo_conv rfl rfl rfl rfl ((m % 256 : Nat) : Int) (wrap_u8n m) ?_
    repeat refine wo_buildSlice rfl rfl rfl ?_
    have o1 : Only A1 (A1.add (.cells 0 false 1 [.int .u8 ((m % 256 : Nat) : Int)])) none' := Only.add hs.only.wf _
    refine wo_append rfl rfl rfl rfl rfl (append_buf (de := d5) (m := 1) (xs := [.int .u8 ((m % 256 : Nat) : Int)]) rfl rfl rfl rfl o1.wf (hs.buf.keep o1 fun _ _ h => h) ?_ rfl (by decide) (room_of (by rw [List.length_append]; omega) (by decide))) ?_
    · simp only [srcA, readCells]
      rw [AW.add_get, if_pos rfl]
      rfl
    intro v' A2 g
    have k := BStep.of (xs := [m % 256]) o1 g
    repeat (first | refine qG ?_ | refine qE rfl rfl ?_)
    refine qQ rfl ?_
    have := hs.trans hw k
    rw [Nat.mod_eq_of_lt (by omega), ← grp_lt hlt, hm] at this
    exact this
def zz (z : Int) : Nat := if z < 0 then (-z - 1).toNat * 2 + 1 else z.toNat * 2
theorem zz_lt {z : Int} (h1 : -9223372036854775808 ≤ z) (h2 : z < 9223372036854775808) : zz z < 18446744073709551616 := by
  unfold zz
  split <;> omega
theorem xor_zero {a : Nat} (h : a < 18446744073709551616) : IntKind.u64.wrap ((BitVec.ofInt 64 (a : Int) ^^^ BitVec.ofInt 64 0).toNat : Int) = (a : Int) := by
  have : BitVec.ofInt 64 0 = 0#64 := rfl
  rw [this, BitVec.xor_zero, wrap_u64, BitVec.toNat_ofInt]
  omega
theorem xor_ones {a : Nat} (h : a < 18446744073709551616) : IntKind.u64.wrap ((BitVec.ofInt 64 (a : Int) ^^^ BitVec.ofInt 64 18446744073709551615).toNat : Int) = ((18446744073709551615 - a : Nat) : Int) := by
  have : BitVec.ofInt 64 18446744073709551615 = BitVec.allOnes 64 := by decide
  rw [this, BitVec.xor_allOnes, wrap_u64, BitVec.toNat_not, BitVec.toNat_ofInt]
  omega
theorem refInt_spec {K : FuncId} {A : AW} {v : AV} {bs : List Nat} {z : Int} (hw : Wf A) (h : Buf A 1 v bs.length (bys bs)) (hl : bs.length < 1000000000000) (h1 : -9223372036854775808 ≤ z) (h2 : z < 9223372036854775808) :
    CallP (ES K) 116 [v, .int .i64 z] A fun r A1 => BStep A A1 v r bs (grp (zz z)) := by
  refine call_of rfl rfl rfl ?_
  repeat (first | refine qO ?_ | refine qA ?_ | refine qG ?_ | refine qJ rfl rfl ?_ | refine qE rfl rfl ?_ | refine xM rfl rfl rfl ?_)
  refine qV rfl (fun hz => ?_) fun hz => ?_
  · have hz : z < 0 := hz
    repeat (first | refine qO ?_ | refine qA ?_ | refine qJ rfl rfl ?_)
    refine wo_add rfl rfl rfl (by omega) (by omega) ?_
    refine wo_neg rfl rfl ?_
    refine wo_conv rfl rfl rfl rfl (-z - 1) ?_ ?_
    · rw [wrap_i64 (by omega) (by omega), wrap_u64]
      omega
    refine wo_bin rfl rfl rfl (v := .int .u64 ((-z - 1) * 2)) (by rw [int_mul, wrap_u64]; exact congrArg (fun x => OpR.val (.int .u64 x) A) (by omega)) ?_
    refine wo_bin rfl rfl rfl (v := .int .u64 (zz z : Int)) ?_ ?_
    · rw [int_add, wrap_u64]
      refine congrArg (fun x => OpR.val (.int .u64 x) A) ?_
      unfold zz
      rw [if_pos hz]
      omega
    refine qU rfl rfl orc_cons rfl (refUint_spec hw h hl (zz_lt h1 h2)) ?_
    intro r A2 k
    repeat (first | refine qG ?_ | refine qE rfl rfl ?_)
    exact qQ rfl k
  · have hz : ¬ z < 0 := hz
    repeat (first | refine qO ?_ | refine qS ?_ | refine qA ?_ | refine qJ rfl rfl ?_)
    refine wo_conv rfl rfl rfl rfl z ?_ ?_
    · rw [wrap_u64]
      omega
    refine wo_bin rfl rfl rfl (v := .int .u64 (zz z : Int)) ?_ ?_
    · rw [int_mul, wrap_u64]
      refine congrArg (fun x => OpR.val (.int .u64 x) A) ?_
      unfold zz
      rw [if_neg hz]
      omega
    refine qU rfl rfl orc_cons rfl (refUint_spec hw h hl (zz_lt h1 h2)) ?_
    intro r A2 k
    repeat (first | refine qG ?_ | refine qE rfl rfl ?_)
    exact qQ rfl k
end Go.Proofs.YtiecclkgjcnaoaaGreat.Ae
namespace Go.Proofs.YtiecclkgjcnaoaaGreat.Ae
open Go.AE
set_option linter.unusedVariables false
set_option maxRecDepth 100000
theorem BStep.of' {A A1 : AW} {v v' : AV} {bs xs : List Nat} {n : Nat} {cs : List AV} (g : Grew A A1 1 v v' n cs) (hn : n = (bs ++ xs).length) (hc : cs = bys (bs ++ xs)) : BStep A A1 v v' bs xs := ⟨by subst hn hc; exact g.buf, g.only, g.grow⟩
theorem wrap_u64n {n : Nat} (h : n < 18446744073709551616) : IntKind.u64.wrap (n : Int) = (n : Int) := by rw [wrap_u64]; omega
theorem refText_spec {K : FuncId} {A : AW} {v : AV} {bs s : List Nat} (hw : Wf A) (h : Buf A 1 v bs.length (bys bs)) (hl : bs.length < 1000000) (hs : s.length < 1000000) :
    CallP (ES K) 79 [v, .str s] A fun r A1 => BStep A A1 v r bs (grp s.length ++ s) := by
  refine call_of rfl rfl rfl ?_
  repeat (first | refine qO ?_ | refine qA ?_ | refine qG ?_ | refine qJ rfl rfl ?_ | refine qE rfl rfl ?_ | refine wo_lenStr rfl rfl rfl ?_)
  refine wo_conv rfl rfl rfl rfl (s.length : Int) (wrap_u64n (by omega)) ?_
  refine qU rfl rfl orc_cons rfl (refUint_spec hw h (by omega) (by omega)) ?_
  intro r A2 k
  have hl10 := grp_len10 (n := s.length) (by omega)
  repeat refine qJ rfl rfl ?_
  refine wo_append rfl rfl rfl rfl rfl (append_buf (de := d5) (m := s.length) (xs := bys s) rfl rfl rfl rfl k.only.wf k.buf ?_ ?_ (by decide) (room_of (by rw [List.length_append]; omega) (by decide))) ?_
  · show (bif Nat.beq 1 1 then some (len s, cellsOfStr s) else none) = _
    rw [bys_str, len_eq]
    rfl
  · rw [bys_length]; exact (Nat.mul_one _).symm
  intro v' A3 g
  repeat (first | refine qG ?_ | refine qE rfl rfl ?_)
  exact qQ rfl (k.trans hw (BStep.of' g (by simp; omega) (by simp [bys_append])))
def from8 : Nat → Nat → Nat → List Nat
  | 0, _, _ => []
  | k + 1, i, n => (n / 256 ^ i % 256) :: from8 k (i + 1) n
theorem from8_snoc : ∀ (k i n : Nat), from8 (k + 1) i n = from8 k i n ++ [n / 256 ^ (i + k) % 256]
  | 0, i, n => rfl
  | k + 1, i, n => by
    show _ :: from8 (k + 1) (i + 1) n = _
    rw [from8_snoc k (i + 1) n]
    simp only [from8, List.cons_append]
    rw [show i + 1 + k = i + (k + 1) from by omega]
theorem from8_len : ∀ k i n, (from8 k i n).length = k
  | 0, _, _ => rfl
  | k + 1, i, n => by simp [from8, from8_len k (i + 1) n]
theorem shr8i {E : Env} {A : AW} {n i : Nat} {k : IntKind} (h : i < 8) : intOp E .shr .u64 (n : Int) k ((8 * i : Nat) : Int) A = .val (.int .u64 ((n / 256 ^ i : Nat) : Int)) A := by
  rw [int_shr (by omega)]
  have e : min ((8 * i : Nat) : Int).toNat IntKind.u64.bits = 8 * i := by
    show min ((8 * i : Nat) : Int).toNat 64 = _
    omega
  rw [e]
  have : ((n : Int).fdiv (2 ^ (8 * i))) = ((n / 256 ^ i : Nat) : Int) := by
    rw [Int.pow_mul, Int.fdiv_eq_ediv_of_nonneg _ (Int.pow_nonneg (by decide))]
    rw [Int.natCast_ediv, Int.natCast_pow]
    rfl
  rw [this]
theorem eight_spec {K : FuncId} {A : AW} {v : AV} {bs : List Nat} {n : Nat} (hw : Wf A) (h : Buf A 1 v bs.length (bys bs)) (hl : bs.length < 1000000) :
    CallP (ES K) 131 [v, .int .u64 (n : Int)] A fun r A1 => BStep A A1 v r bs (from8 8 0 n) := by
  refine call_of rfl rfl rfl ?_
  repeat (first | refine qO ?_ | refine qY ?_ | refine qA ?_ | refine qG ?_ | refine qE rfl rfl ?_)
  refine wg_loop ?_
  refine wg_le (.put 0 v (.put 1 (.int .u64 (n : Int)) (.put 5 (.int .i64 ((0 : Nat) : Int)) .nil))) ?_ ⟨rfl, rfl, rfl, trivial⟩
  refine wg_ind (ι := Nat × AV) (fun i => 8 - i.1) (fun i => .put 0 i.2 (.put 1 (.int .u64 (n : Int)) (.put 5 (.int .i64 (i.1 : Int)) .nil)))
    (fun i A1 => i.1 ≤ 8 ∧ BStep A A1 v i.2 bs (from8 i.1 0 n)) ?_ (0, v) A ⟨Nat.zero_le _, BStep.refl hw h⟩
  rintro ⟨i, u⟩ A1 ⟨hi, hs⟩ ih
  have hi : i ≤ 8 := hi
  have hs : BStep A A1 v u bs (from8 i 0 n) := hs
  repeat (first | refine qO ?_ | refine qA ?_ | refine qG ?_ | refine qJ rfl rfl ?_ | refine xM rfl rfl rfl ?_)
  refine qV rfl (fun hlt => ?_) fun hge => ?_
  · have hlt : i < 8 := Int.ofNat_lt.1 hlt
    repeat (first | refine qO ?_ | refine qS ?_ | refine qY ?_ | refine qA ?_ | refine qJ rfl rfl ?_)
    refine wo_bin rfl rfl rfl (v := .int .i64 ((8 * i : Nat) : Int)) (by rw [int_mul, wrap_i64 (by omega) (by omega)]; rfl) ?_
    refine wo_bin rfl rfl rfl (shr8i hlt) ?_
    refine wo_conv rfl rfl rfl rfl ((n / 256 ^ i % 256 : Nat) : Int) (wrap_u8n _) ?_
    repeat refine wo_buildSlice rfl rfl rfl ?_
    refine wo_append rfl rfl rfl rfl rfl (append_one (de := d5) rfl rfl rfl rfl hs.only.wf hs.buf rfl (by decide) (room_of (by rw [List.length_append, from8_len]; omega) (by decide))) ?_
    intro v' A2 g
    have k := BStep.of' (bs := bs ++ from8 i 0 n) (xs := [n / 256 ^ i % 256]) g (by simp; omega) (by rw [bys_append (bs ++ from8 i 0 n)]; rfl)
    repeat (first | refine xB ?_ | refine qA ?_ | refine qG ?_ | refine qJ rfl rfl ?_ | refine qE rfl rfl ?_)
    refine wo_add rfl rfl rfl (by omega) (by omega) ?_
    repeat (first | refine qG ?_ | refine qE rfl rfl ?_)
    refine xN ?_
    refine wg_le (.put 0 v' (.put 1 (.int .u64 (n : Int)) (.put 5 (.int .i64 ((i + 1 : Nat) : Int)) .nil))) ?_ ⟨rfl, rfl, rfl, trivial⟩
    refine ih (i + 1, v') A2 (by simp only; omega) ⟨by simp only; omega, ?_⟩
    have := hs.trans hw k
    rw [show [n / 256 ^ i % 256] = [n / 256 ^ (0 + i) % 256] from by rw [Nat.zero_add], ← from8_snoc] at this
    exact this
  · have hge : i = 8 := by
      have : ¬ (i : Int) < 8 := hge
      omega
    subst hge
    refine wg_exit rfl ?_
    repeat (first | refine qO ?_ | refine qA ?_ | refine qG ?_ | refine qJ rfl rfl ?_ | refine qE rfl rfl ?_)
    exact qQ rfl hs
end Go.Proofs.YtiecclkgjcnaoaaGreat.Ae
namespace Go.Proofs.YtiecclkgjcnaoaaGreat.Ae
open Go.AE
set_option linter.unusedVariables false
set_option maxRecDepth 100000
theorem of_spec {K : FuncId} {A : AW} {a b : Nat} : CallP (ES K) 109 [.int .u64 (a : Int), .int .u64 (b : Int)] A fun r A1 => r = .cplx .f64 a b ∧ A1 = A := by
  refine call_of rfl rfl rfl ?_
  repeat (first | refine qO ?_ | refine qA ?_ | refine qG ?_ | refine qJ rfl rfl ?_ | refine qE rfl rfl ?_)
  refine wo_ext (v := .float .f64 a) (A1 := A) rfl rfl orc_cons rfl (by kernel_rfl) ?_
  repeat refine qJ rfl rfl ?_
  refine wo_ext (v := .float .f64 b) (A1 := A) rfl rfl orc_cons rfl (by kernel_rfl) ?_
  refine wo_builtin rfl rfl rfl ?_
  repeat (first | refine qG ?_ | refine qE rfl rfl ?_)
  exact qQ rfl ⟨rfl, rfl⟩
theorem bits_spec {K : FuncId} {A : AW} {a b : Nat} : CallP (ES K) 84 [.cplx .f64 a b] A fun r A1 => r = .tuple [.int .u64 (a : Int), .int .u64 (b : Int)] ∧ A1 = A := by
  refine call_of rfl rfl rfl ?_
  repeat (first | refine qO ?_ | refine qA ?_ | refine qG ?_ | refine qJ rfl rfl ?_ | refine qE rfl rfl ?_)
  refine wo_builtin rfl rfl rfl ?_
  refine wo_ext (v := .int .u64 (a : Int)) (A1 := A) rfl rfl orc_cons rfl (by kernel_rfl) ?_
  repeat refine qJ rfl rfl ?_
  refine wo_builtin rfl rfl rfl ?_
  refine wo_ext (v := .int .u64 (b : Int)) (A1 := A) rfl rfl orc_cons rfl (by kernel_rfl) ?_
  repeat (first | refine qG ?_ | refine qE rfl rfl ?_)
  exact qQ rfl ⟨rfl, rfl⟩
theorem refCplx_spec {K : FuncId} {A : AW} {v : AV} {bs : List Nat} {a b : Nat} (hw : Wf A) (h : Buf A 1 v bs.length (bys bs)) (hl : bs.length < 100000) :
    CallP (ES K) 117 [v, .cplx .f64 a b] A fun r A1 => BStep A A1 v r bs (from8 8 0 a ++ from8 8 0 b) := by
  refine call_of rfl rfl rfl ?_
  repeat (first | refine qO ?_ | refine qA ?_ | refine qG ?_ | refine qJ rfl rfl ?_ | refine qE rfl rfl ?_)
  refine qU rfl rfl orc_cons rfl bits_spec ?_
  rintro r A1 ⟨rfl, rfl⟩
  repeat (first | refine qO ?_ | refine qA ?_ | refine qG ?_ | refine qJ rfl rfl ?_ | refine qE rfl rfl ?_ | refine xK rfl rfl rfl ?_)
  refine qU rfl rfl orc_cons rfl (eight_spec hw h (by omega)) ?_
  intro r A2 k
  repeat refine qJ rfl rfl ?_
  refine qU rfl rfl orc_cons rfl (eight_spec k.only.wf k.buf (by rw [List.length_append, from8_len]; omega)) ?_
  intro r' A3 k'
  repeat (first | refine qG ?_ | refine qE rfl rfl ?_)
  exact qQ rfl (k.trans hw k')
end Go.Proofs.YtiecclkgjcnaoaaGreat.Ae
