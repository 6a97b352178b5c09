/-
  MORE OF A WRITER, and of the document: texts, complex numbers, all that was written.
-/
import Derived.Test.YtokieeiohfcgdaaAiSyW2
import Derived.KernelRfl
namespace Go.Proofs.Ytokieeiohfcgdaa.Ae
open Go.AE
set_option linter.unusedVariables false
set_option maxRecDepth 100000

theorem BStep.of' {A A1 : AW} {v v' : AV} {bs xs : List Nat} {n : Nat} {cs : List AV} (g : Grew A A1 1 v v' n cs) (hn : n = (bs ++ xs).length) (hc : cs = bys (bs ++ xs)) : BStep A A1 v v' bs xs := ⟨by subst hn hc; exact g.buf, g.only, g.grow⟩
theorem wrap_u64n {n : Nat} (h : n < 18446744073709551616) : IntKind.u64.wrap (n : Int) = (n : Int) := by rw [wrap_u64]; omega

/-! ### Complex numbers -/
def from8 : Nat → Nat → Nat → List Nat
  | 0, _, _ => []
  | k + 1, i, n => (n / 256 ^ i % 256) :: from8 k (i + 1) n
theorem from8_snoc : ∀ (k i n : Nat), from8 (k + 1) i n = from8 k i n ++ [n / 256 ^ (i + k) % 256]
  | 0, i, n => rfl
  | k + 1, i, n => by
    show _ :: from8 (k + 1) (i + 1) n = _
    rw [from8_snoc k (i + 1) n]
    simp only [from8, List.cons_append]
    rw [show i + 1 + k = i + (k + 1) from by omega]
theorem from8_len : ∀ k i n, (from8 k i n).length = k
  | 0, _, _ => rfl
  | k + 1, i, n => by simp [from8, from8_len k (i + 1) n]

theorem shr8 {E : Env} {A : AW} {n : Nat} {k : IntKind} : intOp E .shr .u64 (n : Int) k 8 A = .val (.int .u64 ((n / 256 : Nat) : Int)) A := by
  rw [int_shr (by decide)]
  have : ((n : Int).fdiv (2 ^ (min (8 : Int).toNat IntKind.u64.bits))) = ((n / 256 : Nat) : Int) := by
    show (n : Int).fdiv 256 = _
    rw [Int.fdiv_eq_ediv_of_nonneg _ (by decide)]
    omega
  rw [this]
theorem shr8i {E : Env} {A : AW} {n i : Nat} {k : IntKind} (h : i < 8) : intOp E .shr .u64 (n : Int) k ((8 * i : Nat) : Int) A = .val (.int .u64 ((n / 256 ^ i : Nat) : Int)) A := by
  rw [int_shr (by omega)]
  have e : min ((8 * i : Nat) : Int).toNat IntKind.u64.bits = 8 * i := by
    show min ((8 * i : Nat) : Int).toNat 64 = _
    omega
  rw [e]
  have : ((n : Int).fdiv (2 ^ (8 * i))) = ((n / 256 ^ i : Nat) : Int) := by
    rw [Int.pow_mul, Int.fdiv_eq_ediv_of_nonneg _ (Int.pow_nonneg (by decide))]
    rw [Int.natCast_ediv, Int.natCast_pow]
    rfl
  rw [this]

end Go.Proofs.Ytokieeiohfcgdaa.Ae
