/-
  CheckScopes: every run ends in true; so does the model's call.
-/
import Derived.Test.YtafamggbkobcfaaAeCheckScopes0
import Derived.Test.YtafamggbkobcfaaAeCheckScopes1
import Derived.Test.YtafamggbkobcfaaAeCheckScopes2
import Derived.Test.YtafamggbkobcfaaAeCheckScopes3
import Derived.Test.YtafamggbkobcfaaAeCheckScopes4
import Derived.Test.YtafamggbkobcfaaAeCheckScopes5
import Derived.Test.YtafamggbkobcfaaAeCheckScopes6
import Derived.Test.YtafamggbkobcfaaAeCheckScopes7
import Derived.Test.YtafamggbkobcfaaAeCheckScopes8
import Derived.Test.YtafamggbkobcfaaAeCheckScopes9
import Derived.Test.YtafamggbkobcfaaAeCheckScopes10
import Derived.Test.YtafamggbkobcfaaAeCheckScopes11
namespace Go.Proofs.Ytafamggbkobcfaa.Ae
open Go.AE Go.RowKit
set_option maxRecDepth 1000000
theorem checkScopes_all (i : Nat) (h : i < 84) : checkScopesRun i = true := by
  by_cases h0 : i < 1
  · exact span_spec checkScopes_0 i (by omega) (by omega)
  by_cases h1 : i < 2
  · exact span_spec checkScopes_1 i (by omega) (by omega)
  by_cases h2 : i < 3
  · exact span_spec checkScopes_2 i (by omega) (by omega)
  by_cases h3 : i < 4
  · exact span_spec checkScopes_3 i (by omega) (by omega)
  by_cases h4 : i < 5
  · exact span_spec checkScopes_4 i (by omega) (by omega)
  by_cases h5 : i < 6
  · exact span_spec checkScopes_5 i (by omega) (by omega)
  by_cases h6 : i < 7
  · exact span_spec checkScopes_6 i (by omega) (by omega)
  by_cases h7 : i < 8
  · exact span_spec checkScopes_7 i (by omega) (by omega)
  by_cases h8 : i < 9
  · exact span_spec checkScopes_8 i (by omega) (by omega)
  by_cases h9 : i < 10
  · exact span_spec checkScopes_9 i (by omega) (by omega)
  by_cases h10 : i < 11
  · exact span_spec checkScopes_10 i (by omega) (by omega)
  by_cases h11 : i < 12
  · exact span_spec checkScopes_11 i (by omega) (by omega)
  by_cases h12 : i < 13
  · exact span_spec checkScopes_12 i (by omega) (by omega)
  by_cases h13 : i < 14
  · exact span_spec checkScopes_13 i (by omega) (by omega)
  by_cases h14 : i < 15
  · exact span_spec checkScopes_14 i (by omega) (by omega)
  by_cases h15 : i < 16
  · exact span_spec checkScopes_15 i (by omega) (by omega)
  by_cases h16 : i < 17
  · exact span_spec checkScopes_16 i (by omega) (by omega)
  by_cases h17 : i < 18
  · exact span_spec checkScopes_17 i (by omega) (by omega)
  by_cases h18 : i < 19
  · exact span_spec checkScopes_18 i (by omega) (by omega)
  by_cases h19 : i < 20
  · exact span_spec checkScopes_19 i (by omega) (by omega)
  by_cases h20 : i < 21
  · exact span_spec checkScopes_20 i (by omega) (by omega)
  by_cases h21 : i < 22
  · exact span_spec checkScopes_21 i (by omega) (by omega)
  by_cases h22 : i < 23
  · exact span_spec checkScopes_22 i (by omega) (by omega)
  by_cases h23 : i < 24
  · exact span_spec checkScopes_23 i (by omega) (by omega)
  by_cases h24 : i < 25
  · exact span_spec checkScopes_24 i (by omega) (by omega)
  by_cases h25 : i < 26
  · exact span_spec checkScopes_25 i (by omega) (by omega)
  by_cases h26 : i < 27
  · exact span_spec checkScopes_26 i (by omega) (by omega)
  by_cases h27 : i < 28
  · exact span_spec checkScopes_27 i (by omega) (by omega)
  by_cases h28 : i < 29
  · exact span_spec checkScopes_28 i (by omega) (by omega)
  by_cases h29 : i < 30
  · exact span_spec checkScopes_29 i (by omega) (by omega)
  by_cases h30 : i < 31
  · exact span_spec checkScopes_30 i (by omega) (by omega)
  by_cases h31 : i < 32
  · exact span_spec checkScopes_31 i (by omega) (by omega)
  by_cases h32 : i < 33
  · exact span_spec checkScopes_32 i (by omega) (by omega)
  by_cases h33 : i < 34
  · exact span_spec checkScopes_33 i (by omega) (by omega)
  by_cases h34 : i < 35
  · exact span_spec checkScopes_34 i (by omega) (by omega)
  by_cases h35 : i < 36
  · exact span_spec checkScopes_35 i (by omega) (by omega)
  by_cases h36 : i < 37
  · exact span_spec checkScopes_36 i (by omega) (by omega)
  by_cases h37 : i < 38
  · exact span_spec checkScopes_37 i (by omega) (by omega)
  by_cases h38 : i < 39
  · exact span_spec checkScopes_38 i (by omega) (by omega)
  by_cases h39 : i < 40
  · exact span_spec checkScopes_39 i (by omega) (by omega)
  by_cases h40 : i < 41
  · exact span_spec checkScopes_40 i (by omega) (by omega)
  by_cases h41 : i < 42
  · exact span_spec checkScopes_41 i (by omega) (by omega)
  by_cases h42 : i < 43
  · exact span_spec checkScopes_42 i (by omega) (by omega)
  by_cases h43 : i < 44
  · exact span_spec checkScopes_43 i (by omega) (by omega)
  by_cases h44 : i < 45
  · exact span_spec checkScopes_44 i (by omega) (by omega)
  by_cases h45 : i < 46
  · exact span_spec checkScopes_45 i (by omega) (by omega)
  by_cases h46 : i < 47
  · exact span_spec checkScopes_46 i (by omega) (by omega)
  by_cases h47 : i < 48
  · exact span_spec checkScopes_47 i (by omega) (by omega)
  by_cases h48 : i < 49
  · exact span_spec checkScopes_48 i (by omega) (by omega)
  by_cases h49 : i < 50
  · exact span_spec checkScopes_49 i (by omega) (by omega)
  by_cases h50 : i < 51
  · exact span_spec checkScopes_50 i (by omega) (by omega)
  by_cases h51 : i < 52
  · exact span_spec checkScopes_51 i (by omega) (by omega)
  by_cases h52 : i < 53
  · exact span_spec checkScopes_52 i (by omega) (by omega)
  by_cases h53 : i < 54
  · exact span_spec checkScopes_53 i (by omega) (by omega)
  by_cases h54 : i < 55
  · exact span_spec checkScopes_54 i (by omega) (by omega)
  by_cases h55 : i < 56
  · exact span_spec checkScopes_55 i (by omega) (by omega)
  by_cases h56 : i < 57
  · exact span_spec checkScopes_56 i (by omega) (by omega)
  by_cases h57 : i < 58
  · exact span_spec checkScopes_57 i (by omega) (by omega)
  by_cases h58 : i < 59
  · exact span_spec checkScopes_58 i (by omega) (by omega)
  by_cases h59 : i < 60
  · exact span_spec checkScopes_59 i (by omega) (by omega)
  by_cases h60 : i < 61
  · exact span_spec checkScopes_60 i (by omega) (by omega)
  by_cases h61 : i < 62
  · exact span_spec checkScopes_61 i (by omega) (by omega)
  by_cases h62 : i < 63
  · exact span_spec checkScopes_62 i (by omega) (by omega)
  by_cases h63 : i < 64
  · exact span_spec checkScopes_63 i (by omega) (by omega)
  by_cases h64 : i < 65
  · exact span_spec checkScopes_64 i (by omega) (by omega)
  by_cases h65 : i < 66
  · exact span_spec checkScopes_65 i (by omega) (by omega)
  by_cases h66 : i < 67
  · exact span_spec checkScopes_66 i (by omega) (by omega)
  by_cases h67 : i < 68
  · exact span_spec checkScopes_67 i (by omega) (by omega)
  by_cases h68 : i < 69
  · exact span_spec checkScopes_68 i (by omega) (by omega)
  by_cases h69 : i < 70
  · exact span_spec checkScopes_69 i (by omega) (by omega)
  by_cases h70 : i < 71
  · exact span_spec checkScopes_70 i (by omega) (by omega)
  by_cases h71 : i < 72
  · exact span_spec checkScopes_71 i (by omega) (by omega)
  by_cases h72 : i < 73
  · exact span_spec checkScopes_72 i (by omega) (by omega)
  by_cases h73 : i < 74
  · exact span_spec checkScopes_73 i (by omega) (by omega)
  by_cases h74 : i < 75
  · exact span_spec checkScopes_74 i (by omega) (by omega)
  by_cases h75 : i < 76
  · exact span_spec checkScopes_75 i (by omega) (by omega)
  by_cases h76 : i < 77
  · exact span_spec checkScopes_76 i (by omega) (by omega)
  by_cases h77 : i < 78
  · exact span_spec checkScopes_77 i (by omega) (by omega)
  by_cases h78 : i < 79
  · exact span_spec checkScopes_78 i (by omega) (by omega)
  by_cases h79 : i < 80
  · exact span_spec checkScopes_79 i (by omega) (by omega)
  by_cases h80 : i < 81
  · exact span_spec checkScopes_80 i (by omega) (by omega)
  by_cases h81 : i < 82
  · exact span_spec checkScopes_81 i (by omega) (by omega)
  by_cases h82 : i < 83
  · exact span_spec checkScopes_82 i (by omega) (by omega)
  exact span_spec checkScopes_83 i (by omega) (by omega)
theorem checkScopes (a0 : Int) (a1 : Int) (a2 : Bool) (w0 : (Lit.int .u8 a0).wf = true) (w1 : (Lit.int .u8 a1).wf = true) (w : World) : Calls Try.prog 4 #[.int .u8 a0, .int .u8 a1, .bool a2] w fun e w' => e = .returned (.bool true) ∧ Below w.heap.size w w' := by
  obtain ⟨n0, hn0, rfl⟩ := byte_of w0
  obtain ⟨n1, hn1, rfl⟩ := byte_of w1
  obtain ⟨n2, hn2, hb2⟩ : ∃ n : Nat, n < 2 ∧ Nat.beq n 1 = a2 := by
    cases a2
    · exact ⟨0, by omega, rfl⟩
    · exact ⟨1, by omega, rfl⟩
  have h := checkScopes_all (n0 % 6 * 1 + n1 % 7 * 6 + n2 * 42) (by omega)
  unfold checkScopesRun at h
  have e0 : Nat.mod (Nat.div (n0 % 6 * 1 + n1 % 7 * 6 + n2 * 42) 1) 6 = n0 % 6 := by
    show (n0 % 6 * 1 + n1 % 7 * 6 + n2 * 42) / 1 % 6 = n0 % 6
    omega
  have e1 : Nat.mod (Nat.div (n0 % 6 * 1 + n1 % 7 * 6 + n2 * 42) 6) 7 = n1 % 7 := by
    show (n0 % 6 * 1 + n1 % 7 * 6 + n2 * 42) / 6 % 7 = n1 % 7
    omega
  have e2 : Nat.mod (Nat.div (n0 % 6 * 1 + n1 % 7 * 6 + n2 * 42) 42) 2 = n2 := by
    show (n0 % 6 * 1 + n1 % 7 * 6 + n2 * 42) / 42 % 2 = n2
    omega
  rw [e0, e1, e2, hb2] at h
  exact R.top envKnown h (LRel.cons (.rest _ hn0 rfl) (LRel.cons (.rest _ hn1 rfl) (LRel.cons (.bool _) (LRel.nil _)))) w
end Go.Proofs.Ytafamggbkobcfaa.Ae
