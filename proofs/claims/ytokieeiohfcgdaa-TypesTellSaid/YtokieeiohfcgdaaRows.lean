/-
  No cell of these rows narrows 'for every input' (looked for: loops, veiled, ifaces, maps, wideKeys, modest, calm, conditions, laid).
  DERIVED. THE GIVEN ROWS OF THIS SEAT. 11 by the template 'for every input the law returns true; each argument reads behind the call as it read before'; 0 by the template 'total and deterministic' (their statements: YtokieeiohfcgdaaTotals.lean).
  GIVEN WITH THE SEED: the statements are not yours to turn. If you find one false, say at which input.
  Laid BY PROGRAM, IN A SANDBOX (cutbox-rows.mjs): the forced cells as the released guide's own fill.sh prints them over the translation a5601a9d83789e98… (all of the seat's roots in one cut). By AI agents, Wed Nov 11 2026. No macro, syntax, notation, axiom, sorry.
-/
import Derived.Test.YtokieeiohfcgdaaChecked
import GoSem.Claim
import GoSem.ClaimJoined
import GoSem.ClaimMapViews
import Derived.JoinedTies
import Derived.KernelRfl
namespace Go.Proofs.Ytokieeiohfcgdaa
/- THE CELL 'sum', in the pinned program and in every row, IS THE sha256 OF THE DUMP (.gsa) THAT YtokieeiohfcgdaaProg.lean LOADS. Nothing in Lean hashes anything: it is a label: what it is worth is what the hold of that sum in a sandbox is worth. -/
noncomputable def Try.pinned : Pinned := { name := "ytokieeiohfcgdaa", sum := "a5601a9d83789e9836d73ef3595dced7ad4ecbd8c083d9df46ad3e003b2972df", checked := Try.checked }
namespace Rows
def none {H : Type} : Left H := { results := [], args := [] }

/-- 'loomlaw6.TypesChain': WHATEVER THE INPUT: true; the input reads as it did. -/
def typesChainSpec : ChangeSpec := { name := "typesChain", fn := fun _ => fun
  | [d1, d2, d3] => { results := [.lit (.bool true)], args := [d1, d2, d3] }
  | _ => none }
def typesChainRow : OpenClaim := { program := "ytokieeiohfcgdaa", sum := "a5601a9d83789e9836d73ef3595dced7ad4ecbd8c083d9df46ad3e003b2972df", func := "loom/loomlaw6.TypesChain", spec := "typesChain", apart := false }
def TypesChainSaid : Prop := typesChainRow.holds Try.pinned (OpenSpec.ofChange typesChainSpec)

/-- ITS FALSE NEIGHBOUR: 'it returns false'. Refute it at one input. -/
def typesChainWrong : ChangeSpec := { name := "typesChain", fn := fun _ => fun
  | [d1, d2, d3] => { results := [.lit (.bool false)], args := [d1, d2, d3] }
  | _ => none }
def TypesChainWrongFalsely : Prop := typesChainRow.holds Try.pinned (OpenSpec.ofChange typesChainWrong)

/-- 'loomlaw6.TypesRound': WHATEVER THE INPUT: true; the input reads as it did. -/
def typesRoundSpec : ChangeSpec := { name := "typesRound", fn := fun _ => fun
  | [d1, d2] => { results := [.lit (.bool true)], args := [d1, d2] }
  | _ => none }
def typesRoundRow : OpenClaim := { program := "ytokieeiohfcgdaa", sum := "a5601a9d83789e9836d73ef3595dced7ad4ecbd8c083d9df46ad3e003b2972df", func := "loom/loomlaw6.TypesRound", spec := "typesRound", apart := false }
def TypesRoundSaid : Prop := typesRoundRow.holds Try.pinned (OpenSpec.ofChange typesRoundSpec)

/-- ITS FALSE NEIGHBOUR: 'it returns false'. Refute it at one input. -/
def typesRoundWrong : ChangeSpec := { name := "typesRound", fn := fun _ => fun
  | [d1, d2] => { results := [.lit (.bool false)], args := [d1, d2] }
  | _ => none }
def TypesRoundWrongFalsely : Prop := typesRoundRow.holds Try.pinned (OpenSpec.ofChange typesRoundWrong)

/-- 'loomlaw6.TypesMany': WHATEVER THE INPUT: true; the input reads as it did. -/
def typesManySpec : ChangeSpec := { name := "typesMany", fn := fun _ => fun
  | [d] => { results := [.lit (.bool true)], args := [d] }
  | _ => none }
def typesManyRow : OpenClaim := { program := "ytokieeiohfcgdaa", sum := "a5601a9d83789e9836d73ef3595dced7ad4ecbd8c083d9df46ad3e003b2972df", func := "loom/loomlaw6.TypesMany", spec := "typesMany", apart := false }
def TypesManySaid : Prop := typesManyRow.holds Try.pinned (OpenSpec.ofChange typesManySpec)

/-- ITS FALSE NEIGHBOUR: 'it returns false'. Refute it at one input. -/
def typesManyWrong : ChangeSpec := { name := "typesMany", fn := fun _ => fun
  | [d] => { results := [.lit (.bool false)], args := [d] }
  | _ => none }
def TypesManyWrongFalsely : Prop := typesManyRow.holds Try.pinned (OpenSpec.ofChange typesManyWrong)

/-- 'loomlaw6.TypesFit': WHATEVER THE INPUT: true; the input reads as it did. -/
def typesFitSpec : ChangeSpec := { name := "typesFit", fn := fun _ => fun
  | [d1, d2, d3] => { results := [.lit (.bool true)], args := [d1, d2, d3] }
  | _ => none }
def typesFitRow : OpenClaim := { program := "ytokieeiohfcgdaa", sum := "a5601a9d83789e9836d73ef3595dced7ad4ecbd8c083d9df46ad3e003b2972df", func := "loom/loomlaw6.TypesFit", spec := "typesFit", apart := false }
def TypesFitSaid : Prop := typesFitRow.holds Try.pinned (OpenSpec.ofChange typesFitSpec)

/-- ITS FALSE NEIGHBOUR: 'it returns false'. Refute it at one input. -/
def typesFitWrong : ChangeSpec := { name := "typesFit", fn := fun _ => fun
  | [d1, d2, d3] => { results := [.lit (.bool false)], args := [d1, d2, d3] }
  | _ => none }
def TypesFitWrongFalsely : Prop := typesFitRow.holds Try.pinned (OpenSpec.ofChange typesFitWrong)

/-- 'loomlaw6.TypesLeast': WHATEVER THE INPUT: true; the input reads as it did. -/
def typesLeastSpec : ChangeSpec := { name := "typesLeast", fn := fun _ => fun
  | [d1, d2, d3, d4, d5] => { results := [.lit (.bool true)], args := [d1, d2, d3, d4, d5] }
  | _ => none }
def typesLeastRow : OpenClaim := { program := "ytokieeiohfcgdaa", sum := "a5601a9d83789e9836d73ef3595dced7ad4ecbd8c083d9df46ad3e003b2972df", func := "loom/loomlaw6.TypesLeast", spec := "typesLeast", apart := false }
def TypesLeastSaid : Prop := typesLeastRow.holds Try.pinned (OpenSpec.ofChange typesLeastSpec)

/-- ITS FALSE NEIGHBOUR: 'it returns false'. Refute it at one input. -/
def typesLeastWrong : ChangeSpec := { name := "typesLeast", fn := fun _ => fun
  | [d1, d2, d3, d4, d5] => { results := [.lit (.bool false)], args := [d1, d2, d3, d4, d5] }
  | _ => none }
def TypesLeastWrongFalsely : Prop := typesLeastRow.holds Try.pinned (OpenSpec.ofChange typesLeastWrong)

/-- 'loomlaw6.TypesTell': WHATEVER THE INPUT: true; the input reads as it did. -/
def typesTellSpec : ChangeSpec := { name := "typesTell", fn := fun _ => fun
  | [d1, d2, d3, d4, d5, d6] => { results := [.lit (.bool true)], args := [d1, d2, d3, d4, d5, d6] }
  | _ => none }
def typesTellRow : OpenClaim := { program := "ytokieeiohfcgdaa", sum := "a5601a9d83789e9836d73ef3595dced7ad4ecbd8c083d9df46ad3e003b2972df", func := "loom/loomlaw6.TypesTell", spec := "typesTell", apart := false }
def TypesTellSaid : Prop := typesTellRow.holds Try.pinned (OpenSpec.ofChange typesTellSpec)

/-- ITS FALSE NEIGHBOUR: 'it returns false'. Refute it at one input. -/
def typesTellWrong : ChangeSpec := { name := "typesTell", fn := fun _ => fun
  | [d1, d2, d3, d4, d5, d6] => { results := [.lit (.bool false)], args := [d1, d2, d3, d4, d5, d6] }
  | _ => none }
def TypesTellWrongFalsely : Prop := typesTellRow.holds Try.pinned (OpenSpec.ofChange typesTellWrong)

/-- 'loomlaw4.CodeBytes': WHATEVER THE INPUT: true; the input reads as it did. -/
def codeBytesSpec : ChangeSpec := { name := "codeBytes", fn := fun _ => fun
  | [d1, d2] => { results := [.lit (.bool true)], args := [d1, d2] }
  | _ => none }
def codeBytesRow : OpenClaim := { program := "ytokieeiohfcgdaa", sum := "a5601a9d83789e9836d73ef3595dced7ad4ecbd8c083d9df46ad3e003b2972df", func := "loom/loomlaw4.CodeBytes", spec := "codeBytes", apart := false }
def CodeBytesSaid : Prop := codeBytesRow.holds Try.pinned (OpenSpec.ofChange codeBytesSpec)

/-- ITS FALSE NEIGHBOUR: 'it returns false'. Refute it at one input. -/
def codeBytesWrong : ChangeSpec := { name := "codeBytes", fn := fun _ => fun
  | [d1, d2] => { results := [.lit (.bool false)], args := [d1, d2] }
  | _ => none }
def CodeBytesWrongFalsely : Prop := codeBytesRow.holds Try.pinned (OpenSpec.ofChange codeBytesWrong)

/-- 'loomlaw4.CodeBack': WHATEVER THE INPUT: true; the input reads as it did. -/
def codeBackSpec : ChangeSpec := { name := "codeBack", fn := fun _ => fun
  | [d1, d2] => { results := [.lit (.bool true)], args := [d1, d2] }
  | _ => none }
def codeBackRow : OpenClaim := { program := "ytokieeiohfcgdaa", sum := "a5601a9d83789e9836d73ef3595dced7ad4ecbd8c083d9df46ad3e003b2972df", func := "loom/loomlaw4.CodeBack", spec := "codeBack", apart := false }
def CodeBackSaid : Prop := codeBackRow.holds Try.pinned (OpenSpec.ofChange codeBackSpec)

/-- ITS FALSE NEIGHBOUR: 'it returns false'. Refute it at one input. -/
def codeBackWrong : ChangeSpec := { name := "codeBack", fn := fun _ => fun
  | [d1, d2] => { results := [.lit (.bool false)], args := [d1, d2] }
  | _ => none }
def CodeBackWrongFalsely : Prop := codeBackRow.holds Try.pinned (OpenSpec.ofChange codeBackWrong)

/-- 'loomlaw4.CodeMany': WHATEVER THE INPUT: true; the input reads as it did. -/
def codeManySpec : ChangeSpec := { name := "codeMany", fn := fun _ => fun
  | [d1, d2] => { results := [.lit (.bool true)], args := [d1, d2] }
  | _ => none }
def codeManyRow : OpenClaim := { program := "ytokieeiohfcgdaa", sum := "a5601a9d83789e9836d73ef3595dced7ad4ecbd8c083d9df46ad3e003b2972df", func := "loom/loomlaw4.CodeMany", spec := "codeMany", apart := false }
def CodeManySaid : Prop := codeManyRow.holds Try.pinned (OpenSpec.ofChange codeManySpec)

/-- ITS FALSE NEIGHBOUR: 'it returns false'. Refute it at one input. -/
def codeManyWrong : ChangeSpec := { name := "codeMany", fn := fun _ => fun
  | [d1, d2] => { results := [.lit (.bool false)], args := [d1, d2] }
  | _ => none }
def CodeManyWrongFalsely : Prop := codeManyRow.holds Try.pinned (OpenSpec.ofChange codeManyWrong)

/-- 'loomlaw4.CodeOps': WHATEVER THE INPUT: true; the input reads as it did. -/
def codeOpsSpec : ChangeSpec := { name := "codeOps", fn := fun _ => fun
  | [d1, d2] => { results := [.lit (.bool true)], args := [d1, d2] }
  | _ => none }
def codeOpsRow : OpenClaim := { program := "ytokieeiohfcgdaa", sum := "a5601a9d83789e9836d73ef3595dced7ad4ecbd8c083d9df46ad3e003b2972df", func := "loom/loomlaw4.CodeOps", spec := "codeOps", apart := false }
def CodeOpsSaid : Prop := codeOpsRow.holds Try.pinned (OpenSpec.ofChange codeOpsSpec)

/-- ITS FALSE NEIGHBOUR: 'it returns false'. Refute it at one input. -/
def codeOpsWrong : ChangeSpec := { name := "codeOps", fn := fun _ => fun
  | [d1, d2] => { results := [.lit (.bool false)], args := [d1, d2] }
  | _ => none }
def CodeOpsWrongFalsely : Prop := codeOpsRow.holds Try.pinned (OpenSpec.ofChange codeOpsWrong)

/-- 'loomlaw4.CodeTells': WHATEVER THE INPUT: true; the input reads as it did. -/
def codeTellsSpec : ChangeSpec := { name := "codeTells", fn := fun _ => fun
  | [d] => { results := [.lit (.bool true)], args := [d] }
  | _ => none }
def codeTellsRow : OpenClaim := { program := "ytokieeiohfcgdaa", sum := "a5601a9d83789e9836d73ef3595dced7ad4ecbd8c083d9df46ad3e003b2972df", func := "loom/loomlaw4.CodeTells", spec := "codeTells", apart := false }
def CodeTellsSaid : Prop := codeTellsRow.holds Try.pinned (OpenSpec.ofChange codeTellsSpec)

/-- ITS FALSE NEIGHBOUR: 'it returns false'. Refute it at one input. -/
def codeTellsWrong : ChangeSpec := { name := "codeTells", fn := fun _ => fun
  | [d] => { results := [.lit (.bool false)], args := [d] }
  | _ => none }
def CodeTellsWrongFalsely : Prop := codeTellsRow.holds Try.pinned (OpenSpec.ofChange codeTellsWrong)

/- THE SECOND FORM. 'bulk': how many values and letters a reading holds, each counted each time it is reached (what is shared counts as often as it is met; a slice's spare places count too). A statement '..UptoSaid' is the law's where the arguments, and the package variables that the reading takes, are together of bulk at most 1048576: NARROWER than '..Said'. Prove '..Said' where nothing that the law and all that it calls make is longer than what came in: it says more and counts as full. Else prove '..UptoSaid'. A law counts once. -/
mutual
def uptoBulk {H : Type} : DataW H → Nat
  | .lit (.string bytes) => bytes.length + 1
  | .lit _ => 1
  | .nil => 1
  | .ptr d => uptoBulk d + 1
  | .slice elems spare => uptoBulkAll elems + uptoBulkAll spare + 1
  | .agg parts => uptoBulkAll parts + 1
  | .iface _ d => uptoBulk d + 1
  | .map entries => uptoBulkEntries entries + 1
  | .held _ => 1
def uptoBulkAll {H : Type} : List (DataW H) → Nat
  | [] => 0
  | d :: r => uptoBulk d + uptoBulkAll r
def uptoBulkEntries {H : Type} : List (Lit × DataW H) → Nat
  | [] => 0
  | x :: r => uptoBulkEntry x + uptoBulkEntries r
def uptoBulkEntry {H : Type} : Lit × DataW H → Nat
  | (.string bytes, d) => bytes.length + uptoBulk d + 1
  | (_, d) => uptoBulk d + 1
 end
def uptoSmall : (H : Type) → List (DataW H) → Bool := fun _ ds => decide (uptoBulkAll ds ≤ 1048576)
def OpenSpec.upto (s : _root_.Go.ChangeSpec) : _root_.Go.OpenSpec := { _root_.Go.OpenSpec.ofChange s with cond := some uptoSmall }

/-- 'loomlaw6.TypesChain', WHERE WHAT IT READS IS OF BULK AT MOST 1048576: true; the input reads as it did. -/
def typesChainUptoRow : OpenClaim := { program := "ytokieeiohfcgdaa", sum := "a5601a9d83789e9836d73ef3595dced7ad4ecbd8c083d9df46ad3e003b2972df", func := "loom/loomlaw6.TypesChain", spec := "typesChain", apart := false, narrowed := true }
def TypesChainUptoSaid : Prop := typesChainUptoRow.holds Try.pinned (OpenSpec.upto typesChainSpec)

/-- 'loomlaw6.TypesRound', WHERE WHAT IT READS IS OF BULK AT MOST 1048576: true; the input reads as it did. -/
def typesRoundUptoRow : OpenClaim := { program := "ytokieeiohfcgdaa", sum := "a5601a9d83789e9836d73ef3595dced7ad4ecbd8c083d9df46ad3e003b2972df", func := "loom/loomlaw6.TypesRound", spec := "typesRound", apart := false, narrowed := true }
def TypesRoundUptoSaid : Prop := typesRoundUptoRow.holds Try.pinned (OpenSpec.upto typesRoundSpec)

/-- 'loomlaw6.TypesMany', WHERE WHAT IT READS IS OF BULK AT MOST 1048576: true; the input reads as it did. -/
def typesManyUptoRow : OpenClaim := { program := "ytokieeiohfcgdaa", sum := "a5601a9d83789e9836d73ef3595dced7ad4ecbd8c083d9df46ad3e003b2972df", func := "loom/loomlaw6.TypesMany", spec := "typesMany", apart := false, narrowed := true }
def TypesManyUptoSaid : Prop := typesManyUptoRow.holds Try.pinned (OpenSpec.upto typesManySpec)

/-- 'loomlaw6.TypesFit', WHERE WHAT IT READS IS OF BULK AT MOST 1048576: true; the input reads as it did. -/
def typesFitUptoRow : OpenClaim := { program := "ytokieeiohfcgdaa", sum := "a5601a9d83789e9836d73ef3595dced7ad4ecbd8c083d9df46ad3e003b2972df", func := "loom/loomlaw6.TypesFit", spec := "typesFit", apart := false, narrowed := true }
def TypesFitUptoSaid : Prop := typesFitUptoRow.holds Try.pinned (OpenSpec.upto typesFitSpec)

/-- 'loomlaw6.TypesLeast', WHERE WHAT IT READS IS OF BULK AT MOST 1048576: true; the input reads as it did. -/
def typesLeastUptoRow : OpenClaim := { program := "ytokieeiohfcgdaa", sum := "a5601a9d83789e9836d73ef3595dced7ad4ecbd8c083d9df46ad3e003b2972df", func := "loom/loomlaw6.TypesLeast", spec := "typesLeast", apart := false, narrowed := true }
def TypesLeastUptoSaid : Prop := typesLeastUptoRow.holds Try.pinned (OpenSpec.upto typesLeastSpec)

/-- 'loomlaw6.TypesTell', WHERE WHAT IT READS IS OF BULK AT MOST 1048576: true; the input reads as it did. -/
def typesTellUptoRow : OpenClaim := { program := "ytokieeiohfcgdaa", sum := "a5601a9d83789e9836d73ef3595dced7ad4ecbd8c083d9df46ad3e003b2972df", func := "loom/loomlaw6.TypesTell", spec := "typesTell", apart := false, narrowed := true }
def TypesTellUptoSaid : Prop := typesTellUptoRow.holds Try.pinned (OpenSpec.upto typesTellSpec)

/-- 'loomlaw4.CodeBytes', WHERE WHAT IT READS IS OF BULK AT MOST 1048576: true; the input reads as it did. -/
def codeBytesUptoRow : OpenClaim := { program := "ytokieeiohfcgdaa", sum := "a5601a9d83789e9836d73ef3595dced7ad4ecbd8c083d9df46ad3e003b2972df", func := "loom/loomlaw4.CodeBytes", spec := "codeBytes", apart := false, narrowed := true }
def CodeBytesUptoSaid : Prop := codeBytesUptoRow.holds Try.pinned (OpenSpec.upto codeBytesSpec)

/-- 'loomlaw4.CodeBack', WHERE WHAT IT READS IS OF BULK AT MOST 1048576: true; the input reads as it did. -/
def codeBackUptoRow : OpenClaim := { program := "ytokieeiohfcgdaa", sum := "a5601a9d83789e9836d73ef3595dced7ad4ecbd8c083d9df46ad3e003b2972df", func := "loom/loomlaw4.CodeBack", spec := "codeBack", apart := false, narrowed := true }
def CodeBackUptoSaid : Prop := codeBackUptoRow.holds Try.pinned (OpenSpec.upto codeBackSpec)

/-- 'loomlaw4.CodeMany', WHERE WHAT IT READS IS OF BULK AT MOST 1048576: true; the input reads as it did. -/
def codeManyUptoRow : OpenClaim := { program := "ytokieeiohfcgdaa", sum := "a5601a9d83789e9836d73ef3595dced7ad4ecbd8c083d9df46ad3e003b2972df", func := "loom/loomlaw4.CodeMany", spec := "codeMany", apart := false, narrowed := true }
def CodeManyUptoSaid : Prop := codeManyUptoRow.holds Try.pinned (OpenSpec.upto codeManySpec)

/-- 'loomlaw4.CodeOps', WHERE WHAT IT READS IS OF BULK AT MOST 1048576: true; the input reads as it did. -/
def codeOpsUptoRow : OpenClaim := { program := "ytokieeiohfcgdaa", sum := "a5601a9d83789e9836d73ef3595dced7ad4ecbd8c083d9df46ad3e003b2972df", func := "loom/loomlaw4.CodeOps", spec := "codeOps", apart := false, narrowed := true }
def CodeOpsUptoSaid : Prop := codeOpsUptoRow.holds Try.pinned (OpenSpec.upto codeOpsSpec)

/-- 'loomlaw4.CodeTells', WHERE WHAT IT READS IS OF BULK AT MOST 1048576: true; the input reads as it did. -/
def codeTellsUptoRow : OpenClaim := { program := "ytokieeiohfcgdaa", sum := "a5601a9d83789e9836d73ef3595dced7ad4ecbd8c083d9df46ad3e003b2972df", func := "loom/loomlaw4.CodeTells", spec := "codeTells", apart := false, narrowed := true }
def CodeTellsUptoSaid : Prop := codeTellsUptoRow.holds Try.pinned (OpenSpec.upto codeTellsSpec)

end Rows
end Go.Proofs.Ytokieeiohfcgdaa
