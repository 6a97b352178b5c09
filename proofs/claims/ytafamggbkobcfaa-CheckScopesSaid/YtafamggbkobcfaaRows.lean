/-
  No cell of these rows narrows 'for every input' (looked for: loops, veiled, ifaces, maps, wideKeys, modest, calm, conditions, laid).
  DERIVED. THE GIVEN ROWS OF THIS SEAT. 5 by the template 'for every input the law returns true; each argument reads behind the call as it read before'; 0 by the template 'total and deterministic' (their statements: YtafamggbkobcfaaTotals.lean).
  GIVEN WITH THE SEED: the statements are not yours to turn. If you find one false, say at which input.
  Laid BY PROGRAM, IN A SANDBOX (cutbox-rows.mjs): the forced cells as the released guide's own fill.sh prints them over the translation 57f8b753583c9ff4… (all of the seat's roots in one cut). By AI agents, Wed Nov 11 2026. No macro, syntax, notation, axiom, sorry.
-/
import Derived.Test.YtafamggbkobcfaaChecked
import GoSem.Claim
import GoSem.ClaimJoined
import GoSem.ClaimMapViews
import Derived.JoinedTies
import Derived.KernelRfl
namespace Go.Proofs.Ytafamggbkobcfaa
/- THE CELL 'sum', in the pinned program and in every row, IS THE sha256 OF THE DUMP (.gsa) THAT YtafamggbkobcfaaProg.lean LOADS. Nothing in Lean hashes anything: it is a label: what it is worth is what the hold of that sum in a sandbox is worth. -/
noncomputable def Try.pinned : Pinned := { name := "ytafamggbkobcfaa", sum := "57f8b753583c9ff4147bc98890723fd542ebeeff439f528d01063572bb9d2db6", checked := Try.checked }
namespace Rows
def none {H : Type} : Left H := { results := [], args := [] }

/-- 'loomlaw20.CheckBodies': WHATEVER THE INPUT: true; the input reads as it did. -/
def checkBodiesSpec : ChangeSpec := { name := "checkBodies", fn := fun _ => fun
  | [d] => { results := [.lit (.bool true)], args := [d] }
  | _ => none }
def checkBodiesRow : OpenClaim := { program := "ytafamggbkobcfaa", sum := "57f8b753583c9ff4147bc98890723fd542ebeeff439f528d01063572bb9d2db6", func := "loom/loomlaw20.CheckBodies", spec := "checkBodies", unfollowed := true, recurses := true, apart := false }
def CheckBodiesSaid : Prop := checkBodiesRow.holds Try.pinned (OpenSpec.ofChange checkBodiesSpec)

/-- ITS FALSE NEIGHBOUR: 'it returns false'. Refute it at one input. -/
def checkBodiesWrong : ChangeSpec := { name := "checkBodies", fn := fun _ => fun
  | [d] => { results := [.lit (.bool false)], args := [d] }
  | _ => none }
def CheckBodiesWrongFalsely : Prop := checkBodiesRow.holds Try.pinned (OpenSpec.ofChange checkBodiesWrong)

/-- 'loomlaw20.CheckScopes': WHATEVER THE INPUT: true; the input reads as it did. -/
def checkScopesSpec : ChangeSpec := { name := "checkScopes", fn := fun _ => fun
  | [d1, d2, d3] => { results := [.lit (.bool true)], args := [d1, d2, d3] }
  | _ => none }
def checkScopesRow : OpenClaim := { program := "ytafamggbkobcfaa", sum := "57f8b753583c9ff4147bc98890723fd542ebeeff439f528d01063572bb9d2db6", func := "loom/loomlaw20.CheckScopes", spec := "checkScopes", unfollowed := true, recurses := true, apart := false }
def CheckScopesSaid : Prop := checkScopesRow.holds Try.pinned (OpenSpec.ofChange checkScopesSpec)

/-- ITS FALSE NEIGHBOUR: 'it returns false'. Refute it at one input. -/
def checkScopesWrong : ChangeSpec := { name := "checkScopes", fn := fun _ => fun
  | [d1, d2, d3] => { results := [.lit (.bool false)], args := [d1, d2, d3] }
  | _ => none }
def CheckScopesWrongFalsely : Prop := checkScopesRow.holds Try.pinned (OpenSpec.ofChange checkScopesWrong)

/-- 'loomlaw20.CheckEnds': WHATEVER THE INPUT: true; the input reads as it did. -/
def checkEndsSpec : ChangeSpec := { name := "checkEnds", fn := fun _ => fun
  | [d] => { results := [.lit (.bool true)], args := [d] }
  | _ => none }
def checkEndsRow : OpenClaim := { program := "ytafamggbkobcfaa", sum := "57f8b753583c9ff4147bc98890723fd542ebeeff439f528d01063572bb9d2db6", func := "loom/loomlaw20.CheckEnds", spec := "checkEnds", unfollowed := true, recurses := true, apart := false }
def CheckEndsSaid : Prop := checkEndsRow.holds Try.pinned (OpenSpec.ofChange checkEndsSpec)

/-- ITS FALSE NEIGHBOUR: 'it returns false'. Refute it at one input. -/
def checkEndsWrong : ChangeSpec := { name := "checkEnds", fn := fun _ => fun
  | [d] => { results := [.lit (.bool false)], args := [d] }
  | _ => none }
def CheckEndsWrongFalsely : Prop := checkEndsRow.holds Try.pinned (OpenSpec.ofChange checkEndsWrong)

/-- 'loomlaw20.CheckClasses': WHATEVER THE INPUT: true; the input reads as it did. -/
def checkClassesSpec : ChangeSpec := { name := "checkClasses", fn := fun _ => fun
  | [d] => { results := [.lit (.bool true)], args := [d] }
  | _ => none }
def checkClassesRow : OpenClaim := { program := "ytafamggbkobcfaa", sum := "57f8b753583c9ff4147bc98890723fd542ebeeff439f528d01063572bb9d2db6", func := "loom/loomlaw20.CheckClasses", spec := "checkClasses", unfollowed := true, recurses := true, apart := false }
def CheckClassesSaid : Prop := checkClassesRow.holds Try.pinned (OpenSpec.ofChange checkClassesSpec)

/-- ITS FALSE NEIGHBOUR: 'it returns false'. Refute it at one input. -/
def checkClassesWrong : ChangeSpec := { name := "checkClasses", fn := fun _ => fun
  | [d] => { results := [.lit (.bool false)], args := [d] }
  | _ => none }
def CheckClassesWrongFalsely : Prop := checkClassesRow.holds Try.pinned (OpenSpec.ofChange checkClassesWrong)

/-- 'loomlaw20.CheckPairs': WHATEVER THE INPUT: true; the input reads as it did. -/
def checkPairsSpec : ChangeSpec := { name := "checkPairs", fn := fun _ => fun
  | [d1, d2, d3] => { results := [.lit (.bool true)], args := [d1, d2, d3] }
  | _ => none }
def checkPairsRow : OpenClaim := { program := "ytafamggbkobcfaa", sum := "57f8b753583c9ff4147bc98890723fd542ebeeff439f528d01063572bb9d2db6", func := "loom/loomlaw20.CheckPairs", spec := "checkPairs", unfollowed := true, recurses := true, apart := false }
def CheckPairsSaid : Prop := checkPairsRow.holds Try.pinned (OpenSpec.ofChange checkPairsSpec)

/-- ITS FALSE NEIGHBOUR: 'it returns false'. Refute it at one input. -/
def checkPairsWrong : ChangeSpec := { name := "checkPairs", fn := fun _ => fun
  | [d1, d2, d3] => { results := [.lit (.bool false)], args := [d1, d2, d3] }
  | _ => none }
def CheckPairsWrongFalsely : Prop := checkPairsRow.holds Try.pinned (OpenSpec.ofChange checkPairsWrong)

/- THE SECOND FORM. 'bulk': how many values and letters a reading holds, each counted each time it is reached (what is shared counts as often as it is met; a slice's spare places count too). A statement '..UptoSaid' is the law's where the arguments, and the package variables that the reading takes, are together of bulk at most 1048576: NARROWER than '..Said'. Prove '..Said' where nothing that the law and all that it calls make is longer than what came in: it says more and counts as full. Else prove '..UptoSaid'. A law counts once. -/
mutual
def uptoBulk {H : Type} : DataW H → Nat
  | .lit (.string bytes) => bytes.length + 1
  | .lit _ => 1
  | .nil => 1
  | .ptr d => uptoBulk d + 1
  | .slice elems spare => uptoBulkAll elems + uptoBulkAll spare + 1
  | .agg parts => uptoBulkAll parts + 1
  | .iface _ d => uptoBulk d + 1
  | .map entries => uptoBulkEntries entries + 1
  | .held _ => 1
def uptoBulkAll {H : Type} : List (DataW H) → Nat
  | [] => 0
  | d :: r => uptoBulk d + uptoBulkAll r
def uptoBulkEntries {H : Type} : List (Lit × DataW H) → Nat
  | [] => 0
  | x :: r => uptoBulkEntry x + uptoBulkEntries r
def uptoBulkEntry {H : Type} : Lit × DataW H → Nat
  | (.string bytes, d) => bytes.length + uptoBulk d + 1
  | (_, d) => uptoBulk d + 1
 end
def uptoSmall : (H : Type) → List (DataW H) → Bool := fun _ ds => decide (uptoBulkAll ds ≤ 1048576)
def OpenSpec.upto (s : _root_.Go.ChangeSpec) : _root_.Go.OpenSpec := { _root_.Go.OpenSpec.ofChange s with cond := some uptoSmall }

/-- 'loomlaw20.CheckBodies', WHERE WHAT IT READS IS OF BULK AT MOST 1048576: true; the input reads as it did. -/
def checkBodiesUptoRow : OpenClaim := { program := "ytafamggbkobcfaa", sum := "57f8b753583c9ff4147bc98890723fd542ebeeff439f528d01063572bb9d2db6", func := "loom/loomlaw20.CheckBodies", spec := "checkBodies", unfollowed := true, recurses := true, apart := false, narrowed := true }
def CheckBodiesUptoSaid : Prop := checkBodiesUptoRow.holds Try.pinned (OpenSpec.upto checkBodiesSpec)

/-- 'loomlaw20.CheckScopes', WHERE WHAT IT READS IS OF BULK AT MOST 1048576: true; the input reads as it did. -/
def checkScopesUptoRow : OpenClaim := { program := "ytafamggbkobcfaa", sum := "57f8b753583c9ff4147bc98890723fd542ebeeff439f528d01063572bb9d2db6", func := "loom/loomlaw20.CheckScopes", spec := "checkScopes", unfollowed := true, recurses := true, apart := false, narrowed := true }
def CheckScopesUptoSaid : Prop := checkScopesUptoRow.holds Try.pinned (OpenSpec.upto checkScopesSpec)

/-- 'loomlaw20.CheckEnds', WHERE WHAT IT READS IS OF BULK AT MOST 1048576: true; the input reads as it did. -/
def checkEndsUptoRow : OpenClaim := { program := "ytafamggbkobcfaa", sum := "57f8b753583c9ff4147bc98890723fd542ebeeff439f528d01063572bb9d2db6", func := "loom/loomlaw20.CheckEnds", spec := "checkEnds", unfollowed := true, recurses := true, apart := false, narrowed := true }
def CheckEndsUptoSaid : Prop := checkEndsUptoRow.holds Try.pinned (OpenSpec.upto checkEndsSpec)

/-- 'loomlaw20.CheckClasses', WHERE WHAT IT READS IS OF BULK AT MOST 1048576: true; the input reads as it did. -/
def checkClassesUptoRow : OpenClaim := { program := "ytafamggbkobcfaa", sum := "57f8b753583c9ff4147bc98890723fd542ebeeff439f528d01063572bb9d2db6", func := "loom/loomlaw20.CheckClasses", spec := "checkClasses", unfollowed := true, recurses := true, apart := false, narrowed := true }
def CheckClassesUptoSaid : Prop := checkClassesUptoRow.holds Try.pinned (OpenSpec.upto checkClassesSpec)

/-- 'loomlaw20.CheckPairs', WHERE WHAT IT READS IS OF BULK AT MOST 1048576: true; the input reads as it did. -/
def checkPairsUptoRow : OpenClaim := { program := "ytafamggbkobcfaa", sum := "57f8b753583c9ff4147bc98890723fd542ebeeff439f528d01063572bb9d2db6", func := "loom/loomlaw20.CheckPairs", spec := "checkPairs", unfollowed := true, recurses := true, apart := false, narrowed := true }
def CheckPairsUptoSaid : Prop := checkPairsUptoRow.holds Try.pinned (OpenSpec.upto checkPairsSpec)

end Rows
end Go.Proofs.Ytafamggbkobcfaa
