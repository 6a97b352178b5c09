/-
  No cell of these rows narrows 'for every input' (looked for: loops, veiled, ifaces, maps, wideKeys, modest, calm, conditions, laid).
  DERIVED. THE GIVEN ROWS OF THIS SEAT. 3 by the template 'for every input the law returns true; each argument reads behind the call as it read before'; 0 by the template 'total and deterministic' (their statements: YtiecclkgjcnaoaaTotals.lean).
  GIVEN WITH THE SEED: the statements are not yours to turn. If you find one false, say at which input.
  Laid BY PROGRAM, IN A SANDBOX (cutbox-rows.mjs): the forced cells as the released guide's own fill.sh prints them over the translation dd9a9f1f67d1e764… (all of the seat's roots in one cut). By AI agents, Wed Nov 11 2026. No macro, syntax, notation, axiom, sorry.
-/
import Derived.Test.YtiecclkgjcnaoaaChecked
import GoSem.Claim
import GoSem.ClaimJoined
import GoSem.ClaimMapViews
import Derived.JoinedTies
import Derived.KernelRfl
namespace Go.Proofs.Ytiecclkgjcnaoaa
/- THE CELL 'sum', in the pinned program and in every row, IS THE sha256 OF THE DUMP (.gsa) THAT YtiecclkgjcnaoaaProg.lean LOADS. Nothing in Lean hashes anything: it is a label: what it is worth is what the hold of that sum in a sandbox is worth. -/
noncomputable def Try.pinned : Pinned := { name := "ytiecclkgjcnaoaa", sum := "dd9a9f1f67d1e7640fa7b725d47d59bcf0c06c0d1e0a143ce80845fcbaddd9a7", checked := Try.checked }
namespace Rows
def none {H : Type} : Left H := { results := [], args := [] }

/-- 'loomlaw5.ClassConsts': WHATEVER THE INPUT: true; the input reads as it did. -/
def classConstsSpec : ChangeSpec := { name := "classConsts", fn := fun _ => fun
  | [d1, d2, d3] => { results := [.lit (.bool true)], args := [d1, d2, d3] }
  | _ => none }
def classConstsRow : OpenClaim := { program := "ytiecclkgjcnaoaa", sum := "dd9a9f1f67d1e7640fa7b725d47d59bcf0c06c0d1e0a143ce80845fcbaddd9a7", func := "loom/loomlaw5.ClassConsts", spec := "classConsts", inPlace := ["math.Float64bits", "math.Float64frombits"], unfollowed := true, recurses := true, apart := false }
def ClassConstsSaid : Prop := classConstsRow.holds Try.pinned (OpenSpec.ofChange classConstsSpec)

/-- ITS FALSE NEIGHBOUR: 'it returns false'. Refute it at one input. -/
def classConstsWrong : ChangeSpec := { name := "classConsts", fn := fun _ => fun
  | [d1, d2, d3] => { results := [.lit (.bool false)], args := [d1, d2, d3] }
  | _ => none }
def ClassConstsWrongFalsely : Prop := classConstsRow.holds Try.pinned (OpenSpec.ofChange classConstsWrong)

/-- 'loomlaw5.ClassTwice': WHATEVER THE INPUT: true; the input reads as it did. -/
def classTwiceSpec : ChangeSpec := { name := "classTwice", fn := fun _ => fun
  | [d1, d2] => { results := [.lit (.bool true)], args := [d1, d2] }
  | _ => none }
def classTwiceRow : OpenClaim := { program := "ytiecclkgjcnaoaa", sum := "dd9a9f1f67d1e7640fa7b725d47d59bcf0c06c0d1e0a143ce80845fcbaddd9a7", func := "loom/loomlaw5.ClassTwice", spec := "classTwice", inPlace := ["math.Float64bits", "math.Float64frombits"], unfollowed := true, recurses := true, apart := false }
def ClassTwiceSaid : Prop := classTwiceRow.holds Try.pinned (OpenSpec.ofChange classTwiceSpec)

/-- ITS FALSE NEIGHBOUR: 'it returns false'. Refute it at one input. -/
def classTwiceWrong : ChangeSpec := { name := "classTwice", fn := fun _ => fun
  | [d1, d2] => { results := [.lit (.bool false)], args := [d1, d2] }
  | _ => none }
def ClassTwiceWrongFalsely : Prop := classTwiceRow.holds Try.pinned (OpenSpec.ofChange classTwiceWrong)

/-- 'loomlaw5.ClassBounds': WHATEVER THE INPUT: true; the input reads as it did. -/
def classBoundsSpec : ChangeSpec := { name := "classBounds", fn := fun _ => fun
  | [d1, d2] => { results := [.lit (.bool true)], args := [d1, d2] }
  | _ => none }
def classBoundsRow : OpenClaim := { program := "ytiecclkgjcnaoaa", sum := "dd9a9f1f67d1e7640fa7b725d47d59bcf0c06c0d1e0a143ce80845fcbaddd9a7", func := "loom/loomlaw5.ClassBounds", spec := "classBounds", inPlace := ["math.Float64bits", "math.Float64frombits"], unfollowed := true, recurses := true, apart := false }
def ClassBoundsSaid : Prop := classBoundsRow.holds Try.pinned (OpenSpec.ofChange classBoundsSpec)

/-- ITS FALSE NEIGHBOUR: 'it returns false'. Refute it at one input. -/
def classBoundsWrong : ChangeSpec := { name := "classBounds", fn := fun _ => fun
  | [d1, d2] => { results := [.lit (.bool false)], args := [d1, d2] }
  | _ => none }
def ClassBoundsWrongFalsely : Prop := classBoundsRow.holds Try.pinned (OpenSpec.ofChange classBoundsWrong)

/- THE SECOND FORM. 'bulk': how many values and letters a reading holds, each counted each time it is reached (what is shared counts as often as it is met; a slice's spare places count too). A statement '..UptoSaid' is the law's where the arguments, and the package variables that the reading takes, are together of bulk at most 1048576: NARROWER than '..Said'. Prove '..Said' where nothing that the law and all that it calls make is longer than what came in: it says more and counts as full. Else prove '..UptoSaid'. A law counts once. -/
mutual
def uptoBulk {H : Type} : DataW H → Nat
  | .lit (.string bytes) => bytes.length + 1
  | .lit _ => 1
  | .nil => 1
  | .ptr d => uptoBulk d + 1
  | .slice elems spare => uptoBulkAll elems + uptoBulkAll spare + 1
  | .agg parts => uptoBulkAll parts + 1
  | .iface _ d => uptoBulk d + 1
  | .map entries => uptoBulkEntries entries + 1
  | .held _ => 1
def uptoBulkAll {H : Type} : List (DataW H) → Nat
  | [] => 0
  | d :: r => uptoBulk d + uptoBulkAll r
def uptoBulkEntries {H : Type} : List (Lit × DataW H) → Nat
  | [] => 0
  | x :: r => uptoBulkEntry x + uptoBulkEntries r
def uptoBulkEntry {H : Type} : Lit × DataW H → Nat
  | (.string bytes, d) => bytes.length + uptoBulk d + 1
  | (_, d) => uptoBulk d + 1
 end
def uptoSmall : (H : Type) → List (DataW H) → Bool := fun _ ds => decide (uptoBulkAll ds ≤ 1048576)
def OpenSpec.upto (s : _root_.Go.ChangeSpec) : _root_.Go.OpenSpec := { _root_.Go.OpenSpec.ofChange s with cond := some uptoSmall }

/-- 'loomlaw5.ClassConsts', WHERE WHAT IT READS IS OF BULK AT MOST 1048576: true; the input reads as it did. -/
def classConstsUptoRow : OpenClaim := { program := "ytiecclkgjcnaoaa", sum := "dd9a9f1f67d1e7640fa7b725d47d59bcf0c06c0d1e0a143ce80845fcbaddd9a7", func := "loom/loomlaw5.ClassConsts", spec := "classConsts", inPlace := ["math.Float64bits", "math.Float64frombits"], unfollowed := true, recurses := true, apart := false, narrowed := true }
def ClassConstsUptoSaid : Prop := classConstsUptoRow.holds Try.pinned (OpenSpec.upto classConstsSpec)

/-- 'loomlaw5.ClassTwice', WHERE WHAT IT READS IS OF BULK AT MOST 1048576: true; the input reads as it did. -/
def classTwiceUptoRow : OpenClaim := { program := "ytiecclkgjcnaoaa", sum := "dd9a9f1f67d1e7640fa7b725d47d59bcf0c06c0d1e0a143ce80845fcbaddd9a7", func := "loom/loomlaw5.ClassTwice", spec := "classTwice", inPlace := ["math.Float64bits", "math.Float64frombits"], unfollowed := true, recurses := true, apart := false, narrowed := true }
def ClassTwiceUptoSaid : Prop := classTwiceUptoRow.holds Try.pinned (OpenSpec.upto classTwiceSpec)

/-- 'loomlaw5.ClassBounds', WHERE WHAT IT READS IS OF BULK AT MOST 1048576: true; the input reads as it did. -/
def classBoundsUptoRow : OpenClaim := { program := "ytiecclkgjcnaoaa", sum := "dd9a9f1f67d1e7640fa7b725d47d59bcf0c06c0d1e0a143ce80845fcbaddd9a7", func := "loom/loomlaw5.ClassBounds", spec := "classBounds", inPlace := ["math.Float64bits", "math.Float64frombits"], unfollowed := true, recurses := true, apart := false, narrowed := true }
def ClassBoundsUptoSaid : Prop := classBoundsUptoRow.holds Try.pinned (OpenSpec.upto classBoundsSpec)

end Rows
end Go.Proofs.Ytiecclkgjcnaoaa
