/-
  No cell of these rows narrows 'for every input' (looked for: loops, veiled, ifaces, maps, wideKeys, modest, calm, conditions, laid).
  DERIVED. THE GIVEN ROWS OF THIS SEAT. 10 by the template 'for every input the law returns true; each argument reads behind the call as it read before'; 0 by the template 'total and deterministic' (their statements: YtejmdglmldjliaaTotals.lean).
  GIVEN WITH THE SEED: the statements are not yours to turn. If you find one false, say at which input.
  Laid BY PROGRAM, IN A SANDBOX (cutbox-rows.mjs): the forced cells as the released guide's own fill.sh prints them over the translation b4f58c4dd1605bb8… (all of the seat's roots in one cut). By AI agents, Wed Nov 11 2026. No macro, syntax, notation, axiom, sorry.
-/
import Derived.Test.YtejmdglmldjliaaChecked
import GoSem.Claim
import GoSem.ClaimJoined
import GoSem.ClaimMapViews
import Derived.JoinedTies
import Derived.KernelRfl
namespace Go.Proofs.Ytejmdglmldjliaa
/- THE CELL 'sum', in the pinned program and in every row, IS THE sha256 OF THE DUMP (.gsa) THAT YtejmdglmldjliaaProg.lean LOADS. Nothing in Lean hashes anything: it is a label: what it is worth is what the hold of that sum in a sandbox is worth. -/
noncomputable def Try.pinned : Pinned := { name := "ytejmdglmldjliaa", sum := "b4f58c4dd1605bb8bf75408389465c7e24d3f69e4c7edcb8b2b7a0629bbc0f6f", checked := Try.checked }
namespace Rows
def none {H : Type} : Left H := { results := [], args := [] }

/-- 'loomlaw3.WireGroups': WHATEVER THE INPUT: true; the input reads as it did. -/
def wireGroupsSpec : ChangeSpec := { name := "wireGroups", fn := fun _ => fun
  | [d] => { results := [.lit (.bool true)], args := [d] }
  | _ => none }
def wireGroupsRow : OpenClaim := { program := "ytejmdglmldjliaa", sum := "b4f58c4dd1605bb8bf75408389465c7e24d3f69e4c7edcb8b2b7a0629bbc0f6f", func := "loom/loomlaw3.WireGroups", spec := "wireGroups", apart := false }
def WireGroupsSaid : Prop := wireGroupsRow.holds Try.pinned (OpenSpec.ofChange wireGroupsSpec)

/-- ITS FALSE NEIGHBOUR: 'it returns false'. Refute it at one input. -/
def wireGroupsWrong : ChangeSpec := { name := "wireGroups", fn := fun _ => fun
  | [d] => { results := [.lit (.bool false)], args := [d] }
  | _ => none }
def WireGroupsWrongFalsely : Prop := wireGroupsRow.holds Try.pinned (OpenSpec.ofChange wireGroupsWrong)

/-- 'loomlaw3.WireWrites': WHATEVER THE INPUT: true; the input reads as it did. -/
def wireWritesSpec : ChangeSpec := { name := "wireWrites", fn := fun _ => fun
  | [d] => { results := [.lit (.bool true)], args := [d] }
  | _ => none }
def wireWritesRow : OpenClaim := { program := "ytejmdglmldjliaa", sum := "b4f58c4dd1605bb8bf75408389465c7e24d3f69e4c7edcb8b2b7a0629bbc0f6f", func := "loom/loomlaw3.WireWrites", spec := "wireWrites", inPlace := ["math.Float64frombits", "math.Float64bits"], apart := false }
def WireWritesSaid : Prop := wireWritesRow.holds Try.pinned (OpenSpec.ofChange wireWritesSpec)

/-- ITS FALSE NEIGHBOUR: 'it returns false'. Refute it at one input. -/
def wireWritesWrong : ChangeSpec := { name := "wireWrites", fn := fun _ => fun
  | [d] => { results := [.lit (.bool false)], args := [d] }
  | _ => none }
def WireWritesWrongFalsely : Prop := wireWritesRow.holds Try.pinned (OpenSpec.ofChange wireWritesWrong)

/-- 'loomlaw3.WireBounds': WHATEVER THE INPUT: true; the input reads as it did. -/
def wireBoundsSpec : ChangeSpec := { name := "wireBounds", fn := fun _ => fun
  | [d1, d2, d3] => { results := [.lit (.bool true)], args := [d1, d2, d3] }
  | _ => none }
def wireBoundsRow : OpenClaim := { program := "ytejmdglmldjliaa", sum := "b4f58c4dd1605bb8bf75408389465c7e24d3f69e4c7edcb8b2b7a0629bbc0f6f", func := "loom/loomlaw3.WireBounds", spec := "wireBounds", apart := false }
def WireBoundsSaid : Prop := wireBoundsRow.holds Try.pinned (OpenSpec.ofChange wireBoundsSpec)

/-- ITS FALSE NEIGHBOUR: 'it returns false'. Refute it at one input. -/
def wireBoundsWrong : ChangeSpec := { name := "wireBounds", fn := fun _ => fun
  | [d1, d2, d3] => { results := [.lit (.bool false)], args := [d1, d2, d3] }
  | _ => none }
def WireBoundsWrongFalsely : Prop := wireBoundsRow.holds Try.pinned (OpenSpec.ofChange wireBoundsWrong)

/-- 'loomlaw14.SchedJoins': WHATEVER THE INPUT: true; the input reads as it did. -/
def schedJoinsSpec : ChangeSpec := { name := "schedJoins", fn := fun _ => fun
  | [d1, d2] => { results := [.lit (.bool true)], args := [d1, d2] }
  | _ => none }
def schedJoinsRow : OpenClaim := { program := "ytejmdglmldjliaa", sum := "b4f58c4dd1605bb8bf75408389465c7e24d3f69e4c7edcb8b2b7a0629bbc0f6f", func := "loom/loomlaw14.SchedJoins", spec := "schedJoins", apart := false }
def SchedJoinsSaid : Prop := schedJoinsRow.holds Try.pinned (OpenSpec.ofChange schedJoinsSpec)

/-- ITS FALSE NEIGHBOUR: 'it returns false'. Refute it at one input. -/
def schedJoinsWrong : ChangeSpec := { name := "schedJoins", fn := fun _ => fun
  | [d1, d2] => { results := [.lit (.bool false)], args := [d1, d2] }
  | _ => none }
def SchedJoinsWrongFalsely : Prop := schedJoinsRow.holds Try.pinned (OpenSpec.ofChange schedJoinsWrong)

/-- 'loomlaw3.WireBack': WHATEVER THE INPUT: true; the input reads as it did. -/
def wireBackSpec : ChangeSpec := { name := "wireBack", fn := fun _ => fun
  | [d] => { results := [.lit (.bool true)], args := [d] }
  | _ => none }
def wireBackRow : OpenClaim := { program := "ytejmdglmldjliaa", sum := "b4f58c4dd1605bb8bf75408389465c7e24d3f69e4c7edcb8b2b7a0629bbc0f6f", func := "loom/loomlaw3.WireBack", spec := "wireBack", apart := false }
def WireBackSaid : Prop := wireBackRow.holds Try.pinned (OpenSpec.ofChange wireBackSpec)

/-- ITS FALSE NEIGHBOUR: 'it returns false'. Refute it at one input. -/
def wireBackWrong : ChangeSpec := { name := "wireBack", fn := fun _ => fun
  | [d] => { results := [.lit (.bool false)], args := [d] }
  | _ => none }
def WireBackWrongFalsely : Prop := wireBackRow.holds Try.pinned (OpenSpec.ofChange wireBackWrong)

/-- 'loomlaw3.WireCuts': WHATEVER THE INPUT: true; the input reads as it did. -/
def wireCutsSpec : ChangeSpec := { name := "wireCuts", fn := fun _ => fun
  | [d1, d2, d3] => { results := [.lit (.bool true)], args := [d1, d2, d3] }
  | _ => none }
def wireCutsRow : OpenClaim := { program := "ytejmdglmldjliaa", sum := "b4f58c4dd1605bb8bf75408389465c7e24d3f69e4c7edcb8b2b7a0629bbc0f6f", func := "loom/loomlaw3.WireCuts", spec := "wireCuts", apart := false }
def WireCutsSaid : Prop := wireCutsRow.holds Try.pinned (OpenSpec.ofChange wireCutsSpec)

/-- ITS FALSE NEIGHBOUR: 'it returns false'. Refute it at one input. -/
def wireCutsWrong : ChangeSpec := { name := "wireCuts", fn := fun _ => fun
  | [d1, d2, d3] => { results := [.lit (.bool false)], args := [d1, d2, d3] }
  | _ => none }
def WireCutsWrongFalsely : Prop := wireCutsRow.holds Try.pinned (OpenSpec.ofChange wireCutsWrong)

/-- 'loomlaw14.SchedPlays': WHATEVER THE INPUT: true; the input reads as it did. -/
def schedPlaysSpec : ChangeSpec := { name := "schedPlays", fn := fun _ => fun
  | [d] => { results := [.lit (.bool true)], args := [d] }
  | _ => none }
def schedPlaysRow : OpenClaim := { program := "ytejmdglmldjliaa", sum := "b4f58c4dd1605bb8bf75408389465c7e24d3f69e4c7edcb8b2b7a0629bbc0f6f", func := "loom/loomlaw14.SchedPlays", spec := "schedPlays", apart := false }
def SchedPlaysSaid : Prop := schedPlaysRow.holds Try.pinned (OpenSpec.ofChange schedPlaysSpec)

/-- ITS FALSE NEIGHBOUR: 'it returns false'. Refute it at one input. -/
def schedPlaysWrong : ChangeSpec := { name := "schedPlays", fn := fun _ => fun
  | [d] => { results := [.lit (.bool false)], args := [d] }
  | _ => none }
def SchedPlaysWrongFalsely : Prop := schedPlaysRow.holds Try.pinned (OpenSpec.ofChange schedPlaysWrong)

/-- 'loomlaw14.SchedPicks': WHATEVER THE INPUT: true; the input reads as it did. -/
def schedPicksSpec : ChangeSpec := { name := "schedPicks", fn := fun _ => fun
  | [d1, d2, d3] => { results := [.lit (.bool true)], args := [d1, d2, d3] }
  | _ => none }
def schedPicksRow : OpenClaim := { program := "ytejmdglmldjliaa", sum := "b4f58c4dd1605bb8bf75408389465c7e24d3f69e4c7edcb8b2b7a0629bbc0f6f", func := "loom/loomlaw14.SchedPicks", spec := "schedPicks", apart := false }
def SchedPicksSaid : Prop := schedPicksRow.holds Try.pinned (OpenSpec.ofChange schedPicksSpec)

/-- ITS FALSE NEIGHBOUR: 'it returns false'. Refute it at one input. -/
def schedPicksWrong : ChangeSpec := { name := "schedPicks", fn := fun _ => fun
  | [d1, d2, d3] => { results := [.lit (.bool false)], args := [d1, d2, d3] }
  | _ => none }
def SchedPicksWrongFalsely : Prop := schedPicksRow.holds Try.pinned (OpenSpec.ofChange schedPicksWrong)

/-- 'loomlaw14.SchedMany': WHATEVER THE INPUT: true; the input reads as it did. -/
def schedManySpec : ChangeSpec := { name := "schedMany", fn := fun _ => fun
  | [d1, d2] => { results := [.lit (.bool true)], args := [d1, d2] }
  | _ => none }
def schedManyRow : OpenClaim := { program := "ytejmdglmldjliaa", sum := "b4f58c4dd1605bb8bf75408389465c7e24d3f69e4c7edcb8b2b7a0629bbc0f6f", func := "loom/loomlaw14.SchedMany", spec := "schedMany", apart := false }
def SchedManySaid : Prop := schedManyRow.holds Try.pinned (OpenSpec.ofChange schedManySpec)

/-- ITS FALSE NEIGHBOUR: 'it returns false'. Refute it at one input. -/
def schedManyWrong : ChangeSpec := { name := "schedMany", fn := fun _ => fun
  | [d1, d2] => { results := [.lit (.bool false)], args := [d1, d2] }
  | _ => none }
def SchedManyWrongFalsely : Prop := schedManyRow.holds Try.pinned (OpenSpec.ofChange schedManyWrong)

/-- 'loomlaw3.WireReads': WHATEVER THE INPUT: true; the input reads as it did. -/
def wireReadsSpec : ChangeSpec := { name := "wireReads", fn := fun _ => fun
  | [d1, d2] => { results := [.lit (.bool true)], args := [d1, d2] }
  | _ => none }
def wireReadsRow : OpenClaim := { program := "ytejmdglmldjliaa", sum := "b4f58c4dd1605bb8bf75408389465c7e24d3f69e4c7edcb8b2b7a0629bbc0f6f", func := "loom/loomlaw3.WireReads", spec := "wireReads", inPlace := ["math.Float64frombits", "math.Float64bits"], apart := false }
def WireReadsSaid : Prop := wireReadsRow.holds Try.pinned (OpenSpec.ofChange wireReadsSpec)

/-- ITS FALSE NEIGHBOUR: 'it returns false'. Refute it at one input. -/
def wireReadsWrong : ChangeSpec := { name := "wireReads", fn := fun _ => fun
  | [d1, d2] => { results := [.lit (.bool false)], args := [d1, d2] }
  | _ => none }
def WireReadsWrongFalsely : Prop := wireReadsRow.holds Try.pinned (OpenSpec.ofChange wireReadsWrong)

/- THE SECOND FORM. 'bulk': how many values and letters a reading holds, each counted each time it is reached (what is shared counts as often as it is met; a slice's spare places count too). A statement '..UptoSaid' is the law's where the arguments, and the package variables that the reading takes, are together of bulk at most 1048576: NARROWER than '..Said'. Prove '..Said' where nothing that the law and all that it calls make is longer than what came in: it says more and counts as full. Else prove '..UptoSaid'. A law counts once. -/
mutual
def uptoBulk {H : Type} : DataW H → Nat
  | .lit (.string bytes) => bytes.length + 1
  | .lit _ => 1
  | .nil => 1
  | .ptr d => uptoBulk d + 1
  | .slice elems spare => uptoBulkAll elems + uptoBulkAll spare + 1
  | .agg parts => uptoBulkAll parts + 1
  | .iface _ d => uptoBulk d + 1
  | .map entries => uptoBulkEntries entries + 1
  | .held _ => 1
def uptoBulkAll {H : Type} : List (DataW H) → Nat
  | [] => 0
  | d :: r => uptoBulk d + uptoBulkAll r
def uptoBulkEntries {H : Type} : List (Lit × DataW H) → Nat
  | [] => 0
  | x :: r => uptoBulkEntry x + uptoBulkEntries r
def uptoBulkEntry {H : Type} : Lit × DataW H → Nat
  | (.string bytes, d) => bytes.length + uptoBulk d + 1
  | (_, d) => uptoBulk d + 1
 end
def uptoSmall : (H : Type) → List (DataW H) → Bool := fun _ ds => decide (uptoBulkAll ds ≤ 1048576)
def OpenSpec.upto (s : _root_.Go.ChangeSpec) : _root_.Go.OpenSpec := { _root_.Go.OpenSpec.ofChange s with cond := some uptoSmall }

/-- 'loomlaw3.WireGroups', WHERE WHAT IT READS IS OF BULK AT MOST 1048576: true; the input reads as it did. -/
def wireGroupsUptoRow : OpenClaim := { program := "ytejmdglmldjliaa", sum := "b4f58c4dd1605bb8bf75408389465c7e24d3f69e4c7edcb8b2b7a0629bbc0f6f", func := "loom/loomlaw3.WireGroups", spec := "wireGroups", apart := false, narrowed := true }
def WireGroupsUptoSaid : Prop := wireGroupsUptoRow.holds Try.pinned (OpenSpec.upto wireGroupsSpec)

/-- 'loomlaw3.WireWrites', WHERE WHAT IT READS IS OF BULK AT MOST 1048576: true; the input reads as it did. -/
def wireWritesUptoRow : OpenClaim := { program := "ytejmdglmldjliaa", sum := "b4f58c4dd1605bb8bf75408389465c7e24d3f69e4c7edcb8b2b7a0629bbc0f6f", func := "loom/loomlaw3.WireWrites", spec := "wireWrites", inPlace := ["math.Float64frombits", "math.Float64bits"], apart := false, narrowed := true }
def WireWritesUptoSaid : Prop := wireWritesUptoRow.holds Try.pinned (OpenSpec.upto wireWritesSpec)

/-- 'loomlaw3.WireBounds', WHERE WHAT IT READS IS OF BULK AT MOST 1048576: true; the input reads as it did. -/
def wireBoundsUptoRow : OpenClaim := { program := "ytejmdglmldjliaa", sum := "b4f58c4dd1605bb8bf75408389465c7e24d3f69e4c7edcb8b2b7a0629bbc0f6f", func := "loom/loomlaw3.WireBounds", spec := "wireBounds", apart := false, narrowed := true }
def WireBoundsUptoSaid : Prop := wireBoundsUptoRow.holds Try.pinned (OpenSpec.upto wireBoundsSpec)

/-- 'loomlaw14.SchedJoins', WHERE WHAT IT READS IS OF BULK AT MOST 1048576: true; the input reads as it did. -/
def schedJoinsUptoRow : OpenClaim := { program := "ytejmdglmldjliaa", sum := "b4f58c4dd1605bb8bf75408389465c7e24d3f69e4c7edcb8b2b7a0629bbc0f6f", func := "loom/loomlaw14.SchedJoins", spec := "schedJoins", apart := false, narrowed := true }
def SchedJoinsUptoSaid : Prop := schedJoinsUptoRow.holds Try.pinned (OpenSpec.upto schedJoinsSpec)

/-- 'loomlaw3.WireBack', WHERE WHAT IT READS IS OF BULK AT MOST 1048576: true; the input reads as it did. -/
def wireBackUptoRow : OpenClaim := { program := "ytejmdglmldjliaa", sum := "b4f58c4dd1605bb8bf75408389465c7e24d3f69e4c7edcb8b2b7a0629bbc0f6f", func := "loom/loomlaw3.WireBack", spec := "wireBack", apart := false, narrowed := true }
def WireBackUptoSaid : Prop := wireBackUptoRow.holds Try.pinned (OpenSpec.upto wireBackSpec)

/-- 'loomlaw3.WireCuts', WHERE WHAT IT READS IS OF BULK AT MOST 1048576: true; the input reads as it did. -/
def wireCutsUptoRow : OpenClaim := { program := "ytejmdglmldjliaa", sum := "b4f58c4dd1605bb8bf75408389465c7e24d3f69e4c7edcb8b2b7a0629bbc0f6f", func := "loom/loomlaw3.WireCuts", spec := "wireCuts", apart := false, narrowed := true }
def WireCutsUptoSaid : Prop := wireCutsUptoRow.holds Try.pinned (OpenSpec.upto wireCutsSpec)

/-- 'loomlaw14.SchedPlays', WHERE WHAT IT READS IS OF BULK AT MOST 1048576: true; the input reads as it did. -/
def schedPlaysUptoRow : OpenClaim := { program := "ytejmdglmldjliaa", sum := "b4f58c4dd1605bb8bf75408389465c7e24d3f69e4c7edcb8b2b7a0629bbc0f6f", func := "loom/loomlaw14.SchedPlays", spec := "schedPlays", apart := false, narrowed := true }
def SchedPlaysUptoSaid : Prop := schedPlaysUptoRow.holds Try.pinned (OpenSpec.upto schedPlaysSpec)

/-- 'loomlaw14.SchedPicks', WHERE WHAT IT READS IS OF BULK AT MOST 1048576: true; the input reads as it did. -/
def schedPicksUptoRow : OpenClaim := { program := "ytejmdglmldjliaa", sum := "b4f58c4dd1605bb8bf75408389465c7e24d3f69e4c7edcb8b2b7a0629bbc0f6f", func := "loom/loomlaw14.SchedPicks", spec := "schedPicks", apart := false, narrowed := true }
def SchedPicksUptoSaid : Prop := schedPicksUptoRow.holds Try.pinned (OpenSpec.upto schedPicksSpec)

/-- 'loomlaw14.SchedMany', WHERE WHAT IT READS IS OF BULK AT MOST 1048576: true; the input reads as it did. -/
def schedManyUptoRow : OpenClaim := { program := "ytejmdglmldjliaa", sum := "b4f58c4dd1605bb8bf75408389465c7e24d3f69e4c7edcb8b2b7a0629bbc0f6f", func := "loom/loomlaw14.SchedMany", spec := "schedMany", apart := false, narrowed := true }
def SchedManyUptoSaid : Prop := schedManyUptoRow.holds Try.pinned (OpenSpec.upto schedManySpec)

/-- 'loomlaw3.WireReads', WHERE WHAT IT READS IS OF BULK AT MOST 1048576: true; the input reads as it did. -/
def wireReadsUptoRow : OpenClaim := { program := "ytejmdglmldjliaa", sum := "b4f58c4dd1605bb8bf75408389465c7e24d3f69e4c7edcb8b2b7a0629bbc0f6f", func := "loom/loomlaw3.WireReads", spec := "wireReads", inPlace := ["math.Float64frombits", "math.Float64bits"], apart := false, narrowed := true }
def WireReadsUptoSaid : Prop := wireReadsUptoRow.holds Try.pinned (OpenSpec.upto wireReadsSpec)

end Rows
end Go.Proofs.Ytejmdglmldjliaa
