/-
  No cell of these rows narrows 'for every input' (looked for: loops, veiled, ifaces, maps, wideKeys, modest, calm, conditions, laid).
  DERIVED. THE GIVEN ROWS OF THIS SEAT. 11 by the template 'for every input the law returns true; each argument reads behind the call as it read before'; 0 by the template 'total and deterministic' (their statements: YtkcigpfdlplbdaaTotals.lean).
  GIVEN WITH THE SEED: the statements are not yours to turn. If you find one false, say at which input.
  Laid BY PROGRAM, IN A SANDBOX (cutbox-rows.mjs): the forced cells as the released guide's own fill.sh prints them over the translation 3357a3708cd3fb2e… (all of the seat's roots in one cut). By AI agents, Wed Nov 11 2026. No macro, syntax, notation, axiom, sorry.
-/
import Derived.Test.YtkcigpfdlplbdaaChecked
import GoSem.Claim
import GoSem.ClaimJoined
import GoSem.ClaimMapViews
import Derived.JoinedTies
import Derived.KernelRfl
namespace Go.Proofs.Ytkcigpfdlplbdaa
/- THE CELL 'sum', in the pinned program and in every row, IS THE sha256 OF THE DUMP (.gsa) THAT YtkcigpfdlplbdaaProg.lean LOADS. Nothing in Lean hashes anything: it is a label: what it is worth is what the hold of that sum in a sandbox is worth. -/
noncomputable def Try.pinned : Pinned := { name := "ytkcigpfdlplbdaa", sum := "3357a3708cd3fb2ec079067818c933dd5bf5ae305af8de9a0d5a1a9249a02eb9", checked := Try.checked }
namespace Rows
def none {H : Type} : Left H := { results := [], args := [] }

/-- 'spillwaylaw23.WitnessEnds': WHATEVER THE INPUT: true; the input reads as it did. -/
def witnessEndsSpec : ChangeSpec := { name := "witnessEnds", fn := fun _ => fun
  | [d] => { results := [.lit (.bool true)], args := [d] }
  | _ => none }
def witnessEndsRow : OpenClaim := { program := "ytkcigpfdlplbdaa", sum := "3357a3708cd3fb2ec079067818c933dd5bf5ae305af8de9a0d5a1a9249a02eb9", func := "spillway/spillwaylaw23.WitnessEnds", spec := "witnessEnds", unfollowed := true, recurses := true, apart := false }
def WitnessEndsSaid : Prop := witnessEndsRow.holds Try.pinned (OpenSpec.ofChange witnessEndsSpec)

/-- ITS FALSE NEIGHBOUR: 'it returns false'. Refute it at one input. -/
def witnessEndsWrong : ChangeSpec := { name := "witnessEnds", fn := fun _ => fun
  | [d] => { results := [.lit (.bool false)], args := [d] }
  | _ => none }
def WitnessEndsWrongFalsely : Prop := witnessEndsRow.holds Try.pinned (OpenSpec.ofChange witnessEndsWrong)

/-- 'spillwaylaw23.WitnessBreaks': WHATEVER THE INPUT: true; the input reads as it did. -/
def witnessBreaksSpec : ChangeSpec := { name := "witnessBreaks", fn := fun _ => fun
  | [d] => { results := [.lit (.bool true)], args := [d] }
  | _ => none }
def witnessBreaksRow : OpenClaim := { program := "ytkcigpfdlplbdaa", sum := "3357a3708cd3fb2ec079067818c933dd5bf5ae305af8de9a0d5a1a9249a02eb9", func := "spillway/spillwaylaw23.WitnessBreaks", spec := "witnessBreaks", unfollowed := true, recurses := true, apart := false }
def WitnessBreaksSaid : Prop := witnessBreaksRow.holds Try.pinned (OpenSpec.ofChange witnessBreaksSpec)

/-- ITS FALSE NEIGHBOUR: 'it returns false'. Refute it at one input. -/
def witnessBreaksWrong : ChangeSpec := { name := "witnessBreaks", fn := fun _ => fun
  | [d] => { results := [.lit (.bool false)], args := [d] }
  | _ => none }
def WitnessBreaksWrongFalsely : Prop := witnessBreaksRow.holds Try.pinned (OpenSpec.ofChange witnessBreaksWrong)

/-- 'spillwaylaw23.WitnessMemory': WHATEVER THE INPUT: true; the input reads as it did. -/
def witnessMemorySpec : ChangeSpec := { name := "witnessMemory", fn := fun _ => fun
  | [d] => { results := [.lit (.bool true)], args := [d] }
  | _ => none }
def witnessMemoryRow : OpenClaim := { program := "ytkcigpfdlplbdaa", sum := "3357a3708cd3fb2ec079067818c933dd5bf5ae305af8de9a0d5a1a9249a02eb9", func := "spillway/spillwaylaw23.WitnessMemory", spec := "witnessMemory", unfollowed := true, recurses := true, apart := false }
def WitnessMemorySaid : Prop := witnessMemoryRow.holds Try.pinned (OpenSpec.ofChange witnessMemorySpec)

/-- ITS FALSE NEIGHBOUR: 'it returns false'. Refute it at one input. -/
def witnessMemoryWrong : ChangeSpec := { name := "witnessMemory", fn := fun _ => fun
  | [d] => { results := [.lit (.bool false)], args := [d] }
  | _ => none }
def WitnessMemoryWrongFalsely : Prop := witnessMemoryRow.holds Try.pinned (OpenSpec.ofChange witnessMemoryWrong)

/-- 'spillwaylaw18.DepthSafes': WHATEVER THE INPUT: true; the input reads as it did. -/
def depthSafesSpec : ChangeSpec := { name := "depthSafes", fn := fun _ => fun
  | [d] => { results := [.lit (.bool true)], args := [d] }
  | _ => none }
def depthSafesRow : OpenClaim := { program := "ytkcigpfdlplbdaa", sum := "3357a3708cd3fb2ec079067818c933dd5bf5ae305af8de9a0d5a1a9249a02eb9", func := "spillway/spillwaylaw18.DepthSafes", spec := "depthSafes", unfollowed := true, recurses := true, apart := false }
def DepthSafesSaid : Prop := depthSafesRow.holds Try.pinned (OpenSpec.ofChange depthSafesSpec)

/-- ITS FALSE NEIGHBOUR: 'it returns false'. Refute it at one input. -/
def depthSafesWrong : ChangeSpec := { name := "depthSafes", fn := fun _ => fun
  | [d] => { results := [.lit (.bool false)], args := [d] }
  | _ => none }
def DepthSafesWrongFalsely : Prop := depthSafesRow.holds Try.pinned (OpenSpec.ofChange depthSafesWrong)

/-- 'spillwaylaw18.DepthMosts': WHATEVER THE INPUT: true; the input reads as it did. -/
def depthMostsSpec : ChangeSpec := { name := "depthMosts", fn := fun _ => fun
  | [d] => { results := [.lit (.bool true)], args := [d] }
  | _ => none }
def depthMostsRow : OpenClaim := { program := "ytkcigpfdlplbdaa", sum := "3357a3708cd3fb2ec079067818c933dd5bf5ae305af8de9a0d5a1a9249a02eb9", func := "spillway/spillwaylaw18.DepthMosts", spec := "depthMosts", unfollowed := true, recurses := true, apart := false }
def DepthMostsSaid : Prop := depthMostsRow.holds Try.pinned (OpenSpec.ofChange depthMostsSpec)

/-- ITS FALSE NEIGHBOUR: 'it returns false'. Refute it at one input. -/
def depthMostsWrong : ChangeSpec := { name := "depthMosts", fn := fun _ => fun
  | [d] => { results := [.lit (.bool false)], args := [d] }
  | _ => none }
def DepthMostsWrongFalsely : Prop := depthMostsRow.holds Try.pinned (OpenSpec.ofChange depthMostsWrong)

/-- 'spillwaylaw18.DepthChooses': WHATEVER THE INPUT: true; the input reads as it did. -/
def depthChoosesSpec : ChangeSpec := { name := "depthChooses", fn := fun _ => fun
  | [d] => { results := [.lit (.bool true)], args := [d] }
  | _ => none }
def depthChoosesRow : OpenClaim := { program := "ytkcigpfdlplbdaa", sum := "3357a3708cd3fb2ec079067818c933dd5bf5ae305af8de9a0d5a1a9249a02eb9", func := "spillway/spillwaylaw18.DepthChooses", spec := "depthChooses", unfollowed := true, recurses := true, apart := false }
def DepthChoosesSaid : Prop := depthChoosesRow.holds Try.pinned (OpenSpec.ofChange depthChoosesSpec)

/-- ITS FALSE NEIGHBOUR: 'it returns false'. Refute it at one input. -/
def depthChoosesWrong : ChangeSpec := { name := "depthChooses", fn := fun _ => fun
  | [d] => { results := [.lit (.bool false)], args := [d] }
  | _ => none }
def DepthChoosesWrongFalsely : Prop := depthChoosesRow.holds Try.pinned (OpenSpec.ofChange depthChoosesWrong)

/-- 'spillwaylaw18.DepthLargest': WHATEVER THE INPUT: true; the input reads as it did. -/
def depthLargestSpec : ChangeSpec := { name := "depthLargest", fn := fun _ => fun
  | [d] => { results := [.lit (.bool true)], args := [d] }
  | _ => none }
def depthLargestRow : OpenClaim := { program := "ytkcigpfdlplbdaa", sum := "3357a3708cd3fb2ec079067818c933dd5bf5ae305af8de9a0d5a1a9249a02eb9", func := "spillway/spillwaylaw18.DepthLargest", spec := "depthLargest", unfollowed := true, recurses := true, apart := false }
def DepthLargestSaid : Prop := depthLargestRow.holds Try.pinned (OpenSpec.ofChange depthLargestSpec)

/-- ITS FALSE NEIGHBOUR: 'it returns false'. Refute it at one input. -/
def depthLargestWrong : ChangeSpec := { name := "depthLargest", fn := fun _ => fun
  | [d] => { results := [.lit (.bool false)], args := [d] }
  | _ => none }
def DepthLargestWrongFalsely : Prop := depthLargestRow.holds Try.pinned (OpenSpec.ofChange depthLargestWrong)

/-- 'spillwaylaw18.DepthNests': WHATEVER THE INPUT: true; the input reads as it did. -/
def depthNestsSpec : ChangeSpec := { name := "depthNests", fn := fun _ => fun
  | [d] => { results := [.lit (.bool true)], args := [d] }
  | _ => none }
def depthNestsRow : OpenClaim := { program := "ytkcigpfdlplbdaa", sum := "3357a3708cd3fb2ec079067818c933dd5bf5ae305af8de9a0d5a1a9249a02eb9", func := "spillway/spillwaylaw18.DepthNests", spec := "depthNests", unfollowed := true, recurses := true, apart := false }
def DepthNestsSaid : Prop := depthNestsRow.holds Try.pinned (OpenSpec.ofChange depthNestsSpec)

/-- ITS FALSE NEIGHBOUR: 'it returns false'. Refute it at one input. -/
def depthNestsWrong : ChangeSpec := { name := "depthNests", fn := fun _ => fun
  | [d] => { results := [.lit (.bool false)], args := [d] }
  | _ => none }
def DepthNestsWrongFalsely : Prop := depthNestsRow.holds Try.pinned (OpenSpec.ofChange depthNestsWrong)

/-- 'spillwaylaw23.WitnessTotals': WHATEVER THE INPUT: true; the input reads as it did. -/
def witnessTotalsSpec : ChangeSpec := { name := "witnessTotals", fn := fun _ => fun
  | [d] => { results := [.lit (.bool true)], args := [d] }
  | _ => none }
def witnessTotalsRow : OpenClaim := { program := "ytkcigpfdlplbdaa", sum := "3357a3708cd3fb2ec079067818c933dd5bf5ae305af8de9a0d5a1a9249a02eb9", func := "spillway/spillwaylaw23.WitnessTotals", spec := "witnessTotals", unfollowed := true, recurses := true, apart := false }
def WitnessTotalsSaid : Prop := witnessTotalsRow.holds Try.pinned (OpenSpec.ofChange witnessTotalsSpec)

/-- ITS FALSE NEIGHBOUR: 'it returns false'. Refute it at one input. -/
def witnessTotalsWrong : ChangeSpec := { name := "witnessTotals", fn := fun _ => fun
  | [d] => { results := [.lit (.bool false)], args := [d] }
  | _ => none }
def WitnessTotalsWrongFalsely : Prop := witnessTotalsRow.holds Try.pinned (OpenSpec.ofChange witnessTotalsWrong)

/-- 'spillwaylaw18.DepthHolds': WHATEVER THE INPUT: true; the input reads as it did. -/
def depthHoldsSpec : ChangeSpec := { name := "depthHolds", fn := fun _ => fun
  | [d] => { results := [.lit (.bool true)], args := [d] }
  | _ => none }
def depthHoldsRow : OpenClaim := { program := "ytkcigpfdlplbdaa", sum := "3357a3708cd3fb2ec079067818c933dd5bf5ae305af8de9a0d5a1a9249a02eb9", func := "spillway/spillwaylaw18.DepthHolds", spec := "depthHolds", unfollowed := true, recurses := true, apart := false }
def DepthHoldsSaid : Prop := depthHoldsRow.holds Try.pinned (OpenSpec.ofChange depthHoldsSpec)

/-- ITS FALSE NEIGHBOUR: 'it returns false'. Refute it at one input. -/
def depthHoldsWrong : ChangeSpec := { name := "depthHolds", fn := fun _ => fun
  | [d] => { results := [.lit (.bool false)], args := [d] }
  | _ => none }
def DepthHoldsWrongFalsely : Prop := depthHoldsRow.holds Try.pinned (OpenSpec.ofChange depthHoldsWrong)

/-- 'spillwaylaw23.WitnessMost': WHATEVER THE INPUT: true; the input reads as it did. -/
def witnessMostSpec : ChangeSpec := { name := "witnessMost", fn := fun _ => fun
  | [d] => { results := [.lit (.bool true)], args := [d] }
  | _ => none }
def witnessMostRow : OpenClaim := { program := "ytkcigpfdlplbdaa", sum := "3357a3708cd3fb2ec079067818c933dd5bf5ae305af8de9a0d5a1a9249a02eb9", func := "spillway/spillwaylaw23.WitnessMost", spec := "witnessMost", unfollowed := true, recurses := true, apart := false }
def WitnessMostSaid : Prop := witnessMostRow.holds Try.pinned (OpenSpec.ofChange witnessMostSpec)

/-- ITS FALSE NEIGHBOUR: 'it returns false'. Refute it at one input. -/
def witnessMostWrong : ChangeSpec := { name := "witnessMost", fn := fun _ => fun
  | [d] => { results := [.lit (.bool false)], args := [d] }
  | _ => none }
def WitnessMostWrongFalsely : Prop := witnessMostRow.holds Try.pinned (OpenSpec.ofChange witnessMostWrong)

/- THE SECOND FORM. 'bulk': how many values and letters a reading holds, each counted each time it is reached (what is shared counts as often as it is met; a slice's spare places count too). A statement '..UptoSaid' is the law's where the arguments, and the package variables that the reading takes, are together of bulk at most 1048576: NARROWER than '..Said'. Prove '..Said' where nothing that the law and all that it calls make is longer than what came in: it says more and counts as full. Else prove '..UptoSaid'. A law counts once. -/
mutual
def uptoBulk {H : Type} : DataW H → Nat
  | .lit (.string bytes) => bytes.length + 1
  | .lit _ => 1
  | .nil => 1
  | .ptr d => uptoBulk d + 1
  | .slice elems spare => uptoBulkAll elems + uptoBulkAll spare + 1
  | .agg parts => uptoBulkAll parts + 1
  | .iface _ d => uptoBulk d + 1
  | .map entries => uptoBulkEntries entries + 1
  | .held _ => 1
def uptoBulkAll {H : Type} : List (DataW H) → Nat
  | [] => 0
  | d :: r => uptoBulk d + uptoBulkAll r
def uptoBulkEntries {H : Type} : List (Lit × DataW H) → Nat
  | [] => 0
  | x :: r => uptoBulkEntry x + uptoBulkEntries r
def uptoBulkEntry {H : Type} : Lit × DataW H → Nat
  | (.string bytes, d) => bytes.length + uptoBulk d + 1
  | (_, d) => uptoBulk d + 1
 end
def uptoSmall : (H : Type) → List (DataW H) → Bool := fun _ ds => decide (uptoBulkAll ds ≤ 1048576)
def OpenSpec.upto (s : _root_.Go.ChangeSpec) : _root_.Go.OpenSpec := { _root_.Go.OpenSpec.ofChange s with cond := some uptoSmall }

/-- 'spillwaylaw23.WitnessEnds', WHERE WHAT IT READS IS OF BULK AT MOST 1048576: true; the input reads as it did. -/
def witnessEndsUptoRow : OpenClaim := { program := "ytkcigpfdlplbdaa", sum := "3357a3708cd3fb2ec079067818c933dd5bf5ae305af8de9a0d5a1a9249a02eb9", func := "spillway/spillwaylaw23.WitnessEnds", spec := "witnessEnds", unfollowed := true, recurses := true, apart := false, narrowed := true }
def WitnessEndsUptoSaid : Prop := witnessEndsUptoRow.holds Try.pinned (OpenSpec.upto witnessEndsSpec)

/-- 'spillwaylaw23.WitnessBreaks', WHERE WHAT IT READS IS OF BULK AT MOST 1048576: true; the input reads as it did. -/
def witnessBreaksUptoRow : OpenClaim := { program := "ytkcigpfdlplbdaa", sum := "3357a3708cd3fb2ec079067818c933dd5bf5ae305af8de9a0d5a1a9249a02eb9", func := "spillway/spillwaylaw23.WitnessBreaks", spec := "witnessBreaks", unfollowed := true, recurses := true, apart := false, narrowed := true }
def WitnessBreaksUptoSaid : Prop := witnessBreaksUptoRow.holds Try.pinned (OpenSpec.upto witnessBreaksSpec)

/-- 'spillwaylaw23.WitnessMemory', WHERE WHAT IT READS IS OF BULK AT MOST 1048576: true; the input reads as it did. -/
def witnessMemoryUptoRow : OpenClaim := { program := "ytkcigpfdlplbdaa", sum := "3357a3708cd3fb2ec079067818c933dd5bf5ae305af8de9a0d5a1a9249a02eb9", func := "spillway/spillwaylaw23.WitnessMemory", spec := "witnessMemory", unfollowed := true, recurses := true, apart := false, narrowed := true }
def WitnessMemoryUptoSaid : Prop := witnessMemoryUptoRow.holds Try.pinned (OpenSpec.upto witnessMemorySpec)

/-- 'spillwaylaw18.DepthSafes', WHERE WHAT IT READS IS OF BULK AT MOST 1048576: true; the input reads as it did. -/
def depthSafesUptoRow : OpenClaim := { program := "ytkcigpfdlplbdaa", sum := "3357a3708cd3fb2ec079067818c933dd5bf5ae305af8de9a0d5a1a9249a02eb9", func := "spillway/spillwaylaw18.DepthSafes", spec := "depthSafes", unfollowed := true, recurses := true, apart := false, narrowed := true }
def DepthSafesUptoSaid : Prop := depthSafesUptoRow.holds Try.pinned (OpenSpec.upto depthSafesSpec)

/-- 'spillwaylaw18.DepthMosts', WHERE WHAT IT READS IS OF BULK AT MOST 1048576: true; the input reads as it did. -/
def depthMostsUptoRow : OpenClaim := { program := "ytkcigpfdlplbdaa", sum := "3357a3708cd3fb2ec079067818c933dd5bf5ae305af8de9a0d5a1a9249a02eb9", func := "spillway/spillwaylaw18.DepthMosts", spec := "depthMosts", unfollowed := true, recurses := true, apart := false, narrowed := true }
def DepthMostsUptoSaid : Prop := depthMostsUptoRow.holds Try.pinned (OpenSpec.upto depthMostsSpec)

/-- 'spillwaylaw18.DepthChooses', WHERE WHAT IT READS IS OF BULK AT MOST 1048576: true; the input reads as it did. -/
def depthChoosesUptoRow : OpenClaim := { program := "ytkcigpfdlplbdaa", sum := "3357a3708cd3fb2ec079067818c933dd5bf5ae305af8de9a0d5a1a9249a02eb9", func := "spillway/spillwaylaw18.DepthChooses", spec := "depthChooses", unfollowed := true, recurses := true, apart := false, narrowed := true }
def DepthChoosesUptoSaid : Prop := depthChoosesUptoRow.holds Try.pinned (OpenSpec.upto depthChoosesSpec)

/-- 'spillwaylaw18.DepthLargest', WHERE WHAT IT READS IS OF BULK AT MOST 1048576: true; the input reads as it did. -/
def depthLargestUptoRow : OpenClaim := { program := "ytkcigpfdlplbdaa", sum := "3357a3708cd3fb2ec079067818c933dd5bf5ae305af8de9a0d5a1a9249a02eb9", func := "spillway/spillwaylaw18.DepthLargest", spec := "depthLargest", unfollowed := true, recurses := true, apart := false, narrowed := true }
def DepthLargestUptoSaid : Prop := depthLargestUptoRow.holds Try.pinned (OpenSpec.upto depthLargestSpec)

/-- 'spillwaylaw18.DepthNests', WHERE WHAT IT READS IS OF BULK AT MOST 1048576: true; the input reads as it did. -/
def depthNestsUptoRow : OpenClaim := { program := "ytkcigpfdlplbdaa", sum := "3357a3708cd3fb2ec079067818c933dd5bf5ae305af8de9a0d5a1a9249a02eb9", func := "spillway/spillwaylaw18.DepthNests", spec := "depthNests", unfollowed := true, recurses := true, apart := false, narrowed := true }
def DepthNestsUptoSaid : Prop := depthNestsUptoRow.holds Try.pinned (OpenSpec.upto depthNestsSpec)

/-- 'spillwaylaw23.WitnessTotals', WHERE WHAT IT READS IS OF BULK AT MOST 1048576: true; the input reads as it did. -/
def witnessTotalsUptoRow : OpenClaim := { program := "ytkcigpfdlplbdaa", sum := "3357a3708cd3fb2ec079067818c933dd5bf5ae305af8de9a0d5a1a9249a02eb9", func := "spillway/spillwaylaw23.WitnessTotals", spec := "witnessTotals", unfollowed := true, recurses := true, apart := false, narrowed := true }
def WitnessTotalsUptoSaid : Prop := witnessTotalsUptoRow.holds Try.pinned (OpenSpec.upto witnessTotalsSpec)

/-- 'spillwaylaw18.DepthHolds', WHERE WHAT IT READS IS OF BULK AT MOST 1048576: true; the input reads as it did. -/
def depthHoldsUptoRow : OpenClaim := { program := "ytkcigpfdlplbdaa", sum := "3357a3708cd3fb2ec079067818c933dd5bf5ae305af8de9a0d5a1a9249a02eb9", func := "spillway/spillwaylaw18.DepthHolds", spec := "depthHolds", unfollowed := true, recurses := true, apart := false, narrowed := true }
def DepthHoldsUptoSaid : Prop := depthHoldsUptoRow.holds Try.pinned (OpenSpec.upto depthHoldsSpec)

/-- 'spillwaylaw23.WitnessMost', WHERE WHAT IT READS IS OF BULK AT MOST 1048576: true; the input reads as it did. -/
def witnessMostUptoRow : OpenClaim := { program := "ytkcigpfdlplbdaa", sum := "3357a3708cd3fb2ec079067818c933dd5bf5ae305af8de9a0d5a1a9249a02eb9", func := "spillway/spillwaylaw23.WitnessMost", spec := "witnessMost", unfollowed := true, recurses := true, apart := false, narrowed := true }
def WitnessMostUptoSaid : Prop := witnessMostUptoRow.holds Try.pinned (OpenSpec.upto witnessMostSpec)

end Rows
end Go.Proofs.Ytkcigpfdlplbdaa
