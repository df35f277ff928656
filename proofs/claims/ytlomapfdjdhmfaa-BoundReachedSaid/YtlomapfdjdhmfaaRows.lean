/-
  No cell of these rows narrows 'for every input' (looked for: loops, veiled, ifaces, maps, wideKeys, modest, calm, conditions, laid).
  DERIVED. THE GIVEN ROWS OF THIS SEAT. 6 by the template 'for every input the law returns true; each argument reads behind the call as it read before'; 0 by the template 'total and deterministic' (their statements: YtlomapfdjdhmfaaTotals.lean).
  GIVEN WITH THE SEED: the statements are not yours to turn. If you find one false, say at which input.
  Laid BY PROGRAM, IN A SANDBOX (cutbox-rows.mjs): the forced cells as the released guide's own fill.sh prints them over the translation 78650eba1a0d1f84… (all of the seat's roots in one cut). By AI agents, Wed Nov 11 2026. No macro, syntax, notation, axiom, sorry.
-/
import Derived.Test.YtlomapfdjdhmfaaChecked
import GoSem.Claim
import GoSem.ClaimJoined
import GoSem.ClaimMapViews
import Derived.JoinedTies
import Derived.KernelRfl
namespace Go.Proofs.Ytlomapfdjdhmfaa
/- THE CELL 'sum', in the pinned program and in every row, IS THE sha256 OF THE DUMP (.gsa) THAT YtlomapfdjdhmfaaProg.lean LOADS. Nothing in Lean hashes anything: it is a label: what it is worth is what the hold of that sum in a sandbox is worth. -/
noncomputable def Try.pinned : Pinned := { name := "ytlomapfdjdhmfaa", sum := "78650eba1a0d1f84b5e5b6b92cdb795e09d36a053b4c4edbf23246a5391c6a4b", checked := Try.checked }
namespace Rows
def none {H : Type} : Left H := { results := [], args := [] }

/-- 'spillwaylaw13.BoundTotals': WHATEVER THE INPUT: true; the input reads as it did. -/
def boundTotalsSpec : ChangeSpec := { name := "boundTotals", fn := fun _ => fun
  | [d] => { results := [.lit (.bool true)], args := [d] }
  | _ => none }
def boundTotalsRow : OpenClaim := { program := "ytlomapfdjdhmfaa", sum := "78650eba1a0d1f84b5e5b6b92cdb795e09d36a053b4c4edbf23246a5391c6a4b", func := "spillway/spillwaylaw13.BoundTotals", spec := "boundTotals", unfollowed := true, recurses := true, apart := false }
def BoundTotalsSaid : Prop := boundTotalsRow.holds Try.pinned (OpenSpec.ofChange boundTotalsSpec)

/-- ITS FALSE NEIGHBOUR: 'it returns false'. Refute it at one input. -/
def boundTotalsWrong : ChangeSpec := { name := "boundTotals", fn := fun _ => fun
  | [d] => { results := [.lit (.bool false)], args := [d] }
  | _ => none }
def BoundTotalsWrongFalsely : Prop := boundTotalsRow.holds Try.pinned (OpenSpec.ofChange boundTotalsWrong)

/-- 'spillwaylaw13.BoundRuns': WHATEVER THE INPUT: true; the input reads as it did. -/
def boundRunsSpec : ChangeSpec := { name := "boundRuns", fn := fun _ => fun
  | [d] => { results := [.lit (.bool true)], args := [d] }
  | _ => none }
def boundRunsRow : OpenClaim := { program := "ytlomapfdjdhmfaa", sum := "78650eba1a0d1f84b5e5b6b92cdb795e09d36a053b4c4edbf23246a5391c6a4b", func := "spillway/spillwaylaw13.BoundRuns", spec := "boundRuns", unfollowed := true, recurses := true, apart := false }
def BoundRunsSaid : Prop := boundRunsRow.holds Try.pinned (OpenSpec.ofChange boundRunsSpec)

/-- ITS FALSE NEIGHBOUR: 'it returns false'. Refute it at one input. -/
def boundRunsWrong : ChangeSpec := { name := "boundRuns", fn := fun _ => fun
  | [d] => { results := [.lit (.bool false)], args := [d] }
  | _ => none }
def BoundRunsWrongFalsely : Prop := boundRunsRow.holds Try.pinned (OpenSpec.ofChange boundRunsWrong)

/-- 'spillwaylaw13.BoundParts': WHATEVER THE INPUT: true; the input reads as it did. -/
def boundPartsSpec : ChangeSpec := { name := "boundParts", fn := fun _ => fun
  | [d] => { results := [.lit (.bool true)], args := [d] }
  | _ => none }
def boundPartsRow : OpenClaim := { program := "ytlomapfdjdhmfaa", sum := "78650eba1a0d1f84b5e5b6b92cdb795e09d36a053b4c4edbf23246a5391c6a4b", func := "spillway/spillwaylaw13.BoundParts", spec := "boundParts", unfollowed := true, recurses := true, apart := false }
def BoundPartsSaid : Prop := boundPartsRow.holds Try.pinned (OpenSpec.ofChange boundPartsSpec)

/-- ITS FALSE NEIGHBOUR: 'it returns false'. Refute it at one input. -/
def boundPartsWrong : ChangeSpec := { name := "boundParts", fn := fun _ => fun
  | [d] => { results := [.lit (.bool false)], args := [d] }
  | _ => none }
def BoundPartsWrongFalsely : Prop := boundPartsRow.holds Try.pinned (OpenSpec.ofChange boundPartsWrong)

/-- 'spillwaylaw13.BoundHolds': WHATEVER THE INPUT: true; the input reads as it did. -/
def boundHoldsSpec : ChangeSpec := { name := "boundHolds", fn := fun _ => fun
  | [d] => { results := [.lit (.bool true)], args := [d] }
  | _ => none }
def boundHoldsRow : OpenClaim := { program := "ytlomapfdjdhmfaa", sum := "78650eba1a0d1f84b5e5b6b92cdb795e09d36a053b4c4edbf23246a5391c6a4b", func := "spillway/spillwaylaw13.BoundHolds", spec := "boundHolds", unfollowed := true, recurses := true, apart := false }
def BoundHoldsSaid : Prop := boundHoldsRow.holds Try.pinned (OpenSpec.ofChange boundHoldsSpec)

/-- ITS FALSE NEIGHBOUR: 'it returns false'. Refute it at one input. -/
def boundHoldsWrong : ChangeSpec := { name := "boundHolds", fn := fun _ => fun
  | [d] => { results := [.lit (.bool false)], args := [d] }
  | _ => none }
def BoundHoldsWrongFalsely : Prop := boundHoldsRow.holds Try.pinned (OpenSpec.ofChange boundHoldsWrong)

/-- 'spillwaylaw13.BoundNests': WHATEVER THE INPUT: true; the input reads as it did. -/
def boundNestsSpec : ChangeSpec := { name := "boundNests", fn := fun _ => fun
  | [d1, d2] => { results := [.lit (.bool true)], args := [d1, d2] }
  | _ => none }
def boundNestsRow : OpenClaim := { program := "ytlomapfdjdhmfaa", sum := "78650eba1a0d1f84b5e5b6b92cdb795e09d36a053b4c4edbf23246a5391c6a4b", func := "spillway/spillwaylaw13.BoundNests", spec := "boundNests", unfollowed := true, recurses := true, apart := false }
def BoundNestsSaid : Prop := boundNestsRow.holds Try.pinned (OpenSpec.ofChange boundNestsSpec)

/-- ITS FALSE NEIGHBOUR: 'it returns false'. Refute it at one input. -/
def boundNestsWrong : ChangeSpec := { name := "boundNests", fn := fun _ => fun
  | [d1, d2] => { results := [.lit (.bool false)], args := [d1, d2] }
  | _ => none }
def BoundNestsWrongFalsely : Prop := boundNestsRow.holds Try.pinned (OpenSpec.ofChange boundNestsWrong)

/-- 'spillwaylaw13.BoundReached': WHATEVER THE INPUT: true; the input reads as it did. -/
def boundReachedSpec : ChangeSpec := { name := "boundReached", fn := fun _ => fun
  | [d] => { results := [.lit (.bool true)], args := [d] }
  | _ => none }
def boundReachedRow : OpenClaim := { program := "ytlomapfdjdhmfaa", sum := "78650eba1a0d1f84b5e5b6b92cdb795e09d36a053b4c4edbf23246a5391c6a4b", func := "spillway/spillwaylaw13.BoundReached", spec := "boundReached", unfollowed := true, recurses := true, apart := false }
def BoundReachedSaid : Prop := boundReachedRow.holds Try.pinned (OpenSpec.ofChange boundReachedSpec)

/-- ITS FALSE NEIGHBOUR: 'it returns false'. Refute it at one input. -/
def boundReachedWrong : ChangeSpec := { name := "boundReached", fn := fun _ => fun
  | [d] => { results := [.lit (.bool false)], args := [d] }
  | _ => none }
def BoundReachedWrongFalsely : Prop := boundReachedRow.holds Try.pinned (OpenSpec.ofChange boundReachedWrong)

/- THE SECOND FORM. 'bulk': how many values and letters a reading holds, each counted each time it is reached (what is shared counts as often as it is met; a slice's spare places count too). A statement '..UptoSaid' is the law's where the arguments, and the package variables that the reading takes, are together of bulk at most 1048576: NARROWER than '..Said'. Prove '..Said' where nothing that the law and all that it calls make is longer than what came in: it says more and counts as full. Else prove '..UptoSaid'. A law counts once. -/
mutual
def uptoBulk {H : Type} : DataW H → Nat
  | .lit (.string bytes) => bytes.length + 1
  | .lit _ => 1
  | .nil => 1
  | .ptr d => uptoBulk d + 1
  | .slice elems spare => uptoBulkAll elems + uptoBulkAll spare + 1
  | .agg parts => uptoBulkAll parts + 1
  | .iface _ d => uptoBulk d + 1
  | .map entries => uptoBulkEntries entries + 1
  | .held _ => 1
def uptoBulkAll {H : Type} : List (DataW H) → Nat
  | [] => 0
  | d :: r => uptoBulk d + uptoBulkAll r
def uptoBulkEntries {H : Type} : List (Lit × DataW H) → Nat
  | [] => 0
  | x :: r => uptoBulkEntry x + uptoBulkEntries r
def uptoBulkEntry {H : Type} : Lit × DataW H → Nat
  | (.string bytes, d) => bytes.length + uptoBulk d + 1
  | (_, d) => uptoBulk d + 1
 end
def uptoSmall : (H : Type) → List (DataW H) → Bool := fun _ ds => decide (uptoBulkAll ds ≤ 1048576)
def OpenSpec.upto (s : _root_.Go.ChangeSpec) : _root_.Go.OpenSpec := { _root_.Go.OpenSpec.ofChange s with cond := some uptoSmall }

/-- 'spillwaylaw13.BoundTotals', WHERE WHAT IT READS IS OF BULK AT MOST 1048576: true; the input reads as it did. -/
def boundTotalsUptoRow : OpenClaim := { program := "ytlomapfdjdhmfaa", sum := "78650eba1a0d1f84b5e5b6b92cdb795e09d36a053b4c4edbf23246a5391c6a4b", func := "spillway/spillwaylaw13.BoundTotals", spec := "boundTotals", unfollowed := true, recurses := true, apart := false, narrowed := true }
def BoundTotalsUptoSaid : Prop := boundTotalsUptoRow.holds Try.pinned (OpenSpec.upto boundTotalsSpec)

/-- 'spillwaylaw13.BoundRuns', WHERE WHAT IT READS IS OF BULK AT MOST 1048576: true; the input reads as it did. -/
def boundRunsUptoRow : OpenClaim := { program := "ytlomapfdjdhmfaa", sum := "78650eba1a0d1f84b5e5b6b92cdb795e09d36a053b4c4edbf23246a5391c6a4b", func := "spillway/spillwaylaw13.BoundRuns", spec := "boundRuns", unfollowed := true, recurses := true, apart := false, narrowed := true }
def BoundRunsUptoSaid : Prop := boundRunsUptoRow.holds Try.pinned (OpenSpec.upto boundRunsSpec)

/-- 'spillwaylaw13.BoundParts', WHERE WHAT IT READS IS OF BULK AT MOST 1048576: true; the input reads as it did. -/
def boundPartsUptoRow : OpenClaim := { program := "ytlomapfdjdhmfaa", sum := "78650eba1a0d1f84b5e5b6b92cdb795e09d36a053b4c4edbf23246a5391c6a4b", func := "spillway/spillwaylaw13.BoundParts", spec := "boundParts", unfollowed := true, recurses := true, apart := false, narrowed := true }
def BoundPartsUptoSaid : Prop := boundPartsUptoRow.holds Try.pinned (OpenSpec.upto boundPartsSpec)

/-- 'spillwaylaw13.BoundHolds', WHERE WHAT IT READS IS OF BULK AT MOST 1048576: true; the input reads as it did. -/
def boundHoldsUptoRow : OpenClaim := { program := "ytlomapfdjdhmfaa", sum := "78650eba1a0d1f84b5e5b6b92cdb795e09d36a053b4c4edbf23246a5391c6a4b", func := "spillway/spillwaylaw13.BoundHolds", spec := "boundHolds", unfollowed := true, recurses := true, apart := false, narrowed := true }
def BoundHoldsUptoSaid : Prop := boundHoldsUptoRow.holds Try.pinned (OpenSpec.upto boundHoldsSpec)

/-- 'spillwaylaw13.BoundNests', WHERE WHAT IT READS IS OF BULK AT MOST 1048576: true; the input reads as it did. -/
def boundNestsUptoRow : OpenClaim := { program := "ytlomapfdjdhmfaa", sum := "78650eba1a0d1f84b5e5b6b92cdb795e09d36a053b4c4edbf23246a5391c6a4b", func := "spillway/spillwaylaw13.BoundNests", spec := "boundNests", unfollowed := true, recurses := true, apart := false, narrowed := true }
def BoundNestsUptoSaid : Prop := boundNestsUptoRow.holds Try.pinned (OpenSpec.upto boundNestsSpec)

/-- 'spillwaylaw13.BoundReached', WHERE WHAT IT READS IS OF BULK AT MOST 1048576: true; the input reads as it did. -/
def boundReachedUptoRow : OpenClaim := { program := "ytlomapfdjdhmfaa", sum := "78650eba1a0d1f84b5e5b6b92cdb795e09d36a053b4c4edbf23246a5391c6a4b", func := "spillway/spillwaylaw13.BoundReached", spec := "boundReached", unfollowed := true, recurses := true, apart := false, narrowed := true }
def BoundReachedUptoSaid : Prop := boundReachedUptoRow.holds Try.pinned (OpenSpec.upto boundReachedSpec)

end Rows
end Go.Proofs.Ytlomapfdjdhmfaa
