/-
  No cell of these rows narrows 'for every input' (looked for: loops, veiled, ifaces, maps, wideKeys, modest, calm, conditions, laid).
  DERIVED. THE GIVEN ROWS OF THIS SEAT. 3 by the template 'for every input the law returns true; each argument reads behind the call as it read before'; 0 by the template 'total and deterministic' (their statements: YtmjbfnnnejmmjaaTotals.lean).
  GIVEN WITH THE SEED: the statements are not yours to turn. If you find one false, say at which input.
  Laid BY PROGRAM, IN A SANDBOX (cutbox-rows.mjs): the forced cells as the released guide's own fill.sh prints them over the translation 08ad1928272a3ae0… (all of the seat's roots in one cut). By AI agents, Wed Nov 11 2026. No macro, syntax, notation, axiom, sorry.
-/
import Derived.Test.YtmjbfnnnejmmjaaChecked
import GoSem.Claim
import GoSem.ClaimJoined
import GoSem.ClaimMapViews
import Derived.JoinedTies
import Derived.KernelRfl
namespace Go.Proofs.Ytmjbfnnnejmmjaa
/- THE CELL 'sum', in the pinned program and in every row, IS THE sha256 OF THE DUMP (.gsa) THAT YtmjbfnnnejmmjaaProg.lean LOADS. Nothing in Lean hashes anything: it is a label: what it is worth is what the hold of that sum in a sandbox is worth. -/
noncomputable def Try.pinned : Pinned := { name := "ytmjbfnnnejmmjaa", sum := "08ad1928272a3ae0cd69f49d686ac604e7d0388f8ee63ff2b81d3a7e1834b7c3", checked := Try.checked }
namespace Rows
def none {H : Type} : Left H := { results := [], args := [] }

/-- 'spillwaylaw11.PlainTotals': WHATEVER THE INPUT: true; the input reads as it did. -/
def plainTotalsSpec : ChangeSpec := { name := "plainTotals", fn := fun _ => fun
  | [d1, d2, d3] => { results := [.lit (.bool true)], args := [d1, d2, d3] }
  | _ => none }
def plainTotalsRow : OpenClaim := { program := "ytmjbfnnnejmmjaa", sum := "08ad1928272a3ae0cd69f49d686ac604e7d0388f8ee63ff2b81d3a7e1834b7c3", func := "spillway/spillwaylaw11.PlainTotals", spec := "plainTotals", inPlace := ["math/bits.Add64"], unfollowed := true, recurses := true, named := ["math/bits.divideError", "math/bits.overflowError"], apart := false }
def PlainTotalsSaid : Prop := plainTotalsRow.holds Try.pinned (OpenSpec.ofChange plainTotalsSpec)

/-- ITS FALSE NEIGHBOUR: 'it returns false'. Refute it at one input. -/
def plainTotalsWrong : ChangeSpec := { name := "plainTotals", fn := fun _ => fun
  | [d1, d2, d3] => { results := [.lit (.bool false)], args := [d1, d2, d3] }
  | _ => none }
def PlainTotalsWrongFalsely : Prop := plainTotalsRow.holds Try.pinned (OpenSpec.ofChange plainTotalsWrong)

/-- 'spillwaylaw11.PlainSteps': WHATEVER THE INPUT: true; the input reads as it did. -/
def plainStepsSpec : ChangeSpec := { name := "plainSteps", fn := fun _ => fun
  | [d] => { results := [.lit (.bool true)], args := [d] }
  | _ => none }
def plainStepsRow : OpenClaim := { program := "ytmjbfnnnejmmjaa", sum := "08ad1928272a3ae0cd69f49d686ac604e7d0388f8ee63ff2b81d3a7e1834b7c3", func := "spillway/spillwaylaw11.PlainSteps", spec := "plainSteps", inPlace := ["math/bits.Add64"], unfollowed := true, recurses := true, named := ["math/bits.divideError", "math/bits.overflowError"], apart := false }
def PlainStepsSaid : Prop := plainStepsRow.holds Try.pinned (OpenSpec.ofChange plainStepsSpec)

/-- ITS FALSE NEIGHBOUR: 'it returns false'. Refute it at one input. -/
def plainStepsWrong : ChangeSpec := { name := "plainSteps", fn := fun _ => fun
  | [d] => { results := [.lit (.bool false)], args := [d] }
  | _ => none }
def PlainStepsWrongFalsely : Prop := plainStepsRow.holds Try.pinned (OpenSpec.ofChange plainStepsWrong)

/-- 'spillwaylaw11.PlainFronts': WHATEVER THE INPUT: true; the input reads as it did. -/
def plainFrontsSpec : ChangeSpec := { name := "plainFronts", fn := fun _ => fun
  | [d1, d2, d3] => { results := [.lit (.bool true)], args := [d1, d2, d3] }
  | _ => none }
def plainFrontsRow : OpenClaim := { program := "ytmjbfnnnejmmjaa", sum := "08ad1928272a3ae0cd69f49d686ac604e7d0388f8ee63ff2b81d3a7e1834b7c3", func := "spillway/spillwaylaw11.PlainFronts", spec := "plainFronts", inPlace := ["math/bits.Add64"], unfollowed := true, recurses := true, named := ["math/bits.divideError", "math/bits.overflowError"], apart := false }
def PlainFrontsSaid : Prop := plainFrontsRow.holds Try.pinned (OpenSpec.ofChange plainFrontsSpec)

/-- ITS FALSE NEIGHBOUR: 'it returns false'. Refute it at one input. -/
def plainFrontsWrong : ChangeSpec := { name := "plainFronts", fn := fun _ => fun
  | [d1, d2, d3] => { results := [.lit (.bool false)], args := [d1, d2, d3] }
  | _ => none }
def PlainFrontsWrongFalsely : Prop := plainFrontsRow.holds Try.pinned (OpenSpec.ofChange plainFrontsWrong)

/- THE SECOND FORM. 'bulk': how many values and letters a reading holds, each counted each time it is reached (what is shared counts as often as it is met; a slice's spare places count too). A statement '..UptoSaid' is the law's where the arguments, and the package variables that the reading takes, are together of bulk at most 1048576: NARROWER than '..Said'. Prove '..Said' where nothing that the law and all that it calls make is longer than what came in: it says more and counts as full. Else prove '..UptoSaid'. A law counts once. -/
mutual
def uptoBulk {H : Type} : DataW H → Nat
  | .lit (.string bytes) => bytes.length + 1
  | .lit _ => 1
  | .nil => 1
  | .ptr d => uptoBulk d + 1
  | .slice elems spare => uptoBulkAll elems + uptoBulkAll spare + 1
  | .agg parts => uptoBulkAll parts + 1
  | .iface _ d => uptoBulk d + 1
  | .map entries => uptoBulkEntries entries + 1
  | .held _ => 1
def uptoBulkAll {H : Type} : List (DataW H) → Nat
  | [] => 0
  | d :: r => uptoBulk d + uptoBulkAll r
def uptoBulkEntries {H : Type} : List (Lit × DataW H) → Nat
  | [] => 0
  | x :: r => uptoBulkEntry x + uptoBulkEntries r
def uptoBulkEntry {H : Type} : Lit × DataW H → Nat
  | (.string bytes, d) => bytes.length + uptoBulk d + 1
  | (_, d) => uptoBulk d + 1
 end
def uptoSmall : (H : Type) → List (DataW H) → Bool := fun _ ds => decide (uptoBulkAll ds ≤ 1048576)
def OpenSpec.upto (s : _root_.Go.ChangeSpec) : _root_.Go.OpenSpec := { _root_.Go.OpenSpec.ofChange s with cond := some uptoSmall }

/-- 'spillwaylaw11.PlainTotals', WHERE WHAT IT READS IS OF BULK AT MOST 1048576: true; the input reads as it did. -/
def plainTotalsUptoRow : OpenClaim := { program := "ytmjbfnnnejmmjaa", sum := "08ad1928272a3ae0cd69f49d686ac604e7d0388f8ee63ff2b81d3a7e1834b7c3", func := "spillway/spillwaylaw11.PlainTotals", spec := "plainTotals", inPlace := ["math/bits.Add64"], unfollowed := true, recurses := true, named := ["math/bits.divideError", "math/bits.overflowError"], apart := false, narrowed := true }
def PlainTotalsUptoSaid : Prop := plainTotalsUptoRow.holds Try.pinned (OpenSpec.upto plainTotalsSpec)

/-- 'spillwaylaw11.PlainSteps', WHERE WHAT IT READS IS OF BULK AT MOST 1048576: true; the input reads as it did. -/
def plainStepsUptoRow : OpenClaim := { program := "ytmjbfnnnejmmjaa", sum := "08ad1928272a3ae0cd69f49d686ac604e7d0388f8ee63ff2b81d3a7e1834b7c3", func := "spillway/spillwaylaw11.PlainSteps", spec := "plainSteps", inPlace := ["math/bits.Add64"], unfollowed := true, recurses := true, named := ["math/bits.divideError", "math/bits.overflowError"], apart := false, narrowed := true }
def PlainStepsUptoSaid : Prop := plainStepsUptoRow.holds Try.pinned (OpenSpec.upto plainStepsSpec)

/-- 'spillwaylaw11.PlainFronts', WHERE WHAT IT READS IS OF BULK AT MOST 1048576: true; the input reads as it did. -/
def plainFrontsUptoRow : OpenClaim := { program := "ytmjbfnnnejmmjaa", sum := "08ad1928272a3ae0cd69f49d686ac604e7d0388f8ee63ff2b81d3a7e1834b7c3", func := "spillway/spillwaylaw11.PlainFronts", spec := "plainFronts", inPlace := ["math/bits.Add64"], unfollowed := true, recurses := true, named := ["math/bits.divideError", "math/bits.overflowError"], apart := false, narrowed := true }
def PlainFrontsUptoSaid : Prop := plainFrontsUptoRow.holds Try.pinned (OpenSpec.upto plainFrontsSpec)

end Rows
end Go.Proofs.Ytmjbfnnnejmmjaa
