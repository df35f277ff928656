/-
  No cell of these rows narrows 'for every input' (looked for: loops, veiled, ifaces, maps, wideKeys, modest, calm, conditions, laid).
  DERIVED. THE GIVEN ROWS OF THIS SEAT. 13 by the template 'for every input the law returns true; each argument reads behind the call as it read before'; 0 by the template 'total and deterministic' (their statements: YthjfmgdldjbkgaaTotals.lean).
  GIVEN WITH THE SEED: the statements are not yours to turn. If you find one false, say at which input.
  Laid BY PROGRAM, IN A SANDBOX (cutbox-rows.mjs): the forced cells as the released guide's own fill.sh prints them over the translation 508841193ce08030… (all of the seat's roots in one cut). By AI agents, Wed Nov 11 2026. No macro, syntax, notation, axiom, sorry.
-/
import Derived.Test.YthjfmgdldjbkgaaChecked
import GoSem.Claim
import GoSem.ClaimJoined
import GoSem.ClaimMapViews
import Derived.JoinedTies
import Derived.KernelRfl
namespace Go.Proofs.Ythjfmgdldjbkgaa
/- THE CELL 'sum', in the pinned program and in every row, IS THE sha256 OF THE DUMP (.gsa) THAT YthjfmgdldjbkgaaProg.lean LOADS. Nothing in Lean hashes anything: it is a label: what it is worth is what the hold of that sum in a sandbox is worth. -/
noncomputable def Try.pinned : Pinned := { name := "ythjfmgdldjbkgaa", sum := "508841193ce0803026ed1e8eac92bce63f3a7fc035866d716733549ae4d2a110", checked := Try.checked }
namespace Rows
def none {H : Type} : Left H := { results := [], args := [] }

/-- 'spillwaylaw03.SpanMakes': WHATEVER THE INPUT: true; the input reads as it did. -/
def spanMakesSpec : ChangeSpec := { name := "spanMakes", fn := fun _ => fun
  | [d1, d2, d3] => { results := [.lit (.bool true)], args := [d1, d2, d3] }
  | _ => none }
def spanMakesRow : OpenClaim := { program := "ythjfmgdldjbkgaa", sum := "508841193ce0803026ed1e8eac92bce63f3a7fc035866d716733549ae4d2a110", func := "spillway/spillwaylaw03.SpanMakes", spec := "spanMakes", apart := false }
def SpanMakesSaid : Prop := spanMakesRow.holds Try.pinned (OpenSpec.ofChange spanMakesSpec)

/-- ITS FALSE NEIGHBOUR: 'it returns false'. Refute it at one input. -/
def spanMakesWrong : ChangeSpec := { name := "spanMakes", fn := fun _ => fun
  | [d1, d2, d3] => { results := [.lit (.bool false)], args := [d1, d2, d3] }
  | _ => none }
def SpanMakesWrongFalsely : Prop := spanMakesRow.holds Try.pinned (OpenSpec.ofChange spanMakesWrong)

/-- 'spillwaylaw03.SpanSets': WHATEVER THE INPUT: true; the input reads as it did. -/
def spanSetsSpec : ChangeSpec := { name := "spanSets", fn := fun _ => fun
  | [d1, d2] => { results := [.lit (.bool true)], args := [d1, d2] }
  | _ => none }
def spanSetsRow : OpenClaim := { program := "ythjfmgdldjbkgaa", sum := "508841193ce0803026ed1e8eac92bce63f3a7fc035866d716733549ae4d2a110", func := "spillway/spillwaylaw03.SpanSets", spec := "spanSets", apart := false }
def SpanSetsSaid : Prop := spanSetsRow.holds Try.pinned (OpenSpec.ofChange spanSetsSpec)

/-- ITS FALSE NEIGHBOUR: 'it returns false'. Refute it at one input. -/
def spanSetsWrong : ChangeSpec := { name := "spanSets", fn := fun _ => fun
  | [d1, d2] => { results := [.lit (.bool false)], args := [d1, d2] }
  | _ => none }
def SpanSetsWrongFalsely : Prop := spanSetsRow.holds Try.pinned (OpenSpec.ofChange spanSetsWrong)

/-- 'spillwaylaw03.SpanSums': WHATEVER THE INPUT: true; the input reads as it did. -/
def spanSumsSpec : ChangeSpec := { name := "spanSums", fn := fun _ => fun
  | [d1, d2, d3] => { results := [.lit (.bool true)], args := [d1, d2, d3] }
  | _ => none }
def spanSumsRow : OpenClaim := { program := "ythjfmgdldjbkgaa", sum := "508841193ce0803026ed1e8eac92bce63f3a7fc035866d716733549ae4d2a110", func := "spillway/spillwaylaw03.SpanSums", spec := "spanSums", apart := false }
def SpanSumsSaid : Prop := spanSumsRow.holds Try.pinned (OpenSpec.ofChange spanSumsSpec)

/-- ITS FALSE NEIGHBOUR: 'it returns false'. Refute it at one input. -/
def spanSumsWrong : ChangeSpec := { name := "spanSums", fn := fun _ => fun
  | [d1, d2, d3] => { results := [.lit (.bool false)], args := [d1, d2, d3] }
  | _ => none }
def SpanSumsWrongFalsely : Prop := spanSumsRow.holds Try.pinned (OpenSpec.ofChange spanSumsWrong)

/-- 'spillwaylaw03.SpanTight': WHATEVER THE INPUT: true; the input reads as it did. -/
def spanTightSpec : ChangeSpec := { name := "spanTight", fn := fun _ => fun
  | [d] => { results := [.lit (.bool true)], args := [d] }
  | _ => none }
def spanTightRow : OpenClaim := { program := "ythjfmgdldjbkgaa", sum := "508841193ce0803026ed1e8eac92bce63f3a7fc035866d716733549ae4d2a110", func := "spillway/spillwaylaw03.SpanTight", spec := "spanTight", apart := false }
def SpanTightSaid : Prop := spanTightRow.holds Try.pinned (OpenSpec.ofChange spanTightSpec)

/-- ITS FALSE NEIGHBOUR: 'it returns false'. Refute it at one input. -/
def spanTightWrong : ChangeSpec := { name := "spanTight", fn := fun _ => fun
  | [d] => { results := [.lit (.bool false)], args := [d] }
  | _ => none }
def SpanTightWrongFalsely : Prop := spanTightRow.holds Try.pinned (OpenSpec.ofChange spanTightWrong)

/-- 'spillwaylaw03.SpanScales': WHATEVER THE INPUT: true; the input reads as it did. -/
def spanScalesSpec : ChangeSpec := { name := "spanScales", fn := fun _ => fun
  | [d1, d2, d3] => { results := [.lit (.bool true)], args := [d1, d2, d3] }
  | _ => none }
def spanScalesRow : OpenClaim := { program := "ythjfmgdldjbkgaa", sum := "508841193ce0803026ed1e8eac92bce63f3a7fc035866d716733549ae4d2a110", func := "spillway/spillwaylaw03.SpanScales", spec := "spanScales", apart := false }
def SpanScalesSaid : Prop := spanScalesRow.holds Try.pinned (OpenSpec.ofChange spanScalesSpec)

/-- ITS FALSE NEIGHBOUR: 'it returns false'. Refute it at one input. -/
def spanScalesWrong : ChangeSpec := { name := "spanScales", fn := fun _ => fun
  | [d1, d2, d3] => { results := [.lit (.bool false)], args := [d1, d2, d3] }
  | _ => none }
def SpanScalesWrongFalsely : Prop := spanScalesRow.holds Try.pinned (OpenSpec.ofChange spanScalesWrong)

/-- 'spillwaylaw03.SpanMembers': WHATEVER THE INPUT: true; the input reads as it did. -/
def spanMembersSpec : ChangeSpec := { name := "spanMembers", fn := fun _ => fun
  | [d] => { results := [.lit (.bool true)], args := [d] }
  | _ => none }
def spanMembersRow : OpenClaim := { program := "ythjfmgdldjbkgaa", sum := "508841193ce0803026ed1e8eac92bce63f3a7fc035866d716733549ae4d2a110", func := "spillway/spillwaylaw03.SpanMembers", spec := "spanMembers", apart := false }
def SpanMembersSaid : Prop := spanMembersRow.holds Try.pinned (OpenSpec.ofChange spanMembersSpec)

/-- ITS FALSE NEIGHBOUR: 'it returns false'. Refute it at one input. -/
def spanMembersWrong : ChangeSpec := { name := "spanMembers", fn := fun _ => fun
  | [d] => { results := [.lit (.bool false)], args := [d] }
  | _ => none }
def SpanMembersWrongFalsely : Prop := spanMembersRow.holds Try.pinned (OpenSpec.ofChange spanMembersWrong)

/-- 'spillwaylaw02.FixqScales': WHATEVER THE INPUT: true; the input reads as it did. -/
def fixqScalesSpec : ChangeSpec := { name := "fixqScales", fn := fun _ => fun
  | [d1, d2] => { results := [.lit (.bool true)], args := [d1, d2] }
  | _ => none }
def fixqScalesRow : OpenClaim := { program := "ythjfmgdldjbkgaa", sum := "508841193ce0803026ed1e8eac92bce63f3a7fc035866d716733549ae4d2a110", func := "spillway/spillwaylaw02.FixqScales", spec := "fixqScales", inPlace := ["math/bits.Add64"], named := ["math/bits.divideError", "math/bits.overflowError"], apart := false }
def FixqScalesSaid : Prop := fixqScalesRow.holds Try.pinned (OpenSpec.ofChange fixqScalesSpec)

/-- ITS FALSE NEIGHBOUR: 'it returns false'. Refute it at one input. -/
def fixqScalesWrong : ChangeSpec := { name := "fixqScales", fn := fun _ => fun
  | [d1, d2] => { results := [.lit (.bool false)], args := [d1, d2] }
  | _ => none }
def FixqScalesWrongFalsely : Prop := fixqScalesRow.holds Try.pinned (OpenSpec.ofChange fixqScalesWrong)

/-- 'spillwaylaw02.FixqShifts': WHATEVER THE INPUT: true; the input reads as it did. -/
def fixqShiftsSpec : ChangeSpec := { name := "fixqShifts", fn := fun _ => fun
  | [d1, d2] => { results := [.lit (.bool true)], args := [d1, d2] }
  | _ => none }
def fixqShiftsRow : OpenClaim := { program := "ythjfmgdldjbkgaa", sum := "508841193ce0803026ed1e8eac92bce63f3a7fc035866d716733549ae4d2a110", func := "spillway/spillwaylaw02.FixqShifts", spec := "fixqShifts", inPlace := ["math/bits.Add64"], named := ["math/bits.divideError", "math/bits.overflowError"], apart := false }
def FixqShiftsSaid : Prop := fixqShiftsRow.holds Try.pinned (OpenSpec.ofChange fixqShiftsSpec)

/-- ITS FALSE NEIGHBOUR: 'it returns false'. Refute it at one input. -/
def fixqShiftsWrong : ChangeSpec := { name := "fixqShifts", fn := fun _ => fun
  | [d1, d2] => { results := [.lit (.bool false)], args := [d1, d2] }
  | _ => none }
def FixqShiftsWrongFalsely : Prop := fixqShiftsRow.holds Try.pinned (OpenSpec.ofChange fixqShiftsWrong)

/-- 'spillwaylaw02.FixqMeans': WHATEVER THE INPUT: true; the input reads as it did. -/
def fixqMeansSpec : ChangeSpec := { name := "fixqMeans", fn := fun _ => fun
  | [d1, d2] => { results := [.lit (.bool true)], args := [d1, d2] }
  | _ => none }
def fixqMeansRow : OpenClaim := { program := "ythjfmgdldjbkgaa", sum := "508841193ce0803026ed1e8eac92bce63f3a7fc035866d716733549ae4d2a110", func := "spillway/spillwaylaw02.FixqMeans", spec := "fixqMeans", inPlace := ["math/bits.Add64"], named := ["math/bits.divideError", "math/bits.overflowError"], apart := false }
def FixqMeansSaid : Prop := fixqMeansRow.holds Try.pinned (OpenSpec.ofChange fixqMeansSpec)

/-- ITS FALSE NEIGHBOUR: 'it returns false'. Refute it at one input. -/
def fixqMeansWrong : ChangeSpec := { name := "fixqMeans", fn := fun _ => fun
  | [d1, d2] => { results := [.lit (.bool false)], args := [d1, d2] }
  | _ => none }
def FixqMeansWrongFalsely : Prop := fixqMeansRow.holds Try.pinned (OpenSpec.ofChange fixqMeansWrong)

/-- 'spillwaylaw02.FixqFinishes': WHATEVER THE INPUT: true; the input reads as it did. -/
def fixqFinishesSpec : ChangeSpec := { name := "fixqFinishes", fn := fun _ => fun
  | [d] => { results := [.lit (.bool true)], args := [d] }
  | _ => none }
def fixqFinishesRow : OpenClaim := { program := "ythjfmgdldjbkgaa", sum := "508841193ce0803026ed1e8eac92bce63f3a7fc035866d716733549ae4d2a110", func := "spillway/spillwaylaw02.FixqFinishes", spec := "fixqFinishes", inPlace := ["math/bits.Add64"], named := ["math/bits.divideError", "math/bits.overflowError"], apart := false }
def FixqFinishesSaid : Prop := fixqFinishesRow.holds Try.pinned (OpenSpec.ofChange fixqFinishesSpec)

/-- ITS FALSE NEIGHBOUR: 'it returns false'. Refute it at one input. -/
def fixqFinishesWrong : ChangeSpec := { name := "fixqFinishes", fn := fun _ => fun
  | [d] => { results := [.lit (.bool false)], args := [d] }
  | _ => none }
def FixqFinishesWrongFalsely : Prop := fixqFinishesRow.holds Try.pinned (OpenSpec.ofChange fixqFinishesWrong)

/-- 'spillwaylaw02.FixqNear': WHATEVER THE INPUT: true; the input reads as it did. -/
def fixqNearSpec : ChangeSpec := { name := "fixqNear", fn := fun _ => fun
  | [d1, d2] => { results := [.lit (.bool true)], args := [d1, d2] }
  | _ => none }
def fixqNearRow : OpenClaim := { program := "ythjfmgdldjbkgaa", sum := "508841193ce0803026ed1e8eac92bce63f3a7fc035866d716733549ae4d2a110", func := "spillway/spillwaylaw02.FixqNear", spec := "fixqNear", inPlace := ["math/bits.Add64"], named := ["math/bits.divideError", "math/bits.overflowError"], apart := false }
def FixqNearSaid : Prop := fixqNearRow.holds Try.pinned (OpenSpec.ofChange fixqNearSpec)

/-- ITS FALSE NEIGHBOUR: 'it returns false'. Refute it at one input. -/
def fixqNearWrong : ChangeSpec := { name := "fixqNear", fn := fun _ => fun
  | [d1, d2] => { results := [.lit (.bool false)], args := [d1, d2] }
  | _ => none }
def FixqNearWrongFalsely : Prop := fixqNearRow.holds Try.pinned (OpenSpec.ofChange fixqNearWrong)

/-- 'spillwaylaw02.FixqOdd': WHATEVER THE INPUT: true; the input reads as it did. -/
def fixqOddSpec : ChangeSpec := { name := "fixqOdd", fn := fun _ => fun
  | [d1, d2, d3] => { results := [.lit (.bool true)], args := [d1, d2, d3] }
  | _ => none }
def fixqOddRow : OpenClaim := { program := "ythjfmgdldjbkgaa", sum := "508841193ce0803026ed1e8eac92bce63f3a7fc035866d716733549ae4d2a110", func := "spillway/spillwaylaw02.FixqOdd", spec := "fixqOdd", inPlace := ["math/bits.Add64"], named := ["math/bits.divideError", "math/bits.overflowError"], apart := false }
def FixqOddSaid : Prop := fixqOddRow.holds Try.pinned (OpenSpec.ofChange fixqOddSpec)

/-- ITS FALSE NEIGHBOUR: 'it returns false'. Refute it at one input. -/
def fixqOddWrong : ChangeSpec := { name := "fixqOdd", fn := fun _ => fun
  | [d1, d2, d3] => { results := [.lit (.bool false)], args := [d1, d2, d3] }
  | _ => none }
def FixqOddWrongFalsely : Prop := fixqOddRow.holds Try.pinned (OpenSpec.ofChange fixqOddWrong)

/-- 'spillwaylaw02.FixqMeanOf': WHATEVER THE INPUT: true; the input reads as it did. -/
def fixqMeanOfSpec : ChangeSpec := { name := "fixqMeanOf", fn := fun _ => fun
  | [d1, d2, d3] => { results := [.lit (.bool true)], args := [d1, d2, d3] }
  | _ => none }
def fixqMeanOfRow : OpenClaim := { program := "ythjfmgdldjbkgaa", sum := "508841193ce0803026ed1e8eac92bce63f3a7fc035866d716733549ae4d2a110", func := "spillway/spillwaylaw02.FixqMeanOf", spec := "fixqMeanOf", inPlace := ["math/bits.Add64"], named := ["math/bits.divideError", "math/bits.overflowError"], apart := false }
def FixqMeanOfSaid : Prop := fixqMeanOfRow.holds Try.pinned (OpenSpec.ofChange fixqMeanOfSpec)

/-- ITS FALSE NEIGHBOUR: 'it returns false'. Refute it at one input. -/
def fixqMeanOfWrong : ChangeSpec := { name := "fixqMeanOf", fn := fun _ => fun
  | [d1, d2, d3] => { results := [.lit (.bool false)], args := [d1, d2, d3] }
  | _ => none }
def FixqMeanOfWrongFalsely : Prop := fixqMeanOfRow.holds Try.pinned (OpenSpec.ofChange fixqMeanOfWrong)

/- THE SECOND FORM. 'bulk': how many values and letters a reading holds, each counted each time it is reached (what is shared counts as often as it is met; a slice's spare places count too). A statement '..UptoSaid' is the law's where the arguments, and the package variables that the reading takes, are together of bulk at most 1048576: NARROWER than '..Said'. Prove '..Said' where nothing that the law and all that it calls make is longer than what came in: it says more and counts as full. Else prove '..UptoSaid'. A law counts once. -/
mutual
def uptoBulk {H : Type} : DataW H → Nat
  | .lit (.string bytes) => bytes.length + 1
  | .lit _ => 1
  | .nil => 1
  | .ptr d => uptoBulk d + 1
  | .slice elems spare => uptoBulkAll elems + uptoBulkAll spare + 1
  | .agg parts => uptoBulkAll parts + 1
  | .iface _ d => uptoBulk d + 1
  | .map entries => uptoBulkEntries entries + 1
  | .held _ => 1
def uptoBulkAll {H : Type} : List (DataW H) → Nat
  | [] => 0
  | d :: r => uptoBulk d + uptoBulkAll r
def uptoBulkEntries {H : Type} : List (Lit × DataW H) → Nat
  | [] => 0
  | x :: r => uptoBulkEntry x + uptoBulkEntries r
def uptoBulkEntry {H : Type} : Lit × DataW H → Nat
  | (.string bytes, d) => bytes.length + uptoBulk d + 1
  | (_, d) => uptoBulk d + 1
 end
def uptoSmall : (H : Type) → List (DataW H) → Bool := fun _ ds => decide (uptoBulkAll ds ≤ 1048576)
def OpenSpec.upto (s : _root_.Go.ChangeSpec) : _root_.Go.OpenSpec := { _root_.Go.OpenSpec.ofChange s with cond := some uptoSmall }

/-- 'spillwaylaw03.SpanMakes', WHERE WHAT IT READS IS OF BULK AT MOST 1048576: true; the input reads as it did. -/
def spanMakesUptoRow : OpenClaim := { program := "ythjfmgdldjbkgaa", sum := "508841193ce0803026ed1e8eac92bce63f3a7fc035866d716733549ae4d2a110", func := "spillway/spillwaylaw03.SpanMakes", spec := "spanMakes", apart := false, narrowed := true }
def SpanMakesUptoSaid : Prop := spanMakesUptoRow.holds Try.pinned (OpenSpec.upto spanMakesSpec)

/-- 'spillwaylaw03.SpanSets', WHERE WHAT IT READS IS OF BULK AT MOST 1048576: true; the input reads as it did. -/
def spanSetsUptoRow : OpenClaim := { program := "ythjfmgdldjbkgaa", sum := "508841193ce0803026ed1e8eac92bce63f3a7fc035866d716733549ae4d2a110", func := "spillway/spillwaylaw03.SpanSets", spec := "spanSets", apart := false, narrowed := true }
def SpanSetsUptoSaid : Prop := spanSetsUptoRow.holds Try.pinned (OpenSpec.upto spanSetsSpec)

/-- 'spillwaylaw03.SpanSums', WHERE WHAT IT READS IS OF BULK AT MOST 1048576: true; the input reads as it did. -/
def spanSumsUptoRow : OpenClaim := { program := "ythjfmgdldjbkgaa", sum := "508841193ce0803026ed1e8eac92bce63f3a7fc035866d716733549ae4d2a110", func := "spillway/spillwaylaw03.SpanSums", spec := "spanSums", apart := false, narrowed := true }
def SpanSumsUptoSaid : Prop := spanSumsUptoRow.holds Try.pinned (OpenSpec.upto spanSumsSpec)

/-- 'spillwaylaw03.SpanTight', WHERE WHAT IT READS IS OF BULK AT MOST 1048576: true; the input reads as it did. -/
def spanTightUptoRow : OpenClaim := { program := "ythjfmgdldjbkgaa", sum := "508841193ce0803026ed1e8eac92bce63f3a7fc035866d716733549ae4d2a110", func := "spillway/spillwaylaw03.SpanTight", spec := "spanTight", apart := false, narrowed := true }
def SpanTightUptoSaid : Prop := spanTightUptoRow.holds Try.pinned (OpenSpec.upto spanTightSpec)

/-- 'spillwaylaw03.SpanScales', WHERE WHAT IT READS IS OF BULK AT MOST 1048576: true; the input reads as it did. -/
def spanScalesUptoRow : OpenClaim := { program := "ythjfmgdldjbkgaa", sum := "508841193ce0803026ed1e8eac92bce63f3a7fc035866d716733549ae4d2a110", func := "spillway/spillwaylaw03.SpanScales", spec := "spanScales", apart := false, narrowed := true }
def SpanScalesUptoSaid : Prop := spanScalesUptoRow.holds Try.pinned (OpenSpec.upto spanScalesSpec)

/-- 'spillwaylaw03.SpanMembers', WHERE WHAT IT READS IS OF BULK AT MOST 1048576: true; the input reads as it did. -/
def spanMembersUptoRow : OpenClaim := { program := "ythjfmgdldjbkgaa", sum := "508841193ce0803026ed1e8eac92bce63f3a7fc035866d716733549ae4d2a110", func := "spillway/spillwaylaw03.SpanMembers", spec := "spanMembers", apart := false, narrowed := true }
def SpanMembersUptoSaid : Prop := spanMembersUptoRow.holds Try.pinned (OpenSpec.upto spanMembersSpec)

/-- 'spillwaylaw02.FixqScales', WHERE WHAT IT READS IS OF BULK AT MOST 1048576: true; the input reads as it did. -/
def fixqScalesUptoRow : OpenClaim := { program := "ythjfmgdldjbkgaa", sum := "508841193ce0803026ed1e8eac92bce63f3a7fc035866d716733549ae4d2a110", func := "spillway/spillwaylaw02.FixqScales", spec := "fixqScales", inPlace := ["math/bits.Add64"], named := ["math/bits.divideError", "math/bits.overflowError"], apart := false, narrowed := true }
def FixqScalesUptoSaid : Prop := fixqScalesUptoRow.holds Try.pinned (OpenSpec.upto fixqScalesSpec)

/-- 'spillwaylaw02.FixqShifts', WHERE WHAT IT READS IS OF BULK AT MOST 1048576: true; the input reads as it did. -/
def fixqShiftsUptoRow : OpenClaim := { program := "ythjfmgdldjbkgaa", sum := "508841193ce0803026ed1e8eac92bce63f3a7fc035866d716733549ae4d2a110", func := "spillway/spillwaylaw02.FixqShifts", spec := "fixqShifts", inPlace := ["math/bits.Add64"], named := ["math/bits.divideError", "math/bits.overflowError"], apart := false, narrowed := true }
def FixqShiftsUptoSaid : Prop := fixqShiftsUptoRow.holds Try.pinned (OpenSpec.upto fixqShiftsSpec)

/-- 'spillwaylaw02.FixqMeans', WHERE WHAT IT READS IS OF BULK AT MOST 1048576: true; the input reads as it did. -/
def fixqMeansUptoRow : OpenClaim := { program := "ythjfmgdldjbkgaa", sum := "508841193ce0803026ed1e8eac92bce63f3a7fc035866d716733549ae4d2a110", func := "spillway/spillwaylaw02.FixqMeans", spec := "fixqMeans", inPlace := ["math/bits.Add64"], named := ["math/bits.divideError", "math/bits.overflowError"], apart := false, narrowed := true }
def FixqMeansUptoSaid : Prop := fixqMeansUptoRow.holds Try.pinned (OpenSpec.upto fixqMeansSpec)

/-- 'spillwaylaw02.FixqFinishes', WHERE WHAT IT READS IS OF BULK AT MOST 1048576: true; the input reads as it did. -/
def fixqFinishesUptoRow : OpenClaim := { program := "ythjfmgdldjbkgaa", sum := "508841193ce0803026ed1e8eac92bce63f3a7fc035866d716733549ae4d2a110", func := "spillway/spillwaylaw02.FixqFinishes", spec := "fixqFinishes", inPlace := ["math/bits.Add64"], named := ["math/bits.divideError", "math/bits.overflowError"], apart := false, narrowed := true }
def FixqFinishesUptoSaid : Prop := fixqFinishesUptoRow.holds Try.pinned (OpenSpec.upto fixqFinishesSpec)

/-- 'spillwaylaw02.FixqNear', WHERE WHAT IT READS IS OF BULK AT MOST 1048576: true; the input reads as it did. -/
def fixqNearUptoRow : OpenClaim := { program := "ythjfmgdldjbkgaa", sum := "508841193ce0803026ed1e8eac92bce63f3a7fc035866d716733549ae4d2a110", func := "spillway/spillwaylaw02.FixqNear", spec := "fixqNear", inPlace := ["math/bits.Add64"], named := ["math/bits.divideError", "math/bits.overflowError"], apart := false, narrowed := true }
def FixqNearUptoSaid : Prop := fixqNearUptoRow.holds Try.pinned (OpenSpec.upto fixqNearSpec)

/-- 'spillwaylaw02.FixqOdd', WHERE WHAT IT READS IS OF BULK AT MOST 1048576: true; the input reads as it did. -/
def fixqOddUptoRow : OpenClaim := { program := "ythjfmgdldjbkgaa", sum := "508841193ce0803026ed1e8eac92bce63f3a7fc035866d716733549ae4d2a110", func := "spillway/spillwaylaw02.FixqOdd", spec := "fixqOdd", inPlace := ["math/bits.Add64"], named := ["math/bits.divideError", "math/bits.overflowError"], apart := false, narrowed := true }
def FixqOddUptoSaid : Prop := fixqOddUptoRow.holds Try.pinned (OpenSpec.upto fixqOddSpec)

/-- 'spillwaylaw02.FixqMeanOf', WHERE WHAT IT READS IS OF BULK AT MOST 1048576: true; the input reads as it did. -/
def fixqMeanOfUptoRow : OpenClaim := { program := "ythjfmgdldjbkgaa", sum := "508841193ce0803026ed1e8eac92bce63f3a7fc035866d716733549ae4d2a110", func := "spillway/spillwaylaw02.FixqMeanOf", spec := "fixqMeanOf", inPlace := ["math/bits.Add64"], named := ["math/bits.divideError", "math/bits.overflowError"], apart := false, narrowed := true }
def FixqMeanOfUptoSaid : Prop := fixqMeanOfUptoRow.holds Try.pinned (OpenSpec.upto fixqMeanOfSpec)

end Rows
end Go.Proofs.Ythjfmgdldjbkgaa
