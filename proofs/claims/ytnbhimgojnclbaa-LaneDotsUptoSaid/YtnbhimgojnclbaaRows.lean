/-
  No cell of these rows narrows 'for every input' (looked for: loops, veiled, ifaces, maps, wideKeys, modest, calm, conditions, laid).
  DERIVED. THE GIVEN ROWS OF THIS SEAT. 11 by the template 'for every input the law returns true; each argument reads behind the call as it read before'; 0 by the template 'total and deterministic' (their statements: YtnbhimgojnclbaaTotals.lean).
  GIVEN WITH THE SEED: the statements are not yours to turn. If you find one false, say at which input.
  Laid BY PROGRAM, IN A SANDBOX (cutbox-rows.mjs): the forced cells as the released guide's own fill.sh prints them over the translation b3096f2ba406701d… (all of the seat's roots in one cut). By AI agents, Wed Nov 11 2026. No macro, syntax, notation, axiom, sorry.
-/
import Derived.Test.YtnbhimgojnclbaaChecked
import GoSem.Claim
import GoSem.ClaimJoined
import GoSem.ClaimMapViews
import Derived.JoinedTies
import Derived.KernelRfl
namespace Go.Proofs.Ytnbhimgojnclbaa
/- THE CELL 'sum', in the pinned program and in every row, IS THE sha256 OF THE DUMP (.gsa) THAT YtnbhimgojnclbaaProg.lean LOADS. Nothing in Lean hashes anything: it is a label: what it is worth is what the hold of that sum in a sandbox is worth. -/
noncomputable def Try.pinned : Pinned := { name := "ytnbhimgojnclbaa", sum := "b3096f2ba406701dd3524cf1ccadd22100c9085953698d099fc1611ee9d718bb", checked := Try.checked }
namespace Rows
def none {H : Type} : Left H := { results := [], args := [] }

/-- 'spillwaylaw06.WindowOuts': WHATEVER THE INPUT: true; the input reads as it did. -/
def windowOutsSpec : ChangeSpec := { name := "windowOuts", fn := fun _ => fun
  | [d1, d2] => { results := [.lit (.bool true)], args := [d1, d2] }
  | _ => none }
def windowOutsRow : OpenClaim := { program := "ytnbhimgojnclbaa", sum := "b3096f2ba406701dd3524cf1ccadd22100c9085953698d099fc1611ee9d718bb", func := "spillway/spillwaylaw06.WindowOuts", spec := "windowOuts", unfollowed := true, recurses := true, apart := false }
def WindowOutsSaid : Prop := windowOutsRow.holds Try.pinned (OpenSpec.ofChange windowOutsSpec)

/-- ITS FALSE NEIGHBOUR: 'it returns false'. Refute it at one input. -/
def windowOutsWrong : ChangeSpec := { name := "windowOuts", fn := fun _ => fun
  | [d1, d2] => { results := [.lit (.bool false)], args := [d1, d2] }
  | _ => none }
def WindowOutsWrongFalsely : Prop := windowOutsRow.holds Try.pinned (OpenSpec.ofChange windowOutsWrong)

/-- 'spillwaylaw06.WindowPositions': WHATEVER THE INPUT: true; the input reads as it did. -/
def windowPositionsSpec : ChangeSpec := { name := "windowPositions", fn := fun _ => fun
  | [d1, d2] => { results := [.lit (.bool true)], args := [d1, d2] }
  | _ => none }
def windowPositionsRow : OpenClaim := { program := "ytnbhimgojnclbaa", sum := "b3096f2ba406701dd3524cf1ccadd22100c9085953698d099fc1611ee9d718bb", func := "spillway/spillwaylaw06.WindowPositions", spec := "windowPositions", unfollowed := true, recurses := true, apart := false }
def WindowPositionsSaid : Prop := windowPositionsRow.holds Try.pinned (OpenSpec.ofChange windowPositionsSpec)

/-- ITS FALSE NEIGHBOUR: 'it returns false'. Refute it at one input. -/
def windowPositionsWrong : ChangeSpec := { name := "windowPositions", fn := fun _ => fun
  | [d1, d2] => { results := [.lit (.bool false)], args := [d1, d2] }
  | _ => none }
def WindowPositionsWrongFalsely : Prop := windowPositionsRow.holds Try.pinned (OpenSpec.ofChange windowPositionsWrong)

/-- 'spillwaylaw06.WindowStops': WHATEVER THE INPUT: true; the input reads as it did. -/
def windowStopsSpec : ChangeSpec := { name := "windowStops", fn := fun _ => fun
  | [d] => { results := [.lit (.bool true)], args := [d] }
  | _ => none }
def windowStopsRow : OpenClaim := { program := "ytnbhimgojnclbaa", sum := "b3096f2ba406701dd3524cf1ccadd22100c9085953698d099fc1611ee9d718bb", func := "spillway/spillwaylaw06.WindowStops", spec := "windowStops", unfollowed := true, recurses := true, apart := false }
def WindowStopsSaid : Prop := windowStopsRow.holds Try.pinned (OpenSpec.ofChange windowStopsSpec)

/-- ITS FALSE NEIGHBOUR: 'it returns false'. Refute it at one input. -/
def windowStopsWrong : ChangeSpec := { name := "windowStops", fn := fun _ => fun
  | [d] => { results := [.lit (.bool false)], args := [d] }
  | _ => none }
def WindowStopsWrongFalsely : Prop := windowStopsRow.holds Try.pinned (OpenSpec.ofChange windowStopsWrong)

/-- 'spillwaylaw06.WindowTaps': WHATEVER THE INPUT: true; the input reads as it did. -/
def windowTapsSpec : ChangeSpec := { name := "windowTaps", fn := fun _ => fun
  | [d1, d2, d3] => { results := [.lit (.bool true)], args := [d1, d2, d3] }
  | _ => none }
def windowTapsRow : OpenClaim := { program := "ytnbhimgojnclbaa", sum := "b3096f2ba406701dd3524cf1ccadd22100c9085953698d099fc1611ee9d718bb", func := "spillway/spillwaylaw06.WindowTaps", spec := "windowTaps", unfollowed := true, recurses := true, apart := false }
def WindowTapsSaid : Prop := windowTapsRow.holds Try.pinned (OpenSpec.ofChange windowTapsSpec)

/-- ITS FALSE NEIGHBOUR: 'it returns false'. Refute it at one input. -/
def windowTapsWrong : ChangeSpec := { name := "windowTaps", fn := fun _ => fun
  | [d1, d2, d3] => { results := [.lit (.bool false)], args := [d1, d2, d3] }
  | _ => none }
def WindowTapsWrongFalsely : Prop := windowTapsRow.holds Try.pinned (OpenSpec.ofChange windowTapsWrong)

/-- 'spillwaylaw06.WindowPlain': WHATEVER THE INPUT: true; the input reads as it did. -/
def windowPlainSpec : ChangeSpec := { name := "windowPlain", fn := fun _ => fun
  | [d1, d2, d3] => { results := [.lit (.bool true)], args := [d1, d2, d3] }
  | _ => none }
def windowPlainRow : OpenClaim := { program := "ytnbhimgojnclbaa", sum := "b3096f2ba406701dd3524cf1ccadd22100c9085953698d099fc1611ee9d718bb", func := "spillway/spillwaylaw06.WindowPlain", spec := "windowPlain", unfollowed := true, recurses := true, apart := false }
def WindowPlainSaid : Prop := windowPlainRow.holds Try.pinned (OpenSpec.ofChange windowPlainSpec)

/-- ITS FALSE NEIGHBOUR: 'it returns false'. Refute it at one input. -/
def windowPlainWrong : ChangeSpec := { name := "windowPlain", fn := fun _ => fun
  | [d1, d2, d3] => { results := [.lit (.bool false)], args := [d1, d2, d3] }
  | _ => none }
def WindowPlainWrongFalsely : Prop := windowPlainRow.holds Try.pinned (OpenSpec.ofChange windowPlainWrong)

/-- 'spillwaylaw20.LaneWords': WHATEVER THE INPUT: true; the input reads as it did. -/
def laneWordsSpec : ChangeSpec := { name := "laneWords", fn := fun _ => fun
  | [d] => { results := [.lit (.bool true)], args := [d] }
  | _ => none }
def laneWordsRow : OpenClaim := { program := "ytnbhimgojnclbaa", sum := "b3096f2ba406701dd3524cf1ccadd22100c9085953698d099fc1611ee9d718bb", func := "spillway/spillwaylaw20.LaneWords", spec := "laneWords", apart := false }
def LaneWordsSaid : Prop := laneWordsRow.holds Try.pinned (OpenSpec.ofChange laneWordsSpec)

/-- ITS FALSE NEIGHBOUR: 'it returns false'. Refute it at one input. -/
def laneWordsWrong : ChangeSpec := { name := "laneWords", fn := fun _ => fun
  | [d] => { results := [.lit (.bool false)], args := [d] }
  | _ => none }
def LaneWordsWrongFalsely : Prop := laneWordsRow.holds Try.pinned (OpenSpec.ofChange laneWordsWrong)

/-- 'spillwaylaw20.LaneSums': WHATEVER THE INPUT: true; the input reads as it did. -/
def laneSumsSpec : ChangeSpec := { name := "laneSums", fn := fun _ => fun
  | [d1, d2] => { results := [.lit (.bool true)], args := [d1, d2] }
  | _ => none }
def laneSumsRow : OpenClaim := { program := "ytnbhimgojnclbaa", sum := "b3096f2ba406701dd3524cf1ccadd22100c9085953698d099fc1611ee9d718bb", func := "spillway/spillwaylaw20.LaneSums", spec := "laneSums", apart := false }
def LaneSumsSaid : Prop := laneSumsRow.holds Try.pinned (OpenSpec.ofChange laneSumsSpec)

/-- ITS FALSE NEIGHBOUR: 'it returns false'. Refute it at one input. -/
def laneSumsWrong : ChangeSpec := { name := "laneSums", fn := fun _ => fun
  | [d1, d2] => { results := [.lit (.bool false)], args := [d1, d2] }
  | _ => none }
def LaneSumsWrongFalsely : Prop := laneSumsRow.holds Try.pinned (OpenSpec.ofChange laneSumsWrong)

/-- 'spillwaylaw20.LaneDots': WHATEVER THE INPUT: true; the input reads as it did. -/
def laneDotsSpec : ChangeSpec := { name := "laneDots", fn := fun _ => fun
  | [d] => { results := [.lit (.bool true)], args := [d] }
  | _ => none }
def laneDotsRow : OpenClaim := { program := "ytnbhimgojnclbaa", sum := "b3096f2ba406701dd3524cf1ccadd22100c9085953698d099fc1611ee9d718bb", func := "spillway/spillwaylaw20.LaneDots", spec := "laneDots", apart := false }
def LaneDotsSaid : Prop := laneDotsRow.holds Try.pinned (OpenSpec.ofChange laneDotsSpec)

/-- ITS FALSE NEIGHBOUR: 'it returns false'. Refute it at one input. -/
def laneDotsWrong : ChangeSpec := { name := "laneDots", fn := fun _ => fun
  | [d] => { results := [.lit (.bool false)], args := [d] }
  | _ => none }
def LaneDotsWrongFalsely : Prop := laneDotsRow.holds Try.pinned (OpenSpec.ofChange laneDotsWrong)

/-- 'spillwaylaw20.LaneWhole': WHATEVER THE INPUT: true; the input reads as it did. -/
def laneWholeSpec : ChangeSpec := { name := "laneWhole", fn := fun _ => fun
  | [d] => { results := [.lit (.bool true)], args := [d] }
  | _ => none }
def laneWholeRow : OpenClaim := { program := "ytnbhimgojnclbaa", sum := "b3096f2ba406701dd3524cf1ccadd22100c9085953698d099fc1611ee9d718bb", func := "spillway/spillwaylaw20.LaneWhole", spec := "laneWhole", apart := false }
def LaneWholeSaid : Prop := laneWholeRow.holds Try.pinned (OpenSpec.ofChange laneWholeSpec)

/-- ITS FALSE NEIGHBOUR: 'it returns false'. Refute it at one input. -/
def laneWholeWrong : ChangeSpec := { name := "laneWhole", fn := fun _ => fun
  | [d] => { results := [.lit (.bool false)], args := [d] }
  | _ => none }
def LaneWholeWrongFalsely : Prop := laneWholeRow.holds Try.pinned (OpenSpec.ofChange laneWholeWrong)

/-- 'spillwaylaw20.LaneSafe': WHATEVER THE INPUT: true; the input reads as it did. -/
def laneSafeSpec : ChangeSpec := { name := "laneSafe", fn := fun _ => fun
  | [d] => { results := [.lit (.bool true)], args := [d] }
  | _ => none }
def laneSafeRow : OpenClaim := { program := "ytnbhimgojnclbaa", sum := "b3096f2ba406701dd3524cf1ccadd22100c9085953698d099fc1611ee9d718bb", func := "spillway/spillwaylaw20.LaneSafe", spec := "laneSafe", apart := false }
def LaneSafeSaid : Prop := laneSafeRow.holds Try.pinned (OpenSpec.ofChange laneSafeSpec)

/-- ITS FALSE NEIGHBOUR: 'it returns false'. Refute it at one input. -/
def laneSafeWrong : ChangeSpec := { name := "laneSafe", fn := fun _ => fun
  | [d] => { results := [.lit (.bool false)], args := [d] }
  | _ => none }
def LaneSafeWrongFalsely : Prop := laneSafeRow.holds Try.pinned (OpenSpec.ofChange laneSafeWrong)

/-- 'spillwaylaw20.LaneJoins': WHATEVER THE INPUT: true; the input reads as it did. -/
def laneJoinsSpec : ChangeSpec := { name := "laneJoins", fn := fun _ => fun
  | [d1, d2] => { results := [.lit (.bool true)], args := [d1, d2] }
  | _ => none }
def laneJoinsRow : OpenClaim := { program := "ytnbhimgojnclbaa", sum := "b3096f2ba406701dd3524cf1ccadd22100c9085953698d099fc1611ee9d718bb", func := "spillway/spillwaylaw20.LaneJoins", spec := "laneJoins", apart := false }
def LaneJoinsSaid : Prop := laneJoinsRow.holds Try.pinned (OpenSpec.ofChange laneJoinsSpec)

/-- ITS FALSE NEIGHBOUR: 'it returns false'. Refute it at one input. -/
def laneJoinsWrong : ChangeSpec := { name := "laneJoins", fn := fun _ => fun
  | [d1, d2] => { results := [.lit (.bool false)], args := [d1, d2] }
  | _ => none }
def LaneJoinsWrongFalsely : Prop := laneJoinsRow.holds Try.pinned (OpenSpec.ofChange laneJoinsWrong)

/- THE SECOND FORM. 'bulk': how many values and letters a reading holds, each counted each time it is reached (what is shared counts as often as it is met; a slice's spare places count too). A statement '..UptoSaid' is the law's where the arguments, and the package variables that the reading takes, are together of bulk at most 1048576: NARROWER than '..Said'. Prove '..Said' where nothing that the law and all that it calls make is longer than what came in: it says more and counts as full. Else prove '..UptoSaid'. A law counts once. -/
mutual
def uptoBulk {H : Type} : DataW H → Nat
  | .lit (.string bytes) => bytes.length + 1
  | .lit _ => 1
  | .nil => 1
  | .ptr d => uptoBulk d + 1
  | .slice elems spare => uptoBulkAll elems + uptoBulkAll spare + 1
  | .agg parts => uptoBulkAll parts + 1
  | .iface _ d => uptoBulk d + 1
  | .map entries => uptoBulkEntries entries + 1
  | .held _ => 1
def uptoBulkAll {H : Type} : List (DataW H) → Nat
  | [] => 0
  | d :: r => uptoBulk d + uptoBulkAll r
def uptoBulkEntries {H : Type} : List (Lit × DataW H) → Nat
  | [] => 0
  | x :: r => uptoBulkEntry x + uptoBulkEntries r
def uptoBulkEntry {H : Type} : Lit × DataW H → Nat
  | (.string bytes, d) => bytes.length + uptoBulk d + 1
  | (_, d) => uptoBulk d + 1
 end
def uptoSmall : (H : Type) → List (DataW H) → Bool := fun _ ds => decide (uptoBulkAll ds ≤ 1048576)
def OpenSpec.upto (s : _root_.Go.ChangeSpec) : _root_.Go.OpenSpec := { _root_.Go.OpenSpec.ofChange s with cond := some uptoSmall }

/-- 'spillwaylaw06.WindowOuts', WHERE WHAT IT READS IS OF BULK AT MOST 1048576: true; the input reads as it did. -/
def windowOutsUptoRow : OpenClaim := { program := "ytnbhimgojnclbaa", sum := "b3096f2ba406701dd3524cf1ccadd22100c9085953698d099fc1611ee9d718bb", func := "spillway/spillwaylaw06.WindowOuts", spec := "windowOuts", unfollowed := true, recurses := true, apart := false, narrowed := true }
def WindowOutsUptoSaid : Prop := windowOutsUptoRow.holds Try.pinned (OpenSpec.upto windowOutsSpec)

/-- 'spillwaylaw06.WindowPositions', WHERE WHAT IT READS IS OF BULK AT MOST 1048576: true; the input reads as it did. -/
def windowPositionsUptoRow : OpenClaim := { program := "ytnbhimgojnclbaa", sum := "b3096f2ba406701dd3524cf1ccadd22100c9085953698d099fc1611ee9d718bb", func := "spillway/spillwaylaw06.WindowPositions", spec := "windowPositions", unfollowed := true, recurses := true, apart := false, narrowed := true }
def WindowPositionsUptoSaid : Prop := windowPositionsUptoRow.holds Try.pinned (OpenSpec.upto windowPositionsSpec)

/-- 'spillwaylaw06.WindowStops', WHERE WHAT IT READS IS OF BULK AT MOST 1048576: true; the input reads as it did. -/
def windowStopsUptoRow : OpenClaim := { program := "ytnbhimgojnclbaa", sum := "b3096f2ba406701dd3524cf1ccadd22100c9085953698d099fc1611ee9d718bb", func := "spillway/spillwaylaw06.WindowStops", spec := "windowStops", unfollowed := true, recurses := true, apart := false, narrowed := true }
def WindowStopsUptoSaid : Prop := windowStopsUptoRow.holds Try.pinned (OpenSpec.upto windowStopsSpec)

/-- 'spillwaylaw06.WindowTaps', WHERE WHAT IT READS IS OF BULK AT MOST 1048576: true; the input reads as it did. -/
def windowTapsUptoRow : OpenClaim := { program := "ytnbhimgojnclbaa", sum := "b3096f2ba406701dd3524cf1ccadd22100c9085953698d099fc1611ee9d718bb", func := "spillway/spillwaylaw06.WindowTaps", spec := "windowTaps", unfollowed := true, recurses := true, apart := false, narrowed := true }
def WindowTapsUptoSaid : Prop := windowTapsUptoRow.holds Try.pinned (OpenSpec.upto windowTapsSpec)

/-- 'spillwaylaw06.WindowPlain', WHERE WHAT IT READS IS OF BULK AT MOST 1048576: true; the input reads as it did. -/
def windowPlainUptoRow : OpenClaim := { program := "ytnbhimgojnclbaa", sum := "b3096f2ba406701dd3524cf1ccadd22100c9085953698d099fc1611ee9d718bb", func := "spillway/spillwaylaw06.WindowPlain", spec := "windowPlain", unfollowed := true, recurses := true, apart := false, narrowed := true }
def WindowPlainUptoSaid : Prop := windowPlainUptoRow.holds Try.pinned (OpenSpec.upto windowPlainSpec)

/-- 'spillwaylaw20.LaneWords', WHERE WHAT IT READS IS OF BULK AT MOST 1048576: true; the input reads as it did. -/
def laneWordsUptoRow : OpenClaim := { program := "ytnbhimgojnclbaa", sum := "b3096f2ba406701dd3524cf1ccadd22100c9085953698d099fc1611ee9d718bb", func := "spillway/spillwaylaw20.LaneWords", spec := "laneWords", apart := false, narrowed := true }
def LaneWordsUptoSaid : Prop := laneWordsUptoRow.holds Try.pinned (OpenSpec.upto laneWordsSpec)

/-- 'spillwaylaw20.LaneSums', WHERE WHAT IT READS IS OF BULK AT MOST 1048576: true; the input reads as it did. -/
def laneSumsUptoRow : OpenClaim := { program := "ytnbhimgojnclbaa", sum := "b3096f2ba406701dd3524cf1ccadd22100c9085953698d099fc1611ee9d718bb", func := "spillway/spillwaylaw20.LaneSums", spec := "laneSums", apart := false, narrowed := true }
def LaneSumsUptoSaid : Prop := laneSumsUptoRow.holds Try.pinned (OpenSpec.upto laneSumsSpec)

/-- 'spillwaylaw20.LaneDots', WHERE WHAT IT READS IS OF BULK AT MOST 1048576: true; the input reads as it did. -/
def laneDotsUptoRow : OpenClaim := { program := "ytnbhimgojnclbaa", sum := "b3096f2ba406701dd3524cf1ccadd22100c9085953698d099fc1611ee9d718bb", func := "spillway/spillwaylaw20.LaneDots", spec := "laneDots", apart := false, narrowed := true }
def LaneDotsUptoSaid : Prop := laneDotsUptoRow.holds Try.pinned (OpenSpec.upto laneDotsSpec)

/-- 'spillwaylaw20.LaneWhole', WHERE WHAT IT READS IS OF BULK AT MOST 1048576: true; the input reads as it did. -/
def laneWholeUptoRow : OpenClaim := { program := "ytnbhimgojnclbaa", sum := "b3096f2ba406701dd3524cf1ccadd22100c9085953698d099fc1611ee9d718bb", func := "spillway/spillwaylaw20.LaneWhole", spec := "laneWhole", apart := false, narrowed := true }
def LaneWholeUptoSaid : Prop := laneWholeUptoRow.holds Try.pinned (OpenSpec.upto laneWholeSpec)

/-- 'spillwaylaw20.LaneSafe', WHERE WHAT IT READS IS OF BULK AT MOST 1048576: true; the input reads as it did. -/
def laneSafeUptoRow : OpenClaim := { program := "ytnbhimgojnclbaa", sum := "b3096f2ba406701dd3524cf1ccadd22100c9085953698d099fc1611ee9d718bb", func := "spillway/spillwaylaw20.LaneSafe", spec := "laneSafe", apart := false, narrowed := true }
def LaneSafeUptoSaid : Prop := laneSafeUptoRow.holds Try.pinned (OpenSpec.upto laneSafeSpec)

/-- 'spillwaylaw20.LaneJoins', WHERE WHAT IT READS IS OF BULK AT MOST 1048576: true; the input reads as it did. -/
def laneJoinsUptoRow : OpenClaim := { program := "ytnbhimgojnclbaa", sum := "b3096f2ba406701dd3524cf1ccadd22100c9085953698d099fc1611ee9d718bb", func := "spillway/spillwaylaw20.LaneJoins", spec := "laneJoins", apart := false, narrowed := true }
def LaneJoinsUptoSaid : Prop := laneJoinsUptoRow.holds Try.pinned (OpenSpec.upto laneJoinsSpec)

end Rows
end Go.Proofs.Ytnbhimgojnclbaa
