/-
  No cell of these rows narrows 'for every input' (looked for: loops, veiled, ifaces, maps, wideKeys, modest, calm, conditions, laid).
  DERIVED. THE GIVEN ROWS OF THIS SEAT. 8 by the template 'for every input the law returns true; each argument reads behind the call as it read before'; 0 by the template 'total and deterministic' (their statements: YtheclbekghjecaaTotals.lean).
  GIVEN WITH THE SEED: the statements are not yours to turn. If you find one false, say at which input.
  Laid BY PROGRAM, IN A SANDBOX (cutbox-rows.mjs): the forced cells as the released guide's own fill.sh prints them over the translation 483db8ee059b4b82… (all of the seat's roots in one cut). By AI agents, Wed Nov 11 2026. No macro, syntax, notation, axiom, sorry.
-/
import Derived.Test.YtheclbekghjecaaChecked
import GoSem.Claim
import GoSem.ClaimJoined
import GoSem.ClaimMapViews
import Derived.JoinedTies
import Derived.KernelRfl
namespace Go.Proofs.Ytheclbekghjecaa
/- THE CELL 'sum', in the pinned program and in every row, IS THE sha256 OF THE DUMP (.gsa) THAT YtheclbekghjecaaProg.lean LOADS. Nothing in Lean hashes anything: it is a label: what it is worth is what the hold of that sum in a sandbox is worth. -/
noncomputable def Try.pinned : Pinned := { name := "ytheclbekghjecaa", sum := "483db8ee059b4b82f15c41cafb40cb24a77123eb6eea5f1d469dc7a25f9d4fc5", checked := Try.checked }
namespace Rows
def none {H : Type} : Left H := { results := [], args := [] }

/-- 'spillwaylaw10.TermsOf': WHATEVER THE INPUT: true; the input reads as it did. -/
def termsOfSpec : ChangeSpec := { name := "termsOf", fn := fun _ => fun
  | [d] => { results := [.lit (.bool true)], args := [d] }
  | _ => none }
def termsOfRow : OpenClaim := { program := "ytheclbekghjecaa", sum := "483db8ee059b4b82f15c41cafb40cb24a77123eb6eea5f1d469dc7a25f9d4fc5", func := "spillway/spillwaylaw10.TermsOf", spec := "termsOf", unfollowed := true, recurses := true, apart := false }
def TermsOfSaid : Prop := termsOfRow.holds Try.pinned (OpenSpec.ofChange termsOfSpec)

/-- ITS FALSE NEIGHBOUR: 'it returns false'. Refute it at one input. -/
def termsOfWrong : ChangeSpec := { name := "termsOf", fn := fun _ => fun
  | [d] => { results := [.lit (.bool false)], args := [d] }
  | _ => none }
def TermsOfWrongFalsely : Prop := termsOfRow.holds Try.pinned (OpenSpec.ofChange termsOfWrong)

/-- 'spillwaylaw10.TermsMemory': WHATEVER THE INPUT: true; the input reads as it did. -/
def termsMemorySpec : ChangeSpec := { name := "termsMemory", fn := fun _ => fun
  | [d] => { results := [.lit (.bool true)], args := [d] }
  | _ => none }
def termsMemoryRow : OpenClaim := { program := "ytheclbekghjecaa", sum := "483db8ee059b4b82f15c41cafb40cb24a77123eb6eea5f1d469dc7a25f9d4fc5", func := "spillway/spillwaylaw10.TermsMemory", spec := "termsMemory", unfollowed := true, recurses := true, apart := false }
def TermsMemorySaid : Prop := termsMemoryRow.holds Try.pinned (OpenSpec.ofChange termsMemorySpec)

/-- ITS FALSE NEIGHBOUR: 'it returns false'. Refute it at one input. -/
def termsMemoryWrong : ChangeSpec := { name := "termsMemory", fn := fun _ => fun
  | [d] => { results := [.lit (.bool false)], args := [d] }
  | _ => none }
def TermsMemoryWrongFalsely : Prop := termsMemoryRow.holds Try.pinned (OpenSpec.ofChange termsMemoryWrong)

/-- 'spillwaylaw10.TermsCounts': WHATEVER THE INPUT: true; the input reads as it did. -/
def termsCountsSpec : ChangeSpec := { name := "termsCounts", fn := fun _ => fun
  | [d1, d2] => { results := [.lit (.bool true)], args := [d1, d2] }
  | _ => none }
def termsCountsRow : OpenClaim := { program := "ytheclbekghjecaa", sum := "483db8ee059b4b82f15c41cafb40cb24a77123eb6eea5f1d469dc7a25f9d4fc5", func := "spillway/spillwaylaw10.TermsCounts", spec := "termsCounts", unfollowed := true, recurses := true, apart := false }
def TermsCountsSaid : Prop := termsCountsRow.holds Try.pinned (OpenSpec.ofChange termsCountsSpec)

/-- ITS FALSE NEIGHBOUR: 'it returns false'. Refute it at one input. -/
def termsCountsWrong : ChangeSpec := { name := "termsCounts", fn := fun _ => fun
  | [d1, d2] => { results := [.lit (.bool false)], args := [d1, d2] }
  | _ => none }
def TermsCountsWrongFalsely : Prop := termsCountsRow.holds Try.pinned (OpenSpec.ofChange termsCountsWrong)

/-- 'spillwaylaw10.TermsPlaces': WHATEVER THE INPUT: true; the input reads as it did. -/
def termsPlacesSpec : ChangeSpec := { name := "termsPlaces", fn := fun _ => fun
  | [d] => { results := [.lit (.bool true)], args := [d] }
  | _ => none }
def termsPlacesRow : OpenClaim := { program := "ytheclbekghjecaa", sum := "483db8ee059b4b82f15c41cafb40cb24a77123eb6eea5f1d469dc7a25f9d4fc5", func := "spillway/spillwaylaw10.TermsPlaces", spec := "termsPlaces", unfollowed := true, recurses := true, apart := false }
def TermsPlacesSaid : Prop := termsPlacesRow.holds Try.pinned (OpenSpec.ofChange termsPlacesSpec)

/-- ITS FALSE NEIGHBOUR: 'it returns false'. Refute it at one input. -/
def termsPlacesWrong : ChangeSpec := { name := "termsPlaces", fn := fun _ => fun
  | [d] => { results := [.lit (.bool false)], args := [d] }
  | _ => none }
def TermsPlacesWrongFalsely : Prop := termsPlacesRow.holds Try.pinned (OpenSpec.ofChange termsPlacesWrong)

/-- 'spillwaylaw12.NormSums': WHATEVER THE INPUT: true; the input reads as it did. -/
def normSumsSpec : ChangeSpec := { name := "normSums", fn := fun _ => fun
  | [d] => { results := [.lit (.bool true)], args := [d] }
  | _ => none }
def normSumsRow : OpenClaim := { program := "ytheclbekghjecaa", sum := "483db8ee059b4b82f15c41cafb40cb24a77123eb6eea5f1d469dc7a25f9d4fc5", func := "spillway/spillwaylaw12.NormSums", spec := "normSums", unfollowed := true, recurses := true, apart := false }
def NormSumsSaid : Prop := normSumsRow.holds Try.pinned (OpenSpec.ofChange normSumsSpec)

/-- ITS FALSE NEIGHBOUR: 'it returns false'. Refute it at one input. -/
def normSumsWrong : ChangeSpec := { name := "normSums", fn := fun _ => fun
  | [d] => { results := [.lit (.bool false)], args := [d] }
  | _ => none }
def NormSumsWrongFalsely : Prop := normSumsRow.holds Try.pinned (OpenSpec.ofChange normSumsWrong)

/-- 'spillwaylaw12.NormQuicks': WHATEVER THE INPUT: true; the input reads as it did. -/
def normQuicksSpec : ChangeSpec := { name := "normQuicks", fn := fun _ => fun
  | [d] => { results := [.lit (.bool true)], args := [d] }
  | _ => none }
def normQuicksRow : OpenClaim := { program := "ytheclbekghjecaa", sum := "483db8ee059b4b82f15c41cafb40cb24a77123eb6eea5f1d469dc7a25f9d4fc5", func := "spillway/spillwaylaw12.NormQuicks", spec := "normQuicks", unfollowed := true, recurses := true, apart := false }
def NormQuicksSaid : Prop := normQuicksRow.holds Try.pinned (OpenSpec.ofChange normQuicksSpec)

/-- ITS FALSE NEIGHBOUR: 'it returns false'. Refute it at one input. -/
def normQuicksWrong : ChangeSpec := { name := "normQuicks", fn := fun _ => fun
  | [d] => { results := [.lit (.bool false)], args := [d] }
  | _ => none }
def NormQuicksWrongFalsely : Prop := normQuicksRow.holds Try.pinned (OpenSpec.ofChange normQuicksWrong)

/-- 'spillwaylaw12.NormWider': WHATEVER THE INPUT: true; the input reads as it did. -/
def normWiderSpec : ChangeSpec := { name := "normWider", fn := fun _ => fun
  | [d1, d2] => { results := [.lit (.bool true)], args := [d1, d2] }
  | _ => none }
def normWiderRow : OpenClaim := { program := "ytheclbekghjecaa", sum := "483db8ee059b4b82f15c41cafb40cb24a77123eb6eea5f1d469dc7a25f9d4fc5", func := "spillway/spillwaylaw12.NormWider", spec := "normWider", unfollowed := true, recurses := true, apart := false }
def NormWiderSaid : Prop := normWiderRow.holds Try.pinned (OpenSpec.ofChange normWiderSpec)

/-- ITS FALSE NEIGHBOUR: 'it returns false'. Refute it at one input. -/
def normWiderWrong : ChangeSpec := { name := "normWider", fn := fun _ => fun
  | [d1, d2] => { results := [.lit (.bool false)], args := [d1, d2] }
  | _ => none }
def NormWiderWrongFalsely : Prop := normWiderRow.holds Try.pinned (OpenSpec.ofChange normWiderWrong)

/-- 'spillwaylaw12.NormHolds': WHATEVER THE INPUT: true; the input reads as it did. -/
def normHoldsSpec : ChangeSpec := { name := "normHolds", fn := fun _ => fun
  | [d] => { results := [.lit (.bool true)], args := [d] }
  | _ => none }
def normHoldsRow : OpenClaim := { program := "ytheclbekghjecaa", sum := "483db8ee059b4b82f15c41cafb40cb24a77123eb6eea5f1d469dc7a25f9d4fc5", func := "spillway/spillwaylaw12.NormHolds", spec := "normHolds", unfollowed := true, recurses := true, apart := false }
def NormHoldsSaid : Prop := normHoldsRow.holds Try.pinned (OpenSpec.ofChange normHoldsSpec)

/-- ITS FALSE NEIGHBOUR: 'it returns false'. Refute it at one input. -/
def normHoldsWrong : ChangeSpec := { name := "normHolds", fn := fun _ => fun
  | [d] => { results := [.lit (.bool false)], args := [d] }
  | _ => none }
def NormHoldsWrongFalsely : Prop := normHoldsRow.holds Try.pinned (OpenSpec.ofChange normHoldsWrong)

/- THE SECOND FORM. 'bulk': how many values and letters a reading holds, each counted each time it is reached (what is shared counts as often as it is met; a slice's spare places count too). A statement '..UptoSaid' is the law's where the arguments, and the package variables that the reading takes, are together of bulk at most 1048576: NARROWER than '..Said'. Prove '..Said' where nothing that the law and all that it calls make is longer than what came in: it says more and counts as full. Else prove '..UptoSaid'. A law counts once. -/
mutual
def uptoBulk {H : Type} : DataW H → Nat
  | .lit (.string bytes) => bytes.length + 1
  | .lit _ => 1
  | .nil => 1
  | .ptr d => uptoBulk d + 1
  | .slice elems spare => uptoBulkAll elems + uptoBulkAll spare + 1
  | .agg parts => uptoBulkAll parts + 1
  | .iface _ d => uptoBulk d + 1
  | .map entries => uptoBulkEntries entries + 1
  | .held _ => 1
def uptoBulkAll {H : Type} : List (DataW H) → Nat
  | [] => 0
  | d :: r => uptoBulk d + uptoBulkAll r
def uptoBulkEntries {H : Type} : List (Lit × DataW H) → Nat
  | [] => 0
  | x :: r => uptoBulkEntry x + uptoBulkEntries r
def uptoBulkEntry {H : Type} : Lit × DataW H → Nat
  | (.string bytes, d) => bytes.length + uptoBulk d + 1
  | (_, d) => uptoBulk d + 1
 end
def uptoSmall : (H : Type) → List (DataW H) → Bool := fun _ ds => decide (uptoBulkAll ds ≤ 1048576)
def OpenSpec.upto (s : _root_.Go.ChangeSpec) : _root_.Go.OpenSpec := { _root_.Go.OpenSpec.ofChange s with cond := some uptoSmall }

/-- 'spillwaylaw10.TermsOf', WHERE WHAT IT READS IS OF BULK AT MOST 1048576: true; the input reads as it did. -/
def termsOfUptoRow : OpenClaim := { program := "ytheclbekghjecaa", sum := "483db8ee059b4b82f15c41cafb40cb24a77123eb6eea5f1d469dc7a25f9d4fc5", func := "spillway/spillwaylaw10.TermsOf", spec := "termsOf", unfollowed := true, recurses := true, apart := false, narrowed := true }
def TermsOfUptoSaid : Prop := termsOfUptoRow.holds Try.pinned (OpenSpec.upto termsOfSpec)

/-- 'spillwaylaw10.TermsMemory', WHERE WHAT IT READS IS OF BULK AT MOST 1048576: true; the input reads as it did. -/
def termsMemoryUptoRow : OpenClaim := { program := "ytheclbekghjecaa", sum := "483db8ee059b4b82f15c41cafb40cb24a77123eb6eea5f1d469dc7a25f9d4fc5", func := "spillway/spillwaylaw10.TermsMemory", spec := "termsMemory", unfollowed := true, recurses := true, apart := false, narrowed := true }
def TermsMemoryUptoSaid : Prop := termsMemoryUptoRow.holds Try.pinned (OpenSpec.upto termsMemorySpec)

/-- 'spillwaylaw10.TermsCounts', WHERE WHAT IT READS IS OF BULK AT MOST 1048576: true; the input reads as it did. -/
def termsCountsUptoRow : OpenClaim := { program := "ytheclbekghjecaa", sum := "483db8ee059b4b82f15c41cafb40cb24a77123eb6eea5f1d469dc7a25f9d4fc5", func := "spillway/spillwaylaw10.TermsCounts", spec := "termsCounts", unfollowed := true, recurses := true, apart := false, narrowed := true }
def TermsCountsUptoSaid : Prop := termsCountsUptoRow.holds Try.pinned (OpenSpec.upto termsCountsSpec)

/-- 'spillwaylaw10.TermsPlaces', WHERE WHAT IT READS IS OF BULK AT MOST 1048576: true; the input reads as it did. -/
def termsPlacesUptoRow : OpenClaim := { program := "ytheclbekghjecaa", sum := "483db8ee059b4b82f15c41cafb40cb24a77123eb6eea5f1d469dc7a25f9d4fc5", func := "spillway/spillwaylaw10.TermsPlaces", spec := "termsPlaces", unfollowed := true, recurses := true, apart := false, narrowed := true }
def TermsPlacesUptoSaid : Prop := termsPlacesUptoRow.holds Try.pinned (OpenSpec.upto termsPlacesSpec)

/-- 'spillwaylaw12.NormSums', WHERE WHAT IT READS IS OF BULK AT MOST 1048576: true; the input reads as it did. -/
def normSumsUptoRow : OpenClaim := { program := "ytheclbekghjecaa", sum := "483db8ee059b4b82f15c41cafb40cb24a77123eb6eea5f1d469dc7a25f9d4fc5", func := "spillway/spillwaylaw12.NormSums", spec := "normSums", unfollowed := true, recurses := true, apart := false, narrowed := true }
def NormSumsUptoSaid : Prop := normSumsUptoRow.holds Try.pinned (OpenSpec.upto normSumsSpec)

/-- 'spillwaylaw12.NormQuicks', WHERE WHAT IT READS IS OF BULK AT MOST 1048576: true; the input reads as it did. -/
def normQuicksUptoRow : OpenClaim := { program := "ytheclbekghjecaa", sum := "483db8ee059b4b82f15c41cafb40cb24a77123eb6eea5f1d469dc7a25f9d4fc5", func := "spillway/spillwaylaw12.NormQuicks", spec := "normQuicks", unfollowed := true, recurses := true, apart := false, narrowed := true }
def NormQuicksUptoSaid : Prop := normQuicksUptoRow.holds Try.pinned (OpenSpec.upto normQuicksSpec)

/-- 'spillwaylaw12.NormWider', WHERE WHAT IT READS IS OF BULK AT MOST 1048576: true; the input reads as it did. -/
def normWiderUptoRow : OpenClaim := { program := "ytheclbekghjecaa", sum := "483db8ee059b4b82f15c41cafb40cb24a77123eb6eea5f1d469dc7a25f9d4fc5", func := "spillway/spillwaylaw12.NormWider", spec := "normWider", unfollowed := true, recurses := true, apart := false, narrowed := true }
def NormWiderUptoSaid : Prop := normWiderUptoRow.holds Try.pinned (OpenSpec.upto normWiderSpec)

/-- 'spillwaylaw12.NormHolds', WHERE WHAT IT READS IS OF BULK AT MOST 1048576: true; the input reads as it did. -/
def normHoldsUptoRow : OpenClaim := { program := "ytheclbekghjecaa", sum := "483db8ee059b4b82f15c41cafb40cb24a77123eb6eea5f1d469dc7a25f9d4fc5", func := "spillway/spillwaylaw12.NormHolds", spec := "normHolds", unfollowed := true, recurses := true, apart := false, narrowed := true }
def NormHoldsUptoSaid : Prop := normHoldsUptoRow.holds Try.pinned (OpenSpec.upto normHoldsSpec)

end Rows
end Go.Proofs.Ytheclbekghjecaa
