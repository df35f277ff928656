/-
  No cell of these rows narrows 'for every input' (looked for: loops, veiled, ifaces, maps, wideKeys, modest, calm, conditions, laid).
  DERIVED. THE GIVEN ROWS OF THIS SEAT. 12 by the template 'for every input the law returns true; each argument reads behind the call as it read before'; 0 by the template 'total and deterministic' (their statements: YtfccnnlbiniahaaTotals.lean).
  GIVEN WITH THE SEED: the statements are not yours to turn. If you find one false, say at which input.
  Laid BY PROGRAM, IN A SANDBOX (cutbox-rows.mjs): the forced cells as the released guide's own fill.sh prints them over the translation 9d934cad05b09370… (all of the seat's roots in one cut). By AI agents, Wed Nov 11 2026. No macro, syntax, notation, axiom, sorry.
-/
import Derived.Test.YtfccnnlbiniahaaChecked
import GoSem.Claim
import GoSem.ClaimJoined
import GoSem.ClaimMapViews
import Derived.JoinedTies
import Derived.KernelRfl
namespace Go.Proofs.Ytfccnnlbiniahaa
/- THE CELL 'sum', in the pinned program and in every row, IS THE sha256 OF THE DUMP (.gsa) THAT YtfccnnlbiniahaaProg.lean LOADS. Nothing in Lean hashes anything: it is a label: what it is worth is what the hold of that sum in a sandbox is worth. -/
noncomputable def Try.pinned : Pinned := { name := "ytfccnnlbiniahaa", sum := "9d934cad05b09370671cc51c5bcc976a739b606387fef2bd026b105f381c072e", checked := Try.checked }
namespace Rows
def none {H : Type} : Left H := { results := [], args := [] }

/-- 'spillwaylaw05.ShapeElems': WHATEVER THE INPUT: true; the input reads as it did. -/
def shapeElemsSpec : ChangeSpec := { name := "shapeElems", fn := fun _ => fun
  | [d] => { results := [.lit (.bool true)], args := [d] }
  | _ => none }
def shapeElemsRow : OpenClaim := { program := "ytfccnnlbiniahaa", sum := "9d934cad05b09370671cc51c5bcc976a739b606387fef2bd026b105f381c072e", func := "spillway/spillwaylaw05.ShapeElems", spec := "shapeElems", apart := false }
def ShapeElemsSaid : Prop := shapeElemsRow.holds Try.pinned (OpenSpec.ofChange shapeElemsSpec)

/-- ITS FALSE NEIGHBOUR: 'it returns false'. Refute it at one input. -/
def shapeElemsWrong : ChangeSpec := { name := "shapeElems", fn := fun _ => fun
  | [d] => { results := [.lit (.bool false)], args := [d] }
  | _ => none }
def ShapeElemsWrongFalsely : Prop := shapeElemsRow.holds Try.pinned (OpenSpec.ofChange shapeElemsWrong)

/-- 'spillwaylaw05.ShapePlaces': WHATEVER THE INPUT: true; the input reads as it did. -/
def shapePlacesSpec : ChangeSpec := { name := "shapePlaces", fn := fun _ => fun
  | [d1, d2] => { results := [.lit (.bool true)], args := [d1, d2] }
  | _ => none }
def shapePlacesRow : OpenClaim := { program := "ytfccnnlbiniahaa", sum := "9d934cad05b09370671cc51c5bcc976a739b606387fef2bd026b105f381c072e", func := "spillway/spillwaylaw05.ShapePlaces", spec := "shapePlaces", apart := false }
def ShapePlacesSaid : Prop := shapePlacesRow.holds Try.pinned (OpenSpec.ofChange shapePlacesSpec)

/-- ITS FALSE NEIGHBOUR: 'it returns false'. Refute it at one input. -/
def shapePlacesWrong : ChangeSpec := { name := "shapePlaces", fn := fun _ => fun
  | [d1, d2] => { results := [.lit (.bool false)], args := [d1, d2] }
  | _ => none }
def ShapePlacesWrongFalsely : Prop := shapePlacesRow.holds Try.pinned (OpenSpec.ofChange shapePlacesWrong)

/-- 'spillwaylaw05.ShapeSteps': WHATEVER THE INPUT: true; the input reads as it did. -/
def shapeStepsSpec : ChangeSpec := { name := "shapeSteps", fn := fun _ => fun
  | [d1, d2] => { results := [.lit (.bool true)], args := [d1, d2] }
  | _ => none }
def shapeStepsRow : OpenClaim := { program := "ytfccnnlbiniahaa", sum := "9d934cad05b09370671cc51c5bcc976a739b606387fef2bd026b105f381c072e", func := "spillway/spillwaylaw05.ShapeSteps", spec := "shapeSteps", apart := false }
def ShapeStepsSaid : Prop := shapeStepsRow.holds Try.pinned (OpenSpec.ofChange shapeStepsSpec)

/-- ITS FALSE NEIGHBOUR: 'it returns false'. Refute it at one input. -/
def shapeStepsWrong : ChangeSpec := { name := "shapeSteps", fn := fun _ => fun
  | [d1, d2] => { results := [.lit (.bool false)], args := [d1, d2] }
  | _ => none }
def ShapeStepsWrongFalsely : Prop := shapeStepsRow.holds Try.pinned (OpenSpec.ofChange shapeStepsWrong)

/-- 'spillwaylaw01.NumSums': WHATEVER THE INPUT: true; the input reads as it did. -/
def numSumsSpec : ChangeSpec := { name := "numSums", fn := fun _ => fun
  | [d1, d2] => { results := [.lit (.bool true)], args := [d1, d2] }
  | _ => none }
def numSumsRow : OpenClaim := { program := "ytfccnnlbiniahaa", sum := "9d934cad05b09370671cc51c5bcc976a739b606387fef2bd026b105f381c072e", func := "spillway/spillwaylaw01.NumSums", spec := "numSums", apart := false }
def NumSumsSaid : Prop := numSumsRow.holds Try.pinned (OpenSpec.ofChange numSumsSpec)

/-- ITS FALSE NEIGHBOUR: 'it returns false'. Refute it at one input. -/
def numSumsWrong : ChangeSpec := { name := "numSums", fn := fun _ => fun
  | [d1, d2] => { results := [.lit (.bool false)], args := [d1, d2] }
  | _ => none }
def NumSumsWrongFalsely : Prop := numSumsRow.holds Try.pinned (OpenSpec.ofChange numSumsWrong)

/-- 'spillwaylaw01.NumNarrow': WHATEVER THE INPUT: true; the input reads as it did. -/
def numNarrowSpec : ChangeSpec := { name := "numNarrow", fn := fun _ => fun
  | [d] => { results := [.lit (.bool true)], args := [d] }
  | _ => none }
def numNarrowRow : OpenClaim := { program := "ytfccnnlbiniahaa", sum := "9d934cad05b09370671cc51c5bcc976a739b606387fef2bd026b105f381c072e", func := "spillway/spillwaylaw01.NumNarrow", spec := "numNarrow", apart := false }
def NumNarrowSaid : Prop := numNarrowRow.holds Try.pinned (OpenSpec.ofChange numNarrowSpec)

/-- ITS FALSE NEIGHBOUR: 'it returns false'. Refute it at one input. -/
def numNarrowWrong : ChangeSpec := { name := "numNarrow", fn := fun _ => fun
  | [d] => { results := [.lit (.bool false)], args := [d] }
  | _ => none }
def NumNarrowWrongFalsely : Prop := numNarrowRow.holds Try.pinned (OpenSpec.ofChange numNarrowWrong)

/-- 'spillwaylaw01.NumClamps': WHATEVER THE INPUT: true; the input reads as it did. -/
def numClampsSpec : ChangeSpec := { name := "numClamps", fn := fun _ => fun
  | [d1, d2, d3] => { results := [.lit (.bool true)], args := [d1, d2, d3] }
  | _ => none }
def numClampsRow : OpenClaim := { program := "ytfccnnlbiniahaa", sum := "9d934cad05b09370671cc51c5bcc976a739b606387fef2bd026b105f381c072e", func := "spillway/spillwaylaw01.NumClamps", spec := "numClamps", apart := false }
def NumClampsSaid : Prop := numClampsRow.holds Try.pinned (OpenSpec.ofChange numClampsSpec)

/-- ITS FALSE NEIGHBOUR: 'it returns false'. Refute it at one input. -/
def numClampsWrong : ChangeSpec := { name := "numClamps", fn := fun _ => fun
  | [d1, d2, d3] => { results := [.lit (.bool false)], args := [d1, d2, d3] }
  | _ => none }
def NumClampsWrongFalsely : Prop := numClampsRow.holds Try.pinned (OpenSpec.ofChange numClampsWrong)

/-- 'spillwaylaw01.NumOwn': WHATEVER THE INPUT: true; the input reads as it did. -/
def numOwnSpec : ChangeSpec := { name := "numOwn", fn := fun _ => fun
  | [d] => { results := [.lit (.bool true)], args := [d] }
  | _ => none }
def numOwnRow : OpenClaim := { program := "ytfccnnlbiniahaa", sum := "9d934cad05b09370671cc51c5bcc976a739b606387fef2bd026b105f381c072e", func := "spillway/spillwaylaw01.NumOwn", spec := "numOwn", apart := false }
def NumOwnSaid : Prop := numOwnRow.holds Try.pinned (OpenSpec.ofChange numOwnSpec)

/-- ITS FALSE NEIGHBOUR: 'it returns false'. Refute it at one input. -/
def numOwnWrong : ChangeSpec := { name := "numOwn", fn := fun _ => fun
  | [d] => { results := [.lit (.bool false)], args := [d] }
  | _ => none }
def NumOwnWrongFalsely : Prop := numOwnRow.holds Try.pinned (OpenSpec.ofChange numOwnWrong)

/-- 'spillwaylaw01.NumModulo': WHATEVER THE INPUT: true; the input reads as it did. -/
def numModuloSpec : ChangeSpec := { name := "numModulo", fn := fun _ => fun
  | [d1, d2] => { results := [.lit (.bool true)], args := [d1, d2] }
  | _ => none }
def numModuloRow : OpenClaim := { program := "ytfccnnlbiniahaa", sum := "9d934cad05b09370671cc51c5bcc976a739b606387fef2bd026b105f381c072e", func := "spillway/spillwaylaw01.NumModulo", spec := "numModulo", apart := false }
def NumModuloSaid : Prop := numModuloRow.holds Try.pinned (OpenSpec.ofChange numModuloSpec)

/-- ITS FALSE NEIGHBOUR: 'it returns false'. Refute it at one input. -/
def numModuloWrong : ChangeSpec := { name := "numModulo", fn := fun _ => fun
  | [d1, d2] => { results := [.lit (.bool false)], args := [d1, d2] }
  | _ => none }
def NumModuloWrongFalsely : Prop := numModuloRow.holds Try.pinned (OpenSpec.ofChange numModuloWrong)

/-- 'spillwaylaw05.ShapeWheres': WHATEVER THE INPUT: true; the input reads as it did. -/
def shapeWheresSpec : ChangeSpec := { name := "shapeWheres", fn := fun _ => fun
  | [d1, d2] => { results := [.lit (.bool true)], args := [d1, d2] }
  | _ => none }
def shapeWheresRow : OpenClaim := { program := "ytfccnnlbiniahaa", sum := "9d934cad05b09370671cc51c5bcc976a739b606387fef2bd026b105f381c072e", func := "spillway/spillwaylaw05.ShapeWheres", spec := "shapeWheres", apart := false }
def ShapeWheresSaid : Prop := shapeWheresRow.holds Try.pinned (OpenSpec.ofChange shapeWheresSpec)

/-- ITS FALSE NEIGHBOUR: 'it returns false'. Refute it at one input. -/
def shapeWheresWrong : ChangeSpec := { name := "shapeWheres", fn := fun _ => fun
  | [d1, d2] => { results := [.lit (.bool false)], args := [d1, d2] }
  | _ => none }
def ShapeWheresWrongFalsely : Prop := shapeWheresRow.holds Try.pinned (OpenSpec.ofChange shapeWheresWrong)

/-- 'spillwaylaw05.ShapeBack': WHATEVER THE INPUT: true; the input reads as it did. -/
def shapeBackSpec : ChangeSpec := { name := "shapeBack", fn := fun _ => fun
  | [d1, d2, d3] => { results := [.lit (.bool true)], args := [d1, d2, d3] }
  | _ => none }
def shapeBackRow : OpenClaim := { program := "ytfccnnlbiniahaa", sum := "9d934cad05b09370671cc51c5bcc976a739b606387fef2bd026b105f381c072e", func := "spillway/spillwaylaw05.ShapeBack", spec := "shapeBack", apart := false }
def ShapeBackSaid : Prop := shapeBackRow.holds Try.pinned (OpenSpec.ofChange shapeBackSpec)

/-- ITS FALSE NEIGHBOUR: 'it returns false'. Refute it at one input. -/
def shapeBackWrong : ChangeSpec := { name := "shapeBack", fn := fun _ => fun
  | [d1, d2, d3] => { results := [.lit (.bool false)], args := [d1, d2, d3] }
  | _ => none }
def ShapeBackWrongFalsely : Prop := shapeBackRow.holds Try.pinned (OpenSpec.ofChange shapeBackWrong)

/-- 'spillwaylaw01.NumProducts': WHATEVER THE INPUT: true; the input reads as it did. -/
def numProductsSpec : ChangeSpec := { name := "numProducts", fn := fun _ => fun
  | [d1, d2] => { results := [.lit (.bool true)], args := [d1, d2] }
  | _ => none }
def numProductsRow : OpenClaim := { program := "ytfccnnlbiniahaa", sum := "9d934cad05b09370671cc51c5bcc976a739b606387fef2bd026b105f381c072e", func := "spillway/spillwaylaw01.NumProducts", spec := "numProducts", apart := false }
def NumProductsSaid : Prop := numProductsRow.holds Try.pinned (OpenSpec.ofChange numProductsSpec)

/-- ITS FALSE NEIGHBOUR: 'it returns false'. Refute it at one input. -/
def numProductsWrong : ChangeSpec := { name := "numProducts", fn := fun _ => fun
  | [d1, d2] => { results := [.lit (.bool false)], args := [d1, d2] }
  | _ => none }
def NumProductsWrongFalsely : Prop := numProductsRow.holds Try.pinned (OpenSpec.ofChange numProductsWrong)

/-- 'spillwaylaw01.NumRing': WHATEVER THE INPUT: true; the input reads as it did. -/
def numRingSpec : ChangeSpec := { name := "numRing", fn := fun _ => fun
  | [d1, d2, d3] => { results := [.lit (.bool true)], args := [d1, d2, d3] }
  | _ => none }
def numRingRow : OpenClaim := { program := "ytfccnnlbiniahaa", sum := "9d934cad05b09370671cc51c5bcc976a739b606387fef2bd026b105f381c072e", func := "spillway/spillwaylaw01.NumRing", spec := "numRing", apart := false }
def NumRingSaid : Prop := numRingRow.holds Try.pinned (OpenSpec.ofChange numRingSpec)

/-- ITS FALSE NEIGHBOUR: 'it returns false'. Refute it at one input. -/
def numRingWrong : ChangeSpec := { name := "numRing", fn := fun _ => fun
  | [d1, d2, d3] => { results := [.lit (.bool false)], args := [d1, d2, d3] }
  | _ => none }
def NumRingWrongFalsely : Prop := numRingRow.holds Try.pinned (OpenSpec.ofChange numRingWrong)

/- THE SECOND FORM. 'bulk': how many values and letters a reading holds, each counted each time it is reached (what is shared counts as often as it is met; a slice's spare places count too). A statement '..UptoSaid' is the law's where the arguments, and the package variables that the reading takes, are together of bulk at most 1048576: NARROWER than '..Said'. Prove '..Said' where nothing that the law and all that it calls make is longer than what came in: it says more and counts as full. Else prove '..UptoSaid'. A law counts once. -/
mutual
def uptoBulk {H : Type} : DataW H → Nat
  | .lit (.string bytes) => bytes.length + 1
  | .lit _ => 1
  | .nil => 1
  | .ptr d => uptoBulk d + 1
  | .slice elems spare => uptoBulkAll elems + uptoBulkAll spare + 1
  | .agg parts => uptoBulkAll parts + 1
  | .iface _ d => uptoBulk d + 1
  | .map entries => uptoBulkEntries entries + 1
  | .held _ => 1
def uptoBulkAll {H : Type} : List (DataW H) → Nat
  | [] => 0
  | d :: r => uptoBulk d + uptoBulkAll r
def uptoBulkEntries {H : Type} : List (Lit × DataW H) → Nat
  | [] => 0
  | x :: r => uptoBulkEntry x + uptoBulkEntries r
def uptoBulkEntry {H : Type} : Lit × DataW H → Nat
  | (.string bytes, d) => bytes.length + uptoBulk d + 1
  | (_, d) => uptoBulk d + 1
 end
def uptoSmall : (H : Type) → List (DataW H) → Bool := fun _ ds => decide (uptoBulkAll ds ≤ 1048576)
def OpenSpec.upto (s : _root_.Go.ChangeSpec) : _root_.Go.OpenSpec := { _root_.Go.OpenSpec.ofChange s with cond := some uptoSmall }

/-- 'spillwaylaw05.ShapeElems', WHERE WHAT IT READS IS OF BULK AT MOST 1048576: true; the input reads as it did. -/
def shapeElemsUptoRow : OpenClaim := { program := "ytfccnnlbiniahaa", sum := "9d934cad05b09370671cc51c5bcc976a739b606387fef2bd026b105f381c072e", func := "spillway/spillwaylaw05.ShapeElems", spec := "shapeElems", apart := false, narrowed := true }
def ShapeElemsUptoSaid : Prop := shapeElemsUptoRow.holds Try.pinned (OpenSpec.upto shapeElemsSpec)

/-- 'spillwaylaw05.ShapePlaces', WHERE WHAT IT READS IS OF BULK AT MOST 1048576: true; the input reads as it did. -/
def shapePlacesUptoRow : OpenClaim := { program := "ytfccnnlbiniahaa", sum := "9d934cad05b09370671cc51c5bcc976a739b606387fef2bd026b105f381c072e", func := "spillway/spillwaylaw05.ShapePlaces", spec := "shapePlaces", apart := false, narrowed := true }
def ShapePlacesUptoSaid : Prop := shapePlacesUptoRow.holds Try.pinned (OpenSpec.upto shapePlacesSpec)

/-- 'spillwaylaw05.ShapeSteps', WHERE WHAT IT READS IS OF BULK AT MOST 1048576: true; the input reads as it did. -/
def shapeStepsUptoRow : OpenClaim := { program := "ytfccnnlbiniahaa", sum := "9d934cad05b09370671cc51c5bcc976a739b606387fef2bd026b105f381c072e", func := "spillway/spillwaylaw05.ShapeSteps", spec := "shapeSteps", apart := false, narrowed := true }
def ShapeStepsUptoSaid : Prop := shapeStepsUptoRow.holds Try.pinned (OpenSpec.upto shapeStepsSpec)

/-- 'spillwaylaw01.NumSums', WHERE WHAT IT READS IS OF BULK AT MOST 1048576: true; the input reads as it did. -/
def numSumsUptoRow : OpenClaim := { program := "ytfccnnlbiniahaa", sum := "9d934cad05b09370671cc51c5bcc976a739b606387fef2bd026b105f381c072e", func := "spillway/spillwaylaw01.NumSums", spec := "numSums", apart := false, narrowed := true }
def NumSumsUptoSaid : Prop := numSumsUptoRow.holds Try.pinned (OpenSpec.upto numSumsSpec)

/-- 'spillwaylaw01.NumNarrow', WHERE WHAT IT READS IS OF BULK AT MOST 1048576: true; the input reads as it did. -/
def numNarrowUptoRow : OpenClaim := { program := "ytfccnnlbiniahaa", sum := "9d934cad05b09370671cc51c5bcc976a739b606387fef2bd026b105f381c072e", func := "spillway/spillwaylaw01.NumNarrow", spec := "numNarrow", apart := false, narrowed := true }
def NumNarrowUptoSaid : Prop := numNarrowUptoRow.holds Try.pinned (OpenSpec.upto numNarrowSpec)

/-- 'spillwaylaw01.NumClamps', WHERE WHAT IT READS IS OF BULK AT MOST 1048576: true; the input reads as it did. -/
def numClampsUptoRow : OpenClaim := { program := "ytfccnnlbiniahaa", sum := "9d934cad05b09370671cc51c5bcc976a739b606387fef2bd026b105f381c072e", func := "spillway/spillwaylaw01.NumClamps", spec := "numClamps", apart := false, narrowed := true }
def NumClampsUptoSaid : Prop := numClampsUptoRow.holds Try.pinned (OpenSpec.upto numClampsSpec)

/-- 'spillwaylaw01.NumOwn', WHERE WHAT IT READS IS OF BULK AT MOST 1048576: true; the input reads as it did. -/
def numOwnUptoRow : OpenClaim := { program := "ytfccnnlbiniahaa", sum := "9d934cad05b09370671cc51c5bcc976a739b606387fef2bd026b105f381c072e", func := "spillway/spillwaylaw01.NumOwn", spec := "numOwn", apart := false, narrowed := true }
def NumOwnUptoSaid : Prop := numOwnUptoRow.holds Try.pinned (OpenSpec.upto numOwnSpec)

/-- 'spillwaylaw01.NumModulo', WHERE WHAT IT READS IS OF BULK AT MOST 1048576: true; the input reads as it did. -/
def numModuloUptoRow : OpenClaim := { program := "ytfccnnlbiniahaa", sum := "9d934cad05b09370671cc51c5bcc976a739b606387fef2bd026b105f381c072e", func := "spillway/spillwaylaw01.NumModulo", spec := "numModulo", apart := false, narrowed := true }
def NumModuloUptoSaid : Prop := numModuloUptoRow.holds Try.pinned (OpenSpec.upto numModuloSpec)

/-- 'spillwaylaw05.ShapeWheres', WHERE WHAT IT READS IS OF BULK AT MOST 1048576: true; the input reads as it did. -/
def shapeWheresUptoRow : OpenClaim := { program := "ytfccnnlbiniahaa", sum := "9d934cad05b09370671cc51c5bcc976a739b606387fef2bd026b105f381c072e", func := "spillway/spillwaylaw05.ShapeWheres", spec := "shapeWheres", apart := false, narrowed := true }
def ShapeWheresUptoSaid : Prop := shapeWheresUptoRow.holds Try.pinned (OpenSpec.upto shapeWheresSpec)

/-- 'spillwaylaw05.ShapeBack', WHERE WHAT IT READS IS OF BULK AT MOST 1048576: true; the input reads as it did. -/
def shapeBackUptoRow : OpenClaim := { program := "ytfccnnlbiniahaa", sum := "9d934cad05b09370671cc51c5bcc976a739b606387fef2bd026b105f381c072e", func := "spillway/spillwaylaw05.ShapeBack", spec := "shapeBack", apart := false, narrowed := true }
def ShapeBackUptoSaid : Prop := shapeBackUptoRow.holds Try.pinned (OpenSpec.upto shapeBackSpec)

/-- 'spillwaylaw01.NumProducts', WHERE WHAT IT READS IS OF BULK AT MOST 1048576: true; the input reads as it did. -/
def numProductsUptoRow : OpenClaim := { program := "ytfccnnlbiniahaa", sum := "9d934cad05b09370671cc51c5bcc976a739b606387fef2bd026b105f381c072e", func := "spillway/spillwaylaw01.NumProducts", spec := "numProducts", apart := false, narrowed := true }
def NumProductsUptoSaid : Prop := numProductsUptoRow.holds Try.pinned (OpenSpec.upto numProductsSpec)

/-- 'spillwaylaw01.NumRing', WHERE WHAT IT READS IS OF BULK AT MOST 1048576: true; the input reads as it did. -/
def numRingUptoRow : OpenClaim := { program := "ytfccnnlbiniahaa", sum := "9d934cad05b09370671cc51c5bcc976a739b606387fef2bd026b105f381c072e", func := "spillway/spillwaylaw01.NumRing", spec := "numRing", apart := false, narrowed := true }
def NumRingUptoSaid : Prop := numRingUptoRow.holds Try.pinned (OpenSpec.upto numRingSpec)

end Rows
end Go.Proofs.Ytfccnnlbiniahaa
