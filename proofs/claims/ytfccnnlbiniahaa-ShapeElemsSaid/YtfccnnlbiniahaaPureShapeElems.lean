/- Every Elems and Strides of a shape is the document's. No condition. -/
import Derived.Test.YtfccnnlbiniahaaShapeQ
import Derived.Test.YtfccnnlbiniahaaQSayShapeElems
namespace Go.Proofs.Ytfccnnlbiniahaa.Pure
open Go.RowKit Go.Proofs.Ytfccnnlbiniahaa.Lib Go.Proofs.Ytfccnnlbiniahaa.Q Go.Proofs.YtfccnnlbiniahaaW.PrintWords Go.Proofs.YtfccnnlbiniahaaW.PrintLast
theorem ShapeElems : spillwaylaw05_ShapeElems.Pure := by
  intro a b c _ _ _
  refine ⟨1, ?_⟩
  unfold spillwaylaw05_ShapeElems.f
  rw [Elems_eq, Strides_eq, shape_fixed, rValid_eq]
  by_cases h : Shp a b c
  · have f := h.facts
    simp only [h, if_true, decide_true, Bool.not_true, Option.bind_some, spillwaylaw05_ShapeElems.j0, Bool.false_eq_true, if_false]
    rw [rElems_eq h, w64 (x := b * c) (by omega)]
    simp
  · simp [h, spillwaylaw05_ShapeElems.j0, shape_fixed]
end Go.Proofs.Ytfccnnlbiniahaa.Pure
