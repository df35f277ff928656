/- Every Place of a shape is the document's. No condition. -/
import Derived.Test.YtfccnnlbiniahaaShapeQ
import Derived.Test.YtfccnnlbiniahaaQSayShapePlaces
namespace Go.Proofs.Ytfccnnlbiniahaa.Pure
open Go.RowKit Go.Proofs.Ytfccnnlbiniahaa.Lib Go.Proofs.Ytfccnnlbiniahaa.Q Go.Proofs.YtfccnnlbiniahaaW.PrintWords Go.Proofs.YtfccnnlbiniahaaW.PrintLast
theorem ShapePlaces : spillwaylaw05_ShapePlaces.Pure := by
  intro a b c y x d _ _ _ _ _ _
  unfold spillwaylaw05_ShapePlaces.f
  rw [Place_eq, rPlace_eq, shape_fixed]
  simp
end Go.Proofs.Ytfccnnlbiniahaa.Pure
