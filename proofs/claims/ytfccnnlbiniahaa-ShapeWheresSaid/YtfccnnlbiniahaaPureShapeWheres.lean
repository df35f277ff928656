/- Every Where of a shape is the document's. No condition. -/
import Derived.Test.YtfccnnlbiniahaaShapeQ
import Derived.Test.YtfccnnlbiniahaaQSayShapeWheres
namespace Go.Proofs.Ytfccnnlbiniahaa.Pure
open Go.RowKit Go.Proofs.Ytfccnnlbiniahaa.Lib Go.Proofs.Ytfccnnlbiniahaa.Q Go.Proofs.YtfccnnlbiniahaaW.PrintWords Go.Proofs.YtfccnnlbiniahaaW.PrintLast
theorem ShapeWheres : spillwaylaw05_ShapeWheres.Pure := by
  intro a b c n _ _ _ _
  refine ⟨60000, ?_⟩
  unfold spillwaylaw05_ShapeWheres.f
  rw [Where_eq, rWhere_eq a b c n 60000 (Nat.le_refl _), shape_fixed]
  simp
end Go.Proofs.Ytfccnnlbiniahaa.Pure
