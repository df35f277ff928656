/- Every checked product of two numbers of 64 bits is the document's. No condition. -/
import Derived.Test.YtfccnnlbiniahaaNumQ
import Derived.Test.YtfccnnlbiniahaaQSayNumProducts
namespace Go.Proofs.Ytfccnnlbiniahaa.Pure
open Go.RowKit Go.Proofs.Ytfccnnlbiniahaa.Lib Go.Proofs.Ytfccnnlbiniahaa.Q Go.Proofs.YtfccnnlbiniahaaW.PrintWords Go.Proofs.YtfccnnlbiniahaaW.PrintLast
theorem NumProducts : spillwaylaw01_NumProducts.Pure := by
  intro a b ha hb
  have ha := bounds_i64 ha
  have hb := bounds_i64 hb
  refine ⟨21, ?_⟩
  unfold spillwaylaw01_NumProducts.f
  rw [num_Mul_eq 20 ha hb, ref_Mul_eq 20 ha hb, num_fixed 1]
  simp
end Go.Proofs.Ytfccnnlbiniahaa.Pure
