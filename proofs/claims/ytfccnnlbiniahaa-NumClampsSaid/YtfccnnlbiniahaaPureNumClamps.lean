/- Every Clamp is the document's. No condition. -/
import Derived.Test.YtfccnnlbiniahaaNumQ
import Derived.Test.YtfccnnlbiniahaaQSayNumClamps
namespace Go.Proofs.Ytfccnnlbiniahaa.Pure
open Go.RowKit Go.Proofs.Ytfccnnlbiniahaa.Lib Go.Proofs.Ytfccnnlbiniahaa.Q Go.Proofs.YtfccnnlbiniahaaW.PrintWords Go.Proofs.YtfccnnlbiniahaaW.PrintLast
theorem NumClamps : spillwaylaw01_NumClamps.Pure := by
  intro a b c _ _ _
  refine ⟨21, ?_⟩
  unfold spillwaylaw01_NumClamps.f
  rw [num_fixed 1, num_Clamp_near, ref_Clamp_eq]
  simp
end Go.Proofs.Ytfccnnlbiniahaa.Pure
