/- Every checked sum and difference of two numbers of 64 bits is the document's. No condition. -/
import Derived.Test.YtfccnnlbiniahaaNumQ
import Derived.Test.YtfccnnlbiniahaaQSayNumSums
namespace Go.Proofs.Ytfccnnlbiniahaa.Pure
open Go.RowKit Go.Proofs.Ytfccnnlbiniahaa.Lib Go.Proofs.Ytfccnnlbiniahaa.Q Go.Proofs.YtfccnnlbiniahaaW.PrintWords Go.Proofs.YtfccnnlbiniahaaW.PrintLast
theorem NumSums : spillwaylaw01_NumSums.Pure := by
  intro a b ha hb
  have ha := bounds_i64 ha
  have hb := bounds_i64 hb
  refine ⟨21, ?_⟩
  unfold spillwaylaw01_NumSums.f
  rw [num_Add_eq ha hb, ref_Add_eq ha hb, num_fixed 1]
  simp only [Option.bind_some, if_true, bne_self_eq_false, spillwaylaw01_NumSums.j0]
  rw [num_Sub_eq ha hb, ref_Sub_eq ha hb]
  simp
end Go.Proofs.Ytfccnnlbiniahaa.Pure
