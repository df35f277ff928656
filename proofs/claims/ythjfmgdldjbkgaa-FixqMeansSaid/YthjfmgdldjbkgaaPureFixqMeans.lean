/- Every Mean is the document's. No condition. -/
import Derived.Test.YthjfmgdldjbkgaaCFqMeansFixqQ
import Derived.Test.YthjfmgdldjbkgaaCFqMeansSayFixqMeans
namespace Go.Proofs.Ythjfmgdldjbkgaa.Pure
open Go.RowKit Go.Proofs.Ythjfmgdldjbkgaa.Lib Go.Proofs.Ythjfmgdldjbkgaa.CFqMeans Go.Proofs.YthjfmgdldjbkgaaW.PrintWords Go.Proofs.YthjfmgdldjbkgaaW.PrintLast Go.Proofs.YthjfmgdldjbkgaaW.PrintMore
set_option linter.unusedVariables false
set_option linter.unusedSimpArgs false
theorem FixqMeans : spillwaylaw02_FixqMeans.Pure := by
  intro x n hx hn
  have hx := bounds_i64 hx
  have hn := bounds_i64 hn
  refine ⟨22, ?_⟩
  unfold spillwaylaw02_FixqMeans.f
  rw [Mean_eq 22 (by omega) hx hn, rMean_eq hx hn, fixq_fixed 1]
  simp
end Go.Proofs.Ythjfmgdldjbkgaa.Pure
