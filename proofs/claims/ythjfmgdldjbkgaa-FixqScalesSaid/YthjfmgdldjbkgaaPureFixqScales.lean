/- Every Valid and Apply of a scale is the document's. No condition. -/
import Derived.Test.YthjfmgdldjbkgaaCFScalesFixqQ
import Derived.Test.YthjfmgdldjbkgaaCFScalesSayFixqScales
namespace Go.Proofs.Ythjfmgdldjbkgaa.Pure
open Go.RowKit Go.Proofs.Ythjfmgdldjbkgaa.Lib Go.Proofs.Ythjfmgdldjbkgaa.CFScales Go.Proofs.YthjfmgdldjbkgaaW.PrintWords Go.Proofs.YthjfmgdldjbkgaaW.PrintLast Go.Proofs.YthjfmgdldjbkgaaW.PrintMore
set_option linter.unusedVariables false
set_option linter.unusedSimpArgs false
theorem FixqScales : spillwaylaw02_FixqScales.Pure := by
  intro a m s ha hm hs
  have ha := bounds_i64 ha
  refine ⟨22, ?_⟩
  unfold spillwaylaw02_FixqScales.f
  rw [Apply_eq 21 ha, rApply_eq 21 ha, fixq_fixed 1, fValid_eq, rValid2_eq]
  simp
end Go.Proofs.Ythjfmgdldjbkgaa.Pure
