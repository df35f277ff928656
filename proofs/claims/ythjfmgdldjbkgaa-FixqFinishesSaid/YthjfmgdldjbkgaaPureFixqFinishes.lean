/- Every Finish is the document's. No condition. -/
import Derived.Test.YthjfmgdldjbkgaaCFnishesFixqQ
import Derived.Test.YthjfmgdldjbkgaaCFnishesSayFixqFinishes
namespace Go.Proofs.Ythjfmgdldjbkgaa.Pure
open Go.RowKit Go.Proofs.Ythjfmgdldjbkgaa.Lib Go.Proofs.Ythjfmgdldjbkgaa.CFnishes Go.Proofs.YthjfmgdldjbkgaaW.PrintWords Go.Proofs.YthjfmgdldjbkgaaW.PrintLast Go.Proofs.YthjfmgdldjbkgaaW.PrintMore
set_option linter.unusedVariables false
set_option linter.unusedSimpArgs false
theorem FixqFinishes : spillwaylaw02_FixqFinishes.Pure := by
  intro v z lo hi hv hz _ _
  have hv := bounds_i64 hv
  have hz := bounds_i64 hz
  refine ⟨22, ?_⟩
  unfold spillwaylaw02_FixqFinishes.f
  rw [Finish_eq 1 hv hz, rFinish_eq 21 hv hz, fixq_fixed 1]
  simp
end Go.Proofs.Ythjfmgdldjbkgaa.Pure
