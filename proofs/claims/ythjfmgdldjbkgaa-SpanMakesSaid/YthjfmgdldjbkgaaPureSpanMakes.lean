/- Every Make, Valid, Has and Holds is the document's. No condition. -/
import Derived.Test.YthjfmgdldjbkgaaCSnMakesSpanQ
import Derived.Test.YthjfmgdldjbkgaaCSnMakesSaySpanMakes
namespace Go.Proofs.Ythjfmgdldjbkgaa.Pure
open Go.RowKit Go.Proofs.Ythjfmgdldjbkgaa.Lib Go.Proofs.Ythjfmgdldjbkgaa.CSnMakes Go.Proofs.YthjfmgdldjbkgaaW.PrintWords Go.Proofs.YthjfmgdldjbkgaaW.PrintLast
set_option linter.unusedVariables false
set_option linter.unusedSimpArgs false
theorem SpanMakes : spillwaylaw03_SpanMakes.Pure := by
  intro a b c d x _ _ _ _ _
  refine ⟨2, ?_⟩
  unfold spillwaylaw03_SpanMakes.f
  rw [span_fixed 1]
  unfold span_Make.f spillwayref03_Valid.f
  by_cases h : a ≤ b
  · rw [if_neg (by omega)]
    simp [h, spillwaylaw03_SpanMakes.j0, span_Valid.f, spillwayref03_Valid.f, span_Has_eq, rspan_Has_eq, span_Holds_eq, rspan_Holds_eq]
  · rw [if_pos (by omega)]
    simp [h, spillwaylaw03_SpanMakes.j0, span_Valid.f, spillwayref03_Valid.f, span_Has_eq, rspan_Has_eq, span_Holds_eq, rspan_Holds_eq]
end Go.Proofs.Ythjfmgdldjbkgaa.Pure
