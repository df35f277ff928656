/- Every Hull and Meet is the document's. No condition. -/
import Derived.Test.YthjfmgdldjbkgaaCSanSetsSpanQ
import Derived.Test.YthjfmgdldjbkgaaCSanSetsSaySpanSets
namespace Go.Proofs.Ythjfmgdldjbkgaa.Pure
open Go.RowKit Go.Proofs.Ythjfmgdldjbkgaa.Lib Go.Proofs.Ythjfmgdldjbkgaa.CSanSets Go.Proofs.YthjfmgdldjbkgaaW.PrintWords Go.Proofs.YthjfmgdldjbkgaaW.PrintLast
theorem SpanSets : spillwaylaw03_SpanSets.Pure := by
  intro a b c d _ _ _ _
  refine ⟨2, ?_⟩
  unfold spillwaylaw03_SpanSets.f
  rw [span_fixed 1, span_Hull_eq, rspan_Hull_eq, span_Meet_eq, rspan_Meet_eq]
  simp
end Go.Proofs.Ythjfmgdldjbkgaa.Pure
