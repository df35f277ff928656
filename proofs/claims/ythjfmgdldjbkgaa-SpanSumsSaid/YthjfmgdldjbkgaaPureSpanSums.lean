/- Every Add, Sub and Times of spans is the document's. No condition. -/
import Derived.Test.YthjfmgdldjbkgaaCSanSumsSpanQ
import Derived.Test.YthjfmgdldjbkgaaCSanSumsSaySpanSums
namespace Go.Proofs.Ythjfmgdldjbkgaa.Pure
open Go.RowKit Go.Proofs.Ythjfmgdldjbkgaa.Lib Go.Proofs.Ythjfmgdldjbkgaa.CSanSums Go.Proofs.YthjfmgdldjbkgaaW.PrintWords Go.Proofs.YthjfmgdldjbkgaaW.PrintLast
theorem SpanSums : spillwaylaw03_SpanSums.Pure := by
  intro a b c d x ha hb hc hd hx
  have ha := bounds_i64 ha
  have hb := bounds_i64 hb
  have hc := bounds_i64 hc
  have hd := bounds_i64 hd
  have hx := bounds_i64 hx
  refine ⟨3, ?_⟩
  unfold spillwaylaw03_SpanSums.f
  rw [span_fixed 2, span_Add_eq 2 ha hb hc hd, rspan_Add_eq 2 ha hb hc hd]
  simp only [Option.bind_some, if_true, beq_self_eq_true, Bool.not_true, Bool.or_self, Bool.false_eq_true, if_false, bne_self_eq_false, spillwaylaw03_SpanSums.j0]
  rw [span_Sub_eq 1 ha hb hc hd, rspan_Sub_eq 1 ha hb hc hd]
  simp only [Option.bind_some, if_true, beq_self_eq_true, Bool.not_true, Bool.or_self, Bool.false_eq_true, if_false, bne_self_eq_false, spillwaylaw03_SpanSums.j1]
  rw [span_Times_eq 0 ha hb hx, rspan_Times_eq 0 ha hb hx]
  simp
end Go.Proofs.Ythjfmgdldjbkgaa.Pure
