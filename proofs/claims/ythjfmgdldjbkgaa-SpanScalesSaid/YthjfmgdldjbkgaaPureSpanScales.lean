/- Every Scaled and Clamped of a span is the document's. No condition. -/
import Derived.Test.YthjfmgdldjbkgaaCSScalesFixqQ
import Derived.Test.YthjfmgdldjbkgaaCSScalesSpanQ
import Derived.Test.YthjfmgdldjbkgaaCSScalesSaySpanScales
namespace Go.Proofs.Ythjfmgdldjbkgaa.Pure
open Go.RowKit Go.Proofs.Ythjfmgdldjbkgaa.Lib Go.Proofs.Ythjfmgdldjbkgaa.CSScales Go.Proofs.YthjfmgdldjbkgaaW.PrintWords Go.Proofs.YthjfmgdldjbkgaaW.PrintLast Go.Proofs.YthjfmgdldjbkgaaW.PrintMore
set_option linter.unusedVariables false
set_option linter.unusedSimpArgs false
theorem SpanScales : spillwaylaw03_SpanScales.Pure := by
  intro a b m s c d ha hb hm hs hc hd
  have ha := bounds_i64 ha
  have hb := bounds_i64 hb
  refine ⟨22, ?_⟩
  unfold spillwaylaw03_SpanScales.f
  rw [span_fixed 21]
  have e : span_Scaled.f 22 a b m s = spillwayref03_Scaled.f 22 a b m s := by
    unfold span_Scaled.f spillwayref03_Scaled.f span_Valid.f spillwayref03_Valid.f
    by_cases h : a ≤ b
    · simp only [h, decide_true, Option.bind_some, if_true]
      rw [Apply_eq 21 ha, Apply_eq 21 hb, rApply_eq 21 ha, rApply_eq 21 hb]
      simp only [Option.bind_some]
      unfold appS span_pair.f spillwayref03_ends.f
      by_cases v : Scl m s
      · by_cases r1 : -4294967296 ≤ a ∧ a ≤ 4294967296 <;> by_cases r2 : -4294967296 ≤ b ∧ b ≤ 4294967296 <;> simp [v, r1, r2]
      · simp [v]
    · simp [h]
  have tot : ∃ x, spillwayref03_Scaled.f 22 a b m s = some x := by
    unfold spillwayref03_Scaled.f spillwayref03_Valid.f
    by_cases h : a ≤ b
    · simp only [h, decide_true, Option.bind_some, if_true]
      rw [rApply_eq 21 ha, rApply_eq 21 hb]
      simp only [Option.bind_some]
      unfold appS spillwayref03_ends.f
      by_cases v : Scl m s
      · by_cases r1 : -4294967296 ≤ a ∧ a ≤ 4294967296 <;> by_cases r2 : -4294967296 ≤ b ∧ b ≤ 4294967296 <;> simp [v, r1, r2]
      · simp [v]
    · simp [h]
  obtain ⟨x, hx⟩ := tot
  have e2 : ∀ k, span_Clamped.f (k + 1) a b c d = spillwayref03_Clamped.f (k + 1) a b c d ∧ ∃ y, spillwayref03_Clamped.f (k + 1) a b c d = some y := by
    intro k
    unfold span_Clamped.f spillwayref03_Clamped.f span_Valid.f spillwayref03_Valid.f
    by_cases h : a ≤ b <;> by_cases h2 : c > d <;> simp [h, h2, span_Clamped.j0, spillwayref03_Clamped.j0, num_Clamp_near, ref_Clamp_eq]
  obtain ⟨e3, y, hy⟩ := e2 20
  rw [e, hx]
  simp only [Option.bind_some, if_true, beq_self_eq_true, Bool.not_true, Bool.or_self, Bool.false_eq_true, if_false, bne_self_eq_false, spillwaylaw03_SpanScales.j0]
  rw [e3, hy]
  simp
end Go.Proofs.Ythjfmgdldjbkgaa.Pure
