import Derived.Test.YthjfmgdldjbkgaaCSanSumsx5
import Derived.Test.YthjfmgdldjbkgaaCSanSumsOpn
namespace Go.Proofs.Ythjfmgdldjbkgaa.CSanSums
open Go.RowKit Go.Proofs.Ythjfmgdldjbkgaa.Opn Go.Proofs.YthjfmgdldjbkgaaW.PrintWords Go.Proofs.YthjfmgdldjbkgaaW.PrintLast
set_option linter.unusedVariables false
/-- THE ONE PURE STATEMENT of spillwaylaw03_SpanSums. -/
def spillwaylaw03_SpanSums.Pure : Prop := ∀ (a0_0 : Int) (a0_1 : Int) (a1_0 : Int) (a1_1 : Int) (a2 : Int), ((Lit.int .i64 a0_0).wf = true) → ((Lit.int .i64 a0_1).wf = true) → ((Lit.int .i64 a1_0).wf = true) → ((Lit.int .i64 a1_1).wf = true) → ((Lit.int .i64 a2).wf = true) → ∃ k, spillwaylaw03_SpanSums.f k a0_0 a0_1 a1_0 a1_1 a2 = some true
theorem spillwaylaw03_SpanSums.walk (P : spillwaylaw03_SpanSums.Pure) (a0_0 : Int) (a0_1 : Int) (a1_0 : Int) (a1_1 : Int) (a2 : Int) (w : World) (w0_0 : (Lit.int .i64 a0_0).wf = true) (w0_1 : (Lit.int .i64 a0_1).wf = true) (w1_0 : (Lit.int .i64 a1_0).wf = true) (w1_1 : (Lit.int .i64 a1_1).wf = true) (w2 : (Lit.int .i64 a2).wf = true)  :
    Calls Try.prog 5 #[.agg #[.int .i64 a0_0, .int .i64 a0_1], .agg #[.int .i64 a1_0, .int .i64 a1_1], .int .i64 a2] w fun e w' => e = .returned (.bool true) ∧ Below w.heap.size w w' := by
  obtain ⟨k, h⟩ := P a0_0 a0_1 a1_0 a1_1 a2 w0_0 w0_1 w1_0 w1_1 w2
  refine (spillwaylaw03_SpanSums.calls k a0_0 a0_1 a1_0 a1_1 a2 true w  rfl h).mono ?_
  rintro e w' ⟨rfl, hd⟩
  exact ⟨rfl, hd⟩
end Go.Proofs.Ythjfmgdldjbkgaa.CSanSums
