import Derived.Test.YthjfmgdldjbkgaaCFixqOddx3
import Derived.Test.YthjfmgdldjbkgaaCFixqOddOpn
namespace Go.Proofs.Ythjfmgdldjbkgaa.CFixqOdd
open Go.RowKit Go.Proofs.Ythjfmgdldjbkgaa.Opn Go.Proofs.YthjfmgdldjbkgaaW.PrintWords Go.Proofs.YthjfmgdldjbkgaaW.PrintLast
set_option linter.unusedVariables false
/-- THE ONE PURE STATEMENT of spillwaylaw02_FixqOdd. -/
def spillwaylaw02_FixqOdd.Pure : Prop := ∀ (a0 : Int) (a1 : Int) (a2_0 : Int) (a2_1 : Int), ((Lit.int .i64 a0).wf = true) → ((Lit.int .i64 a1).wf = true) → ((Lit.int .i64 a2_0).wf = true) → ((Lit.int .i64 a2_1).wf = true) → ∃ k, spillwaylaw02_FixqOdd.f k a0 a1 a2_0 a2_1 = some true
theorem spillwaylaw02_FixqOdd.walk (P : spillwaylaw02_FixqOdd.Pure) (a0 : Int) (a1 : Int) (a2_0 : Int) (a2_1 : Int) (w : World) (w0 : (Lit.int .i64 a0).wf = true) (w1 : (Lit.int .i64 a1).wf = true) (w2_0 : (Lit.int .i64 a2_0).wf = true) (w2_1 : (Lit.int .i64 a2_1).wf = true)  :
    Calls Try.prog 14 #[.int .i64 a0, .int .i64 a1, .agg #[.int .i64 a2_0, .int .i64 a2_1]] w fun e w' => e = .returned (.bool true) ∧ Below w.heap.size w w' := by
  obtain ⟨k, h⟩ := P a0 a1 a2_0 a2_1 w0 w1 w2_0 w2_1
  refine (spillwaylaw02_FixqOdd.calls k a0 a1 a2_0 a2_1 true w  rfl h).mono ?_
  rintro e w' ⟨rfl, hd⟩
  exact ⟨rfl, hd⟩
end Go.Proofs.Ythjfmgdldjbkgaa.CFixqOdd
