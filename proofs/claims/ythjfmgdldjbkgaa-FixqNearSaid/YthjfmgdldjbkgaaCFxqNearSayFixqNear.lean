import Derived.Test.YthjfmgdldjbkgaaCFxqNearx4
import Derived.Test.YthjfmgdldjbkgaaCFxqNearOpn
namespace Go.Proofs.Ythjfmgdldjbkgaa.CFxqNear
open Go.RowKit Go.Proofs.Ythjfmgdldjbkgaa.Opn Go.Proofs.YthjfmgdldjbkgaaW.PrintWords Go.Proofs.YthjfmgdldjbkgaaW.PrintLast
set_option linter.unusedVariables false
/-- THE ONE PURE STATEMENT of spillwaylaw02_FixqNear. -/
def spillwaylaw02_FixqNear.Pure : Prop := ∀ (a0 : Int) (a1_0 : Int) (a1_1 : Int), ((Lit.int .i64 a0).wf = true) → ((Lit.int .i64 a1_0).wf = true) → ((Lit.int .i64 a1_1).wf = true) → ∃ k, spillwaylaw02_FixqNear.f k a0 a1_0 a1_1 = some true
theorem spillwaylaw02_FixqNear.walk (P : spillwaylaw02_FixqNear.Pure) (a0 : Int) (a1_0 : Int) (a1_1 : Int) (w : World) (w0 : (Lit.int .i64 a0).wf = true) (w1_0 : (Lit.int .i64 a1_0).wf = true) (w1_1 : (Lit.int .i64 a1_1).wf = true)  :
    Calls Try.prog 13 #[.int .i64 a0, .agg #[.int .i64 a1_0, .int .i64 a1_1]] w fun e w' => e = .returned (.bool true) ∧ Below w.heap.size w w' := by
  obtain ⟨k, h⟩ := P a0 a1_0 a1_1 w0 w1_0 w1_1
  refine (spillwaylaw02_FixqNear.calls k a0 a1_0 a1_1 true w  rfl h).mono ?_
  rintro e w' ⟨rfl, hd⟩
  exact ⟨rfl, hd⟩
end Go.Proofs.Ythjfmgdldjbkgaa.CFxqNear
