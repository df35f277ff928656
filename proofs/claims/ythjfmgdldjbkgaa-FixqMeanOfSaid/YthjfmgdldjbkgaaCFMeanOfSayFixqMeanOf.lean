import Derived.Test.YthjfmgdldjbkgaaCFMeanOfx4
import Derived.Test.YthjfmgdldjbkgaaCFMeanOfOpn
namespace Go.Proofs.Ythjfmgdldjbkgaa.CFMeanOf
open Go.RowKit Go.Proofs.Ythjfmgdldjbkgaa.Opn Go.Proofs.YthjfmgdldjbkgaaW.PrintWords Go.Proofs.YthjfmgdldjbkgaaW.PrintLast
set_option linter.unusedVariables false
/-- THE ONE PURE STATEMENT of spillwaylaw02_FixqMeanOf. -/
def spillwaylaw02_FixqMeanOf.Pure : Prop := ∀ (a0 : Int) (a1 : Int) (a2 : Int), ((Lit.int .i64 a0).wf = true) → ((Lit.int .i64 a1).wf = true) → ((Lit.int .i64 a2).wf = true) → ∃ k, spillwaylaw02_FixqMeanOf.f k a0 a1 a2 = some true
theorem spillwaylaw02_FixqMeanOf.walk (P : spillwaylaw02_FixqMeanOf.Pure) (a0 : Int) (a1 : Int) (a2 : Int) (w : World) (w0 : (Lit.int .i64 a0).wf = true) (w1 : (Lit.int .i64 a1).wf = true) (w2 : (Lit.int .i64 a2).wf = true)  :
    Calls Try.prog 15 #[.int .i64 a0, .int .i64 a1, .int .i64 a2] w fun e w' => e = .returned (.bool true) ∧ Below w.heap.size w w' := by
  obtain ⟨k, h⟩ := P a0 a1 a2 w0 w1 w2
  refine (spillwaylaw02_FixqMeanOf.calls k a0 a1 a2 true w  rfl h).mono ?_
  rintro e w' ⟨rfl, hd⟩
  exact ⟨rfl, hd⟩
end Go.Proofs.Ythjfmgdldjbkgaa.CFMeanOf
