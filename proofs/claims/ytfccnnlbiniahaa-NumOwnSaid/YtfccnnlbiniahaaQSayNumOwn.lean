import Derived.Test.YtfccnnlbiniahaaQx15
import Derived.Test.YtfccnnlbiniahaaQOpn
namespace Go.Proofs.Ytfccnnlbiniahaa.Q
open Go.RowKit Go.Proofs.Ytfccnnlbiniahaa.Opn Go.Proofs.YtfccnnlbiniahaaW.PrintWords Go.Proofs.YtfccnnlbiniahaaW.PrintLast
set_option linter.unusedVariables false
/-- THE ONE PURE STATEMENT of spillwaylaw01_NumOwn. -/
def spillwaylaw01_NumOwn.Pure : Prop := ∀ (a0 : Int), ((Lit.int .i64 a0).wf = true) → ∃ k, spillwaylaw01_NumOwn.f k a0 = some true
theorem spillwaylaw01_NumOwn.walk (P : spillwaylaw01_NumOwn.Pure) (a0 : Int) (w : World) (w0 : (Lit.int .i64 a0).wf = true)  :
    Calls Try.prog 9 #[.int .i64 a0] w fun e w' => e = .returned (.bool true) ∧ Below w.heap.size w w' := by
  obtain ⟨k, h⟩ := P a0 w0
  refine (spillwaylaw01_NumOwn.calls k a0 true w  rfl h).mono ?_
  rintro e w' ⟨rfl, hd⟩
  exact ⟨rfl, hd.below⟩
end Go.Proofs.Ytfccnnlbiniahaa.Q
