import Derived.Test.YtfccnnlbiniahaaQx23
import Derived.Test.YtfccnnlbiniahaaQOpn
namespace Go.Proofs.Ytfccnnlbiniahaa.Q
open Go.RowKit Go.Proofs.Ytfccnnlbiniahaa.Opn Go.Proofs.YtfccnnlbiniahaaW.PrintWords Go.Proofs.YtfccnnlbiniahaaW.PrintLast
set_option linter.unusedVariables false
/-- THE ONE PURE STATEMENT of spillwaylaw01_NumRing. -/
def spillwaylaw01_NumRing.Pure : Prop := ∀ (a0 : Int) (a1 : Int) (a2 : Int), ((Lit.int .i64 a0).wf = true) → ((Lit.int .i64 a1).wf = true) → ((Lit.int .i64 a2).wf = true) → ∃ k, spillwaylaw01_NumRing.f k a0 a1 a2 = some true
theorem spillwaylaw01_NumRing.walk (P : spillwaylaw01_NumRing.Pure) (a0 : Int) (a1 : Int) (a2 : Int) (w : World) (w0 : (Lit.int .i64 a0).wf = true) (w1 : (Lit.int .i64 a1).wf = true) (w2 : (Lit.int .i64 a2).wf = true)  :
    Calls Try.prog 14 #[.int .i64 a0, .int .i64 a1, .int .i64 a2] w fun e w' => e = .returned (.bool true) ∧ Below w.heap.size w w' := by
  obtain ⟨k, h⟩ := P a0 a1 a2 w0 w1 w2
  refine (spillwaylaw01_NumRing.calls k a0 a1 a2 true w  rfl h).mono ?_
  rintro e w' ⟨rfl, hd⟩
  exact ⟨rfl, hd.below⟩
end Go.Proofs.Ytfccnnlbiniahaa.Q
