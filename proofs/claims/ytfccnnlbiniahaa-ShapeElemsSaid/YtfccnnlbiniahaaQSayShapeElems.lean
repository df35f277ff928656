import Derived.Test.YtfccnnlbiniahaaQx4
import Derived.Test.YtfccnnlbiniahaaQOpn
namespace Go.Proofs.Ytfccnnlbiniahaa.Q
open Go.RowKit Go.Proofs.Ytfccnnlbiniahaa.Opn Go.Proofs.YtfccnnlbiniahaaW.PrintWords Go.Proofs.YtfccnnlbiniahaaW.PrintLast
set_option linter.unusedVariables false
/-- THE ONE PURE STATEMENT of spillwaylaw05_ShapeElems. -/
def spillwaylaw05_ShapeElems.Pure : Prop := ∀ (a0_0 : Int) (a0_1 : Int) (a0_2 : Int), ((Lit.int .i64 a0_0).wf = true) → ((Lit.int .i64 a0_1).wf = true) → ((Lit.int .i64 a0_2).wf = true) → ∃ k, spillwaylaw05_ShapeElems.f k a0_0 a0_1 a0_2 = some true
theorem spillwaylaw05_ShapeElems.walk (P : spillwaylaw05_ShapeElems.Pure) (a0_0 : Int) (a0_1 : Int) (a0_2 : Int) (w : World) (w0_0 : (Lit.int .i64 a0_0).wf = true) (w0_1 : (Lit.int .i64 a0_1).wf = true) (w0_2 : (Lit.int .i64 a0_2).wf = true)  :
    Calls Try.prog 3 #[.agg #[.int .i64 a0_0, .int .i64 a0_1, .int .i64 a0_2]] w fun e w' => e = .returned (.bool true) ∧ Below w.heap.size w w' := by
  obtain ⟨k, h⟩ := P a0_0 a0_1 a0_2 w0_0 w0_1 w0_2
  refine (spillwaylaw05_ShapeElems.calls k a0_0 a0_1 a0_2 true w  rfl h).mono ?_
  rintro e w' ⟨rfl, hd⟩
  exact ⟨rfl, hd⟩
end Go.Proofs.Ytfccnnlbiniahaa.Q
