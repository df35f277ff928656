import Derived.Test.YtnbhimgojnclbaaCLeWordsx3
import Derived.Test.YtnbhimgojnclbaaCLeWordsOpn
namespace Go.Proofs.Ytnbhimgojnclbaa.CLeWords
open Go.RowKit Go.Proofs.Ytnbhimgojnclbaa.Opn Go.Proofs.YtnbhimgojnclbaaW.PrintWords Go.Proofs.YtnbhimgojnclbaaW.PrintLast
set_option linter.unusedVariables false
/-- THE ONE PURE STATEMENT of spillwaylaw20_LaneWords. -/
def spillwaylaw20_LaneWords.Pure : Prop := ∀ (a0_0 : Int) (a0_1 : Int) (a0_2 : Int) (a0_3 : Int), ((Lit.int .i16 a0_0).wf = true) → ((Lit.int .i16 a0_1).wf = true) → ((Lit.int .i32 a0_2).wf = true) → ((Lit.int .i32 a0_3).wf = true) → ∃ k, spillwaylaw20_LaneWords.f k a0_0 a0_1 a0_2 a0_3 = some true
theorem spillwaylaw20_LaneWords.walk (P : spillwaylaw20_LaneWords.Pure) (a0_0 : Int) (a0_1 : Int) (a0_2 : Int) (a0_3 : Int) (w : World) (w0_0 : (Lit.int .i16 a0_0).wf = true) (w0_1 : (Lit.int .i16 a0_1).wf = true) (w0_2 : (Lit.int .i32 a0_2).wf = true) (w0_3 : (Lit.int .i32 a0_3).wf = true)  :
    Calls Try.prog 8 #[.agg #[.int .i16 a0_0, .int .i16 a0_1, .int .i32 a0_2, .int .i32 a0_3]] w fun e w' => e = .returned (.bool true) ∧ Below w.heap.size w w' := by
  obtain ⟨k, h⟩ := P a0_0 a0_1 a0_2 a0_3 w0_0 w0_1 w0_2 w0_3
  refine (spillwaylaw20_LaneWords.calls k a0_0 a0_1 a0_2 a0_3 true w  rfl h).mono ?_
  rintro e w' ⟨rfl, hd⟩
  exact ⟨rfl, hd⟩
end Go.Proofs.Ytnbhimgojnclbaa.CLeWords
