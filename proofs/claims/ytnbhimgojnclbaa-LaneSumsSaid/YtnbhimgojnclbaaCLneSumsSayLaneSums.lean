import Derived.Test.YtnbhimgojnclbaaCLneSumsx4
import Derived.Test.YtnbhimgojnclbaaCLneSumsOpn
namespace Go.Proofs.Ytnbhimgojnclbaa.CLneSums
open Go.RowKit Go.Proofs.Ytnbhimgojnclbaa.Opn Go.Proofs.YtnbhimgojnclbaaW.PrintWords Go.Proofs.YtnbhimgojnclbaaW.PrintLast
set_option linter.unusedVariables false
/-- THE ONE PURE STATEMENT of spillwaylaw20_LaneSums. -/
def spillwaylaw20_LaneSums.Pure : Prop := ∀ (l0 : List Int) (l1 : List Int), (l0.length * 2 ≤ reachBytes ∧ (∀ x ∈ l0, (Lit.int .i16 x).wf = true)) → (l1.length * 4 ≤ reachBytes ∧ (∀ x ∈ l1, (Lit.int .i32 x).wf = true)) → ∃ k, spillwaylaw20_LaneSums.f k l0 l1 = some true
theorem spillwaylaw20_LaneSums.walk (P : spillwaylaw20_LaneSums.Pure) (A0 : Option Addr) (c0 : Nat) (l0 : List Int) (A1 : Option Addr) (c1 : Nat) (l1 : List Int) (w : World) (w0 : l0.length * 2 ≤ reachBytes ∧ (∀ x ∈ l0, (Lit.int .i16 x).wf = true)) (w1 : l1.length * 4 ≤ reachBytes ∧ (∀ x ∈ l1, (Lit.int .i32 x).wf = true)) (hr0 : Kd.C (Kd.int .i16) w A0 l0.length l0) (hc0 : l0.length ≤ c0) (hr1 : Kd.C (Kd.int .i32) w A1 l1.length l1) (hc1 : l1.length ≤ c1) :
    Calls Try.prog 9 #[.slice A0 l0.length c0, .slice A1 l1.length c1] w fun e w' => e = .returned (.bool true) ∧ Below w.heap.size w w' := by
  obtain ⟨k, h⟩ := P l0 l1 w0 w1
  refine (spillwaylaw20_LaneSums.calls k A0 c0 l0 A1 c1 l1 true w hr0 hc0 hr1 hc1 rfl h).mono ?_
  rintro e w' ⟨rfl, hd⟩
  exact ⟨rfl, hd⟩
end Go.Proofs.Ytnbhimgojnclbaa.CLneSums
