import Derived.Test.YtnbhimgojnclbaaCLneDotsx6
import Derived.Test.YtnbhimgojnclbaaCLneDotsOpn
namespace Go.Proofs.Ytnbhimgojnclbaa.CLneDots
open Go.RowKit Go.Proofs.Ytnbhimgojnclbaa.OpnU Go.Proofs.YtnbhimgojnclbaaW.PrintWords Go.Proofs.YtnbhimgojnclbaaW.PrintLast
set_option linter.unusedVariables false
/-- THE ONE PURE STATEMENT of spillwaylaw20_LaneDots. -/
def spillwaylaw20_LaneDots.Pure : Prop := ∀ (l0_0 : List Int) (l0_1 : List Int) (a0_2 : Int) (a0_3 : Int) (a0_4 : Int), (l0_0.length ≤ 1048576 ∧ (∀ x ∈ l0_0, (Lit.int .i16 x).wf = true)) → (l0_1.length ≤ 1048576 ∧ (∀ x ∈ l0_1, (Lit.int .i8 x).wf = true)) → ((Lit.int .i64 a0_2).wf = true) → ((Lit.int .i64 a0_3).wf = true) → ((Lit.int .i32 a0_4).wf = true) → ∃ k, spillwaylaw20_LaneDots.f k l0_0 l0_1 a0_2 a0_3 a0_4 = some true
theorem spillwaylaw20_LaneDots.walk (P : spillwaylaw20_LaneDots.Pure) (A0_0 : Option Addr) (c0_0 : Nat) (l0_0 : List Int) (A0_1 : Option Addr) (c0_1 : Nat) (l0_1 : List Int) (a0_2 : Int) (a0_3 : Int) (a0_4 : Int) (w : World) (w0_0 : l0_0.length ≤ 1048576 ∧ (∀ x ∈ l0_0, (Lit.int .i16 x).wf = true)) (w0_1 : l0_1.length ≤ 1048576 ∧ (∀ x ∈ l0_1, (Lit.int .i8 x).wf = true)) (w0_2 : (Lit.int .i64 a0_2).wf = true) (w0_3 : (Lit.int .i64 a0_3).wf = true) (w0_4 : (Lit.int .i32 a0_4).wf = true) (hr0_0 : Kd.C (Kd.int .i16) w A0_0 l0_0.length l0_0) (hc0_0 : l0_0.length ≤ c0_0) (hr0_1 : Kd.C (Kd.int .i8) w A0_1 l0_1.length l0_1) (hc0_1 : l0_1.length ≤ c0_1) :
    Calls Try.prog 10 #[.agg #[.slice A0_0 l0_0.length c0_0, .slice A0_1 l0_1.length c0_1, .int .i64 a0_2, .int .i64 a0_3, .int .i32 a0_4]] w fun e w' => e = .returned (.bool true) ∧ Below w.heap.size w w' := by
  obtain ⟨k, h⟩ := P l0_0 l0_1 a0_2 a0_3 a0_4 w0_0 w0_1 w0_2 w0_3 w0_4
  refine (spillwaylaw20_LaneDots.calls k A0_0 c0_0 l0_0 A0_1 c0_1 l0_1 a0_2 a0_3 a0_4 true w hr0_0 hc0_0 hr0_1 hc0_1 rfl h).mono ?_
  rintro e w' ⟨rfl, hd⟩
  exact ⟨rfl, hd⟩
end Go.Proofs.Ytnbhimgojnclbaa.CLneDots
