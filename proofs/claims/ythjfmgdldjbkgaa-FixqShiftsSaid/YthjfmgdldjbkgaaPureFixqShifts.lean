/- Every Shift is the document's. No condition. -/
import Derived.Test.YthjfmgdldjbkgaaCFShiftsFixqQ
import Derived.Test.YthjfmgdldjbkgaaCFShiftsSayFixqShifts
namespace Go.Proofs.Ythjfmgdldjbkgaa.Pure
open Go.RowKit Go.Proofs.Ythjfmgdldjbkgaa.Lib Go.Proofs.Ythjfmgdldjbkgaa.CFShifts Go.Proofs.YthjfmgdldjbkgaaW.PrintWords Go.Proofs.YthjfmgdldjbkgaaW.PrintLast Go.Proofs.YthjfmgdldjbkgaaW.PrintMore
set_option linter.unusedVariables false
set_option linter.unusedSimpArgs false
theorem FixqShifts : spillwaylaw02_FixqShifts.Pure := by
  intro x n hx hn
  have hx := bounds_i64 hx
  have hn := bounds_i64 hn
  refine ⟨22, ?_⟩
  unfold spillwaylaw02_FixqShifts.f
  rw [Shift_eq 21 hx hn, rShift_eq 21 hx hn, fixq_fixed 1]
  simp
end Go.Proofs.Ythjfmgdldjbkgaa.Pure
