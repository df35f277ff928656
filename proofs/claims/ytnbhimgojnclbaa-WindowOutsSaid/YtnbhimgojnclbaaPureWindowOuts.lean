import Derived.Test.YtnbhimgojnclbaaCWowOutsSayWindowOuts
import Derived.Test.YtnbhimgojnclbaaCWowOutsWindowQ
namespace Go.Proofs.Ytnbhimgojnclbaa.Pure
open Go.RowKit Go.Proofs.Ytnbhimgojnclbaa.CWowOuts Go.Proofs.Ytnbhimgojnclbaa.Lib Go.Proofs.YtnbhimgojnclbaaW.PrintWords Go.Proofs.YtnbhimgojnclbaaW.PrintLast
theorem WindowOuts : spillwaylaw06_WindowOuts.Pure := by
  intro H W C KH KW SH SW TO LE BO RI _ _ _ _ _ _ _ _ _ _ _
  refine ⟨2003 + 20, ?_⟩
  unfold spillwaylaw06_WindowOuts.f
  rw [Out_eq, rOut_eq _ (by omega), win_fixed, wValid_eq, rwValid_eq]
  simp
end Go.Proofs.Ytnbhimgojnclbaa.Pure
