/- What the parameters' types read as. -/
import Derived.Test.YtnbhimgojnclbaaOpnU
import Derived.Test.YtnbhimgojnclbaaCLneDotsx0
namespace Go.Proofs.Ytnbhimgojnclbaa.CLneDots
open Go.RowKit Go.Proofs.Ytnbhimgojnclbaa.OpnU Go.Proofs.YtnbhimgojnclbaaW.PrintWords Go.Proofs.YtnbhimgojnclbaaW.PrintLast
set_option linter.unusedVariables false
end Go.Proofs.Ytnbhimgojnclbaa.CLneDots
