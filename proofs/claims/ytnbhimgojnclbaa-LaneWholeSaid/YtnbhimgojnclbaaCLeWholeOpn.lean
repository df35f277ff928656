/- What the parameters' types read as. -/
import Derived.Test.YtnbhimgojnclbaaOpn
import Derived.Test.YtnbhimgojnclbaaCLeWholex0
namespace Go.Proofs.Ytnbhimgojnclbaa.CLeWhole
open Go.RowKit Go.Proofs.Ytnbhimgojnclbaa.Opn Go.Proofs.YtnbhimgojnclbaaW.PrintWords Go.Proofs.YtnbhimgojnclbaaW.PrintLast
set_option linter.unusedVariables false
end Go.Proofs.Ytnbhimgojnclbaa.CLeWhole
