/- What the parameters' types read as. -/
import Derived.Test.YthjfmgdldjbkgaaOpn
import Derived.Test.YthjfmgdldjbkgaaCFShiftsx0
namespace Go.Proofs.Ythjfmgdldjbkgaa.CFShifts
open Go.RowKit Go.Proofs.Ythjfmgdldjbkgaa.Opn Go.Proofs.YthjfmgdldjbkgaaW.PrintWords Go.Proofs.YthjfmgdldjbkgaaW.PrintLast
set_option linter.unusedVariables false
end Go.Proofs.Ythjfmgdldjbkgaa.CFShifts
