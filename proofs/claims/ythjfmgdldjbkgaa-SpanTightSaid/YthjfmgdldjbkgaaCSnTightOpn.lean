/- What the parameters' types read as. -/
import Derived.Test.YthjfmgdldjbkgaaOpn
import Derived.Test.YthjfmgdldjbkgaaCSnTightx0
namespace Go.Proofs.Ythjfmgdldjbkgaa.CSnTight
open Go.RowKit Go.Proofs.Ythjfmgdldjbkgaa.Opn Go.Proofs.YthjfmgdldjbkgaaW.PrintWords Go.Proofs.YthjfmgdldjbkgaaW.PrintLast
set_option linter.unusedVariables false
end Go.Proofs.Ythjfmgdldjbkgaa.CSnTight
