/- What the parameters' types read as. -/
import Derived.Test.YthjfmgdldjbkgaaOpn
import Derived.Test.YthjfmgdldjbkgaaCSembersx0
namespace Go.Proofs.Ythjfmgdldjbkgaa.CSembers
open Go.RowKit Go.Proofs.Ythjfmgdldjbkgaa.Opn Go.Proofs.YthjfmgdldjbkgaaW.PrintWords Go.Proofs.YthjfmgdldjbkgaaW.PrintLast
set_option linter.unusedVariables false
end Go.Proofs.Ythjfmgdldjbkgaa.CSembers
