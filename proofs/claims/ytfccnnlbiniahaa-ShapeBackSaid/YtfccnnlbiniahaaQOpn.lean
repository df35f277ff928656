/- What the parameters' types read as. -/
import Derived.Test.YtfccnnlbiniahaaOpn
import Derived.Test.YtfccnnlbiniahaaQx0
namespace Go.Proofs.Ytfccnnlbiniahaa.Q
open Go.RowKit Go.Proofs.Ytfccnnlbiniahaa.Opn Go.Proofs.YtfccnnlbiniahaaW.PrintWords Go.Proofs.YtfccnnlbiniahaaW.PrintLast
set_option linter.unusedVariables false
end Go.Proofs.Ytfccnnlbiniahaa.Q
