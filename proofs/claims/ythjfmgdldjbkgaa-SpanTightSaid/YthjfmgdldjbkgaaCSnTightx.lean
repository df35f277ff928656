-- PRINTED by print.py (a twelfth state) out of the translation. Not trusted: Lean checks it.
import Derived.Test.YthjfmgdldjbkgaaCSnTightx0
import Derived.Test.YthjfmgdldjbkgaaCSnTightx1
import Derived.Test.YthjfmgdldjbkgaaCSnTightx2
import Derived.Test.YthjfmgdldjbkgaaCSnTightx3
import Derived.Test.YthjfmgdldjbkgaaCSnTightx4
namespace Go.Proofs.Ythjfmgdldjbkgaa.CSnTight
open Go.RowKit Go.Proofs.YthjfmgdldjbkgaaW.PrintWords Go.Proofs.YthjfmgdldjbkgaaW.PrintLast Go.Proofs.YthjfmgdldjbkgaaW.PrintMore
attribute [local go_sem] max2_int min2_int max_two min_two max_three min_three max_four min_four   -- for this text's walks alone
set_option linter.unusedVariables false
set_option linter.unusedSimpArgs false

end Go.Proofs.Ythjfmgdldjbkgaa.CSnTight
