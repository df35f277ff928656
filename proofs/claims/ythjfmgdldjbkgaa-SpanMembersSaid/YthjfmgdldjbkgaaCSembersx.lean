-- PRINTED by print.py (a twelfth state) out of the translation. Not trusted: Lean checks it.
import Derived.Test.YthjfmgdldjbkgaaCSembersx0
import Derived.Test.YthjfmgdldjbkgaaCSembersx1
import Derived.Test.YthjfmgdldjbkgaaCSembersx2
import Derived.Test.YthjfmgdldjbkgaaCSembersx3
import Derived.Test.YthjfmgdldjbkgaaCSembersx4
namespace Go.Proofs.Ythjfmgdldjbkgaa.CSembers
open Go.RowKit Go.Proofs.YthjfmgdldjbkgaaW.PrintWords Go.Proofs.YthjfmgdldjbkgaaW.PrintLast Go.Proofs.YthjfmgdldjbkgaaW.PrintMore
attribute [local go_sem] max2_int min2_int max_two min_two max_three min_three max_four min_four   -- for this text's walks alone
set_option linter.unusedVariables false
set_option linter.unusedSimpArgs false

end Go.Proofs.Ythjfmgdldjbkgaa.CSembers
