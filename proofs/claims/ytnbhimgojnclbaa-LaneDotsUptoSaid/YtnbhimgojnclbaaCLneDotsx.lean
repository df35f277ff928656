-- PRINTED by print.py (a twelfth state) out of the translation. Not trusted: Lean checks it.
import Derived.Test.YtnbhimgojnclbaaCLneDotsx0
import Derived.Test.YtnbhimgojnclbaaCLneDotsx1
import Derived.Test.YtnbhimgojnclbaaCLneDotsx2
import Derived.Test.YtnbhimgojnclbaaCLneDotsx3
import Derived.Test.YtnbhimgojnclbaaCLneDotsx4
import Derived.Test.YtnbhimgojnclbaaCLneDotsx5
import Derived.Test.YtnbhimgojnclbaaCLneDotsx6
namespace Go.Proofs.Ytnbhimgojnclbaa.CLneDots
open Go.RowKit Go.Proofs.YtnbhimgojnclbaaW.PrintWords Go.Proofs.YtnbhimgojnclbaaW.PrintLast Go.Proofs.YtnbhimgojnclbaaW.PrintMore
attribute [local go_sem] max2_int min2_int max_two min_two max_three min_three max_four min_four   -- for this text's walks alone
set_option linter.unusedVariables false
set_option linter.unusedSimpArgs false

end Go.Proofs.Ytnbhimgojnclbaa.CLneDots
