-- PRINTED by print.py (a twelfth state) out of the translation. Not trusted: Lean checks it.
import Derived.Test.YtfccnnlbiniahaaQx0
import Derived.Test.YtfccnnlbiniahaaQx1
import Derived.Test.YtfccnnlbiniahaaQx2
import Derived.Test.YtfccnnlbiniahaaQx3
import Derived.Test.YtfccnnlbiniahaaQx4
import Derived.Test.YtfccnnlbiniahaaQx5
import Derived.Test.YtfccnnlbiniahaaQx6
import Derived.Test.YtfccnnlbiniahaaQx7
import Derived.Test.YtfccnnlbiniahaaQx8
import Derived.Test.YtfccnnlbiniahaaQx9
import Derived.Test.YtfccnnlbiniahaaQx10
import Derived.Test.YtfccnnlbiniahaaQx11
import Derived.Test.YtfccnnlbiniahaaQx12
import Derived.Test.YtfccnnlbiniahaaQx13
import Derived.Test.YtfccnnlbiniahaaQx14
import Derived.Test.YtfccnnlbiniahaaQx15
import Derived.Test.YtfccnnlbiniahaaQx16
import Derived.Test.YtfccnnlbiniahaaQx17
import Derived.Test.YtfccnnlbiniahaaQx18
import Derived.Test.YtfccnnlbiniahaaQx19
import Derived.Test.YtfccnnlbiniahaaQx20
import Derived.Test.YtfccnnlbiniahaaQx21
import Derived.Test.YtfccnnlbiniahaaQx22
import Derived.Test.YtfccnnlbiniahaaQx23
namespace Go.Proofs.Ytfccnnlbiniahaa.Q
open Go.RowKit Go.Proofs.YtfccnnlbiniahaaW.PrintWords Go.Proofs.YtfccnnlbiniahaaW.PrintLast Go.Proofs.YtfccnnlbiniahaaW.PrintMore
attribute [local go_sem] max2_int min2_int max_two min_two max_three min_three max_four min_four   -- for this text's walks alone
set_option linter.unusedVariables false
set_option linter.unusedSimpArgs false

end Go.Proofs.Ytfccnnlbiniahaa.Q
