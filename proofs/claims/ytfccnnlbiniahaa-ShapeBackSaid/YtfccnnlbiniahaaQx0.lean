-- PRINTED by print.py (a twelfth state) out of the translation. Not trusted: Lean checks it.
import Derived.Test.YtfccnnlbiniahaaProg
import Derived.Below
import Derived.Deep.Draws
import Derived.Deep.AppendLies
import Derived.Maps.AppendAt
import Derived.OwnWalk
import Derived.Laws.BytesArg
import Derived.Laws.MakeOwn
import Derived.Laws.OwnMore
import Derived.Deep.OwnRows
import Derived.Tactics
import Derived.Lib.ConvBytes
import Derived.Laws.Slices
import Derived.WalkKit
import Derived.KernelRfl
import Derived.RowKit3
import Derived.Deep.LoopGhost
import Derived.Deep.QuietTactic
import Derived.BigQuiet
import Derived.WideLaws
import Derived.Deep.DeepCutAuto
import Derived.Deep.CutBlock
import Derived.Deep.RegionHeld3
import Derived.Laws.Rows
import Derived.Lib.AppendStr
import Derived.ArgAppend
import Derived.Laws.IdiomCopy
import Derived.OrdersHeld
import Derived.Laws.BitsLemmas
import Derived.RowKit
import Derived.Test.YtfccnnlbiniahaaWWords
import Derived.Test.YtfccnnlbiniahaaWLast
import Derived.Test.YtfccnnlbiniahaaWTab
import Derived.Test.YtfccnnlbiniahaaWFour
import Derived.Test.YtfccnnlbiniahaaWQPut
import Derived.Test.YtfccnnlbiniahaaWApart
import Derived.Test.YtfccnnlbiniahaaWArr
import Derived.Test.YtfccnnlbiniahaaWZeros
import Derived.Test.YtfccnnlbiniahaaWFoot
import Derived.Test.YtfccnnlbiniahaaWKept
import Derived.Test.YtfccnnlbiniahaaWShare
import Derived.Test.YtfccnnlbiniahaaWN
import Derived.Test.YtfccnnlbiniahaaWFootNe
import Derived.Test.YtfccnnlbiniahaaWAt
import Derived.Test.YtfccnnlbiniahaaWEqStruct
import Derived.Test.YtfccnnlbiniahaaWRepsOne
import Derived.Test.YtfccnnlbiniahaaWInv
import Derived.Test.YtfccnnlbiniahaaWInvWords
import Derived.Test.YtfccnnlbiniahaaWGuard
import Derived.Test.YtfccnnlbiniahaaWNEv
import Derived.Test.YtfccnnlbiniahaaWMore
namespace Go.Proofs.Ytfccnnlbiniahaa.Q
open Go.RowKit Go.Proofs.YtfccnnlbiniahaaW.PrintWords Go.Proofs.YtfccnnlbiniahaaW.PrintLast Go.Proofs.YtfccnnlbiniahaaW.PrintMore
attribute [local go_sem] max2_int min2_int max_two min_two max_three min_three max_four min_four   -- for this text's walks alone
set_option linter.unusedVariables false
set_option linter.unusedSimpArgs false



def errW : Option Int → Value
  | none => .nilIface
  | some c => .iface 0 (.int .i64 c)
theorem errW_none : errW none = .nilIface := rfl
theorem errW_some (c : Int) : errW (some c) = .iface 0 (.int .i64 c) := rfl

-- the values' own types

end Go.Proofs.Ytfccnnlbiniahaa.Q
