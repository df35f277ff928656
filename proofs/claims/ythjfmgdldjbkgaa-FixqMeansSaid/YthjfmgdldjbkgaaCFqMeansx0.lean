-- PRINTED by print.py (a twelfth state) out of the translation. Not trusted: Lean checks it.
import Derived.Test.YthjfmgdldjbkgaaProg
import Derived.Below
import Derived.Deep.Draws
import Derived.Deep.AppendLies
import Derived.Maps.AppendAt
import Derived.OwnWalk
import Derived.Laws.BytesArg
import Derived.Laws.MakeOwn
import Derived.Laws.OwnMore
import Derived.Deep.OwnRows
import Derived.Tactics
import Derived.Lib.ConvBytes
import Derived.Laws.Slices
import Derived.WalkKit
import Derived.KernelRfl
import Derived.RowKit3
import Derived.Deep.LoopGhost
import Derived.Deep.QuietTactic
import Derived.BigQuiet
import Derived.WideLaws
import Derived.Deep.DeepCutAuto
import Derived.Deep.CutBlock
import Derived.Deep.RegionHeld3
import Derived.Laws.Rows
import Derived.Lib.AppendStr
import Derived.ArgAppend
import Derived.Laws.IdiomCopy
import Derived.OrdersHeld
import Derived.Laws.BitsLemmas
import Derived.RowKit
import Derived.Test.YthjfmgdldjbkgaaWWords
import Derived.Test.YthjfmgdldjbkgaaWLast
import Derived.Test.YthjfmgdldjbkgaaWTab
import Derived.Test.YthjfmgdldjbkgaaWFour
import Derived.Test.YthjfmgdldjbkgaaWQPut
import Derived.Test.YthjfmgdldjbkgaaWApart
import Derived.Test.YthjfmgdldjbkgaaWArr
import Derived.Test.YthjfmgdldjbkgaaWZeros
import Derived.Test.YthjfmgdldjbkgaaWFoot
import Derived.Test.YthjfmgdldjbkgaaWKept
import Derived.Test.YthjfmgdldjbkgaaWShare
import Derived.Test.YthjfmgdldjbkgaaWN
import Derived.Test.YthjfmgdldjbkgaaWFootNe
import Derived.Test.YthjfmgdldjbkgaaWAt
import Derived.Test.YthjfmgdldjbkgaaWEqStruct
import Derived.Test.YthjfmgdldjbkgaaWRepsOne
import Derived.Test.YthjfmgdldjbkgaaWInv
import Derived.Test.YthjfmgdldjbkgaaWInvWords
import Derived.Test.YthjfmgdldjbkgaaWGuard
import Derived.Test.YthjfmgdldjbkgaaWNEv
import Derived.Test.YthjfmgdldjbkgaaWMore
namespace Go.Proofs.Ythjfmgdldjbkgaa.CFqMeans
open Go.RowKit Go.Proofs.YthjfmgdldjbkgaaW.PrintWords Go.Proofs.YthjfmgdldjbkgaaW.PrintLast Go.Proofs.YthjfmgdldjbkgaaW.PrintMore
attribute [local go_sem] max2_int min2_int max_two min_two max_three min_three max_four min_four   -- for this text's walks alone
set_option linter.unusedVariables false
set_option linter.unusedSimpArgs false



def errW : Option Int → Value
  | none => .nilIface
  | some c => .iface 0 (.int .i64 c)
theorem errW_none : errW none = .nilIface := rfl
theorem errW_some (c : Int) : errW (some c) = .iface 0 (.int .i64 c) := rfl

-- the values' own types

end Go.Proofs.Ythjfmgdldjbkgaa.CFqMeans
