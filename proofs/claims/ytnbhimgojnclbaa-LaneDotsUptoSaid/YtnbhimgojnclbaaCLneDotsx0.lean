-- PRINTED by print.py (a twelfth state) out of the translation. Not trusted: Lean checks it.
import Derived.Test.YtnbhimgojnclbaaProg
import Derived.Below
import Derived.Deep.Draws
import Derived.Deep.AppendLies
import Derived.Maps.AppendAt
import Derived.OwnWalk
import Derived.Laws.BytesArg
import Derived.Laws.MakeOwn
import Derived.Laws.OwnMore
import Derived.Deep.OwnRows
import Derived.Tactics
import Derived.Lib.ConvBytes
import Derived.Laws.Slices
import Derived.WalkKit
import Derived.KernelRfl
import Derived.RowKit3
import Derived.Deep.LoopGhost
import Derived.Deep.QuietTactic
import Derived.BigQuiet
import Derived.WideLaws
import Derived.Deep.DeepCutAuto
import Derived.Deep.CutBlock
import Derived.Deep.RegionHeld3
import Derived.Laws.Rows
import Derived.Lib.AppendStr
import Derived.ArgAppend
import Derived.Laws.IdiomCopy
import Derived.OrdersHeld
import Derived.Laws.BitsLemmas
import Derived.RowKit
import Derived.Test.YtnbhimgojnclbaaIterLib
import Derived.Test.YtnbhimgojnclbaaWWords
import Derived.Test.YtnbhimgojnclbaaWLast
import Derived.Test.YtnbhimgojnclbaaWTab
import Derived.Test.YtnbhimgojnclbaaWFour
import Derived.Test.YtnbhimgojnclbaaWQPut
import Derived.Test.YtnbhimgojnclbaaWApart
import Derived.Test.YtnbhimgojnclbaaWArr
import Derived.Test.YtnbhimgojnclbaaWZeros
import Derived.Test.YtnbhimgojnclbaaWFoot
import Derived.Test.YtnbhimgojnclbaaWKept
import Derived.Test.YtnbhimgojnclbaaWShare
import Derived.Test.YtnbhimgojnclbaaWN
import Derived.Test.YtnbhimgojnclbaaWFootNe
import Derived.Test.YtnbhimgojnclbaaWAt
import Derived.Test.YtnbhimgojnclbaaWEqStruct
import Derived.Test.YtnbhimgojnclbaaWRepsOne
import Derived.Test.YtnbhimgojnclbaaWInv
import Derived.Test.YtnbhimgojnclbaaWInvWords
import Derived.Test.YtnbhimgojnclbaaWGuard
import Derived.Test.YtnbhimgojnclbaaWNEv
import Derived.Test.YtnbhimgojnclbaaWMore
namespace Go.Proofs.Ytnbhimgojnclbaa.CLneDots
open Go.RowKit Go.Proofs.YtnbhimgojnclbaaW.PrintWords Go.Proofs.YtnbhimgojnclbaaW.PrintLast Go.Proofs.YtnbhimgojnclbaaW.PrintMore
attribute [local go_sem] max2_int min2_int max_two min_two max_three min_three max_four min_four   -- for this text's walks alone
set_option linter.unusedVariables false
set_option linter.unusedSimpArgs false



def errW : Option Int → Value
  | none => .nilIface
  | some c => .iface 0 (.int .i64 c)
theorem errW_none : errW none = .nilIface := rfl
theorem errW_some (c : Int) : errW (some c) = .iface 0 (.int .i64 c) := rfl

theorem info2 : (Try.prog.info? 2).map (fun i => (i.zero, i.size, i.bytes)) = some (some (.int .i64 0), 1, 8) := by kernel_rfl
theorem info51 : (Try.prog.info? 51).map (fun i => (i.zero, i.size, i.bytes)) = some (some (.int .i16 0), 1, 2) := by kernel_rfl
theorem info74 : (Try.prog.info? 74).map (fun i => (i.zero, i.size, i.bytes)) = some (some (.int .i8 0), 1, 1) := by kernel_rfl
-- the values' own types

end Go.Proofs.Ytnbhimgojnclbaa.CLneDots
