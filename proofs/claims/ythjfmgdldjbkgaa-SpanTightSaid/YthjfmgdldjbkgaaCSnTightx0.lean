-- PRINTED by print.py (a twelfth state) out of the translation. Not trusted: Lean checks it.
import Derived.Test.YthjfmgdldjbkgaaProg
import Derived.Below
import Derived.Deep.Draws
import Derived.Deep.AppendLies
import Derived.Maps.AppendAt
import Derived.OwnWalk
import Derived.Laws.BytesArg
import Derived.Laws.MakeOwn
import Derived.Laws.OwnMore
import Derived.Deep.OwnRows
import Derived.Tactics
import Derived.Lib.ConvBytes
import Derived.Laws.Slices
import Derived.WalkKit
import Derived.KernelRfl
import Derived.RowKit3
import Derived.Deep.LoopGhost
import Derived.Deep.QuietTactic
import Derived.BigQuiet
import Derived.WideLaws
import Derived.Deep.DeepCutAuto
import Derived.Deep.CutBlock
import Derived.Deep.RegionHeld3
import Derived.Laws.Rows
import Derived.Lib.AppendStr
import Derived.ArgAppend
import Derived.Laws.IdiomCopy
import Derived.OrdersHeld
import Derived.Laws.BitsLemmas
import Derived.RowKit
import Derived.Test.YthjfmgdldjbkgaaWWords
import Derived.Test.YthjfmgdldjbkgaaWLast
import Derived.Test.YthjfmgdldjbkgaaWTab
import Derived.Test.YthjfmgdldjbkgaaWFour
import Derived.Test.YthjfmgdldjbkgaaWQPut
import Derived.Test.YthjfmgdldjbkgaaWApart
import Derived.Test.YthjfmgdldjbkgaaWArr
import Derived.Test.YthjfmgdldjbkgaaWZeros
import Derived.Test.YthjfmgdldjbkgaaWFoot
import Derived.Test.YthjfmgdldjbkgaaWKept
import Derived.Test.YthjfmgdldjbkgaaWShare
import Derived.Test.YthjfmgdldjbkgaaWN
import Derived.Test.YthjfmgdldjbkgaaWFootNe
import Derived.Test.YthjfmgdldjbkgaaWAt
import Derived.Test.YthjfmgdldjbkgaaWEqStruct
import Derived.Test.YthjfmgdldjbkgaaWRepsOne
import Derived.Test.YthjfmgdldjbkgaaWInv
import Derived.Test.YthjfmgdldjbkgaaWInvWords
import Derived.Test.YthjfmgdldjbkgaaWGuard
import Derived.Test.YthjfmgdldjbkgaaWNEv
import Derived.Test.YthjfmgdldjbkgaaWMore
namespace Go.Proofs.Ythjfmgdldjbkgaa.CSnTight
open Go.RowKit Go.Proofs.YthjfmgdldjbkgaaW.PrintWords Go.Proofs.YthjfmgdldjbkgaaW.PrintLast Go.Proofs.YthjfmgdldjbkgaaW.PrintMore
attribute [local go_sem] max2_int min2_int max_two min_two max_three min_three max_four min_four   -- for this text's walks alone
set_option linter.unusedVariables false
set_option linter.unusedSimpArgs false



def errW : Option Int → Value
  | none => .nilIface
  | some c => .iface 0 (.int .i64 c)
theorem errW_none : errW none = .nilIface := rfl
theorem errW_some (c : Int) : errW (some c) = .iface 0 (.int .i64 c) := rfl

/-- W is w behind draws and blocks laid -/
class Strip (W : World) (w : outParam World) : Prop where
  p : ∀ (g : Nat) (o : Obj), w.heap[g]? = some o → W.heap[g]? = some o
instance (priority := 10) stripR (w : World) : Strip w w := ⟨fun _ _ h => h⟩
instance stripN (W w : World) (n : Nat) [s : Strip W w] : Strip (W.drewN n) w := ⟨fun g o h => blk_drewN (s.p g o h) n⟩
instance stripW (W w : World) [s : Strip W w] : Strip W.drew w := ⟨fun g o h => blk_drew (s.p g o h)⟩
instance stripL (W w : World) (x : Obj) [s : Strip W w] : Strip (W.alloc x) w := ⟨fun g o h => blk_alloc (s.p g o h) x⟩
theorem sp {W w : World} [s : Strip W w] {g : Nat} {o : Obj} (h : w.heap[g]? = some o) : W.heap[g]? = some o := s.p g o h
theorem cfs2 {W : World} {B : Nat} {a : Addr} {i0 i1 : Nat} {u0 u1 : Value} {v : Option Value} (h : a.block ≠ B) (c : W.cell? a = v) : ((W.setCell ⟨B, i0, none⟩ u0).setCell ⟨B, i1, none⟩ u1).cell? a = v := ((cell_far (p := ⟨B, i1, none⟩) h u1).trans ((cell_far (p := ⟨B, i0, none⟩) h u0).trans c))
theorem bA {w W : World} (h : Below w.heap.size w W) (o : Obj) : Below w.heap.size w (W.alloc o) := below_alloc h o
theorem bD {n : Nat} {w W : World} (h : Below n w W) (m : Nat) : Below n w (W.drewN m) := pw_below_drewN h m
theorem bS {w W : World} {g j : Nat} {v : Value} (h : Below w.heap.size w W) (hg : w.heap.size ≤ g) : Below w.heap.size w (W.setCell ⟨g, j, none⟩ v) := below_set h hg
theorem bW {n : Nat} {w W : World} (h : Below n w W) : Below n w W.drew := below_drew1 h
theorem dL {w : World} {g : Nat} {o : Obj} (h : w.heap[g]? = some o) (o' : Obj) : (w.alloc o').heap[g]? = some o := blk_alloc h o'
theorem dN {w : World} {g : Nat} {o : Obj} (h : w.heap[g]? = some o) (n : Nat) : (w.drewN n).heap[g]? = some o := blk_drewN h n
theorem dW {w : World} {g : Nat} {o : Obj} (h : w.heap[g]? = some o) : w.drew.heap[g]? = some o := blk_drew h
theorem sA {α : Type _} (l : List α) (i : Nat) (a : α) : l.toArray.setIfInBounds i a = (l.set i a).toArray := by simp
theorem sS {α : Type _} (x : α) (l : List α) (n : Nat) (a : α) : (x :: l).set (n + 1) a = x :: l.set n a := rfl
theorem sZ {α : Type _} (x : α) (l : List α) (a : α) : (x :: l).set 0 a = a :: l := rfl
abbrev tf15_0 : Array Bool := #[false, false, false, false, false, false, false, false, false, false, false, false, false, false, false]
abbrev tf15_4000 : Array Bool := #[true, false, false, false, false, false, false, false, false, false, false, false, false, false, false]
abbrev tf15_5000 : Array Bool := #[true, false, true, false, false, false, false, false, false, false, false, false, false, false, false]
abbrev tf15_5400 : Array Bool := #[true, false, true, false, true, false, false, false, false, false, false, false, false, false, false]
abbrev tf15_5500 : Array Bool := #[true, false, true, false, true, false, true, false, false, false, false, false, false, false, false]
abbrev tf15_7500 : Array Bool := #[true, true, true, false, true, false, true, false, false, false, false, false, false, false, false]
abbrev tf15_7d00 : Array Bool := #[true, true, true, true, true, false, true, false, false, false, false, false, false, false, false]
abbrev tf15_7f00 : Array Bool := #[true, true, true, true, true, true, true, false, false, false, false, false, false, false, false]
abbrev tf15_7f80 : Array Bool := #[true, true, true, true, true, true, true, true, false, false, false, false, false, false, false]
abbrev tf15_7f90 : Array Bool := #[true, true, true, true, true, true, true, true, false, false, true, false, false, false, false]
abbrev tf15_7fa0 : Array Bool := #[true, true, true, true, true, true, true, true, false, true, false, false, false, false, false]
abbrev tf15_7fb0 : Array Bool := #[true, true, true, true, true, true, true, true, false, true, true, false, false, false, false]
abbrev tf15_7fc0 : Array Bool := #[true, true, true, true, true, true, true, true, true, false, false, false, false, false, false]
abbrev tf15_7fd0 : Array Bool := #[true, true, true, true, true, true, true, true, true, false, true, false, false, false, false]
abbrev tf15_7fe0 : Array Bool := #[true, true, true, true, true, true, true, true, true, true, false, false, false, false, false]
abbrev tf15_7ff0 : Array Bool := #[true, true, true, true, true, true, true, true, true, true, true, false, false, false, false]
abbrev tf15_7ff8 : Array Bool := #[true, true, true, true, true, true, true, true, true, true, true, true, false, false, false]
abbrev tf15_7ffc : Array Bool := #[true, true, true, true, true, true, true, true, true, true, true, true, true, false, false]
abbrev tf15_7ffe : Array Bool := #[true, true, true, true, true, true, true, true, true, true, true, true, true, true, false]
abbrev tf15_7fff : Array Bool := #[true, true, true, true, true, true, true, true, true, true, true, true, true, true, true]
abbrev tf31_0 : Array Bool := #[false, false, false, false, false, false, false, false, false, false, false, false, false, false, false, false, false, false, false, false, false, false, false, false, false, false, false, false, false, false, false]
abbrev tf31_40000000 : Array Bool := #[true, false, false, false, false, false, false, false, false, false, false, false, false, false, false, false, false, false, false, false, false, false, false, false, false, false, false, false, false, false, false]
abbrev tf31_60000000 : Array Bool := #[true, true, false, false, false, false, false, false, false, false, false, false, false, false, false, false, false, false, false, false, false, false, false, false, false, false, false, false, false, false, false]
abbrev tf31_70000000 : Array Bool := #[true, true, true, false, false, false, false, false, false, false, false, false, false, false, false, false, false, false, false, false, false, false, false, false, false, false, false, false, false, false, false]
abbrev tf31_78000000 : Array Bool := #[true, true, true, true, false, false, false, false, false, false, false, false, false, false, false, false, false, false, false, false, false, false, false, false, false, false, false, false, false, false, false]
abbrev tf31_7c000000 : Array Bool := #[true, true, true, true, true, false, false, false, false, false, false, false, false, false, false, false, false, false, false, false, false, false, false, false, false, false, false, false, false, false, false]
abbrev tf31_7e000000 : Array Bool := #[true, true, true, true, true, true, false, false, false, false, false, false, false, false, false, false, false, false, false, false, false, false, false, false, false, false, false, false, false, false, false]
abbrev tf31_7f000000 : Array Bool := #[true, true, true, true, true, true, true, false, false, false, false, false, false, false, false, false, false, false, false, false, false, false, false, false, false, false, false, false, false, false, false]
abbrev tf31_7f800000 : Array Bool := #[true, true, true, true, true, true, true, true, false, false, false, false, false, false, false, false, false, false, false, false, false, false, false, false, false, false, false, false, false, false, false]
abbrev tf31_7fc00000 : Array Bool := #[true, true, true, true, true, true, true, true, true, false, false, false, false, false, false, false, false, false, false, false, false, false, false, false, false, false, false, false, false, false, false]
abbrev tf31_7fe00000 : Array Bool := #[true, true, true, true, true, true, true, true, true, true, false, false, false, false, false, false, false, false, false, false, false, false, false, false, false, false, false, false, false, false, false]
abbrev tf31_7ff00000 : Array Bool := #[true, true, true, true, true, true, true, true, true, true, true, false, false, false, false, false, false, false, false, false, false, false, false, false, false, false, false, false, false, false, false]
abbrev tf31_7ff80000 : Array Bool := #[true, true, true, true, true, true, true, true, true, true, true, true, false, false, false, false, false, false, false, false, false, false, false, false, false, false, false, false, false, false, false]
abbrev tf31_7ffc0000 : Array Bool := #[true, true, true, true, true, true, true, true, true, true, true, true, true, false, false, false, false, false, false, false, false, false, false, false, false, false, false, false, false, false, false]
abbrev tf31_7ffe0000 : Array Bool := #[true, true, true, true, true, true, true, true, true, true, true, true, true, true, false, false, false, false, false, false, false, false, false, false, false, false, false, false, false, false, false]
abbrev tf31_7fff0000 : Array Bool := #[true, true, true, true, true, true, true, true, true, true, true, true, true, true, true, false, false, false, false, false, false, false, false, false, false, false, false, false, false, false, false]
abbrev tf31_7fff8000 : Array Bool := #[true, true, true, true, true, true, true, true, true, true, true, true, true, true, true, true, false, false, false, false, false, false, false, false, false, false, false, false, false, false, false]
abbrev tf31_7fffc000 : Array Bool := #[true, true, true, true, true, true, true, true, true, true, true, true, true, true, true, true, true, false, false, false, false, false, false, false, false, false, false, false, false, false, false]
abbrev tf31_7fffe000 : Array Bool := #[true, true, true, true, true, true, true, true, true, true, true, true, true, true, true, true, true, true, false, false, false, false, false, false, false, false, false, false, false, false, false]
abbrev tf31_7ffff000 : Array Bool := #[true, true, true, true, true, true, true, true, true, true, true, true, true, true, true, true, true, true, true, false, false, false, false, false, false, false, false, false, false, false, false]
abbrev tf31_7ffff800 : Array Bool := #[true, true, true, true, true, true, true, true, true, true, true, true, true, true, true, true, true, true, true, true, false, false, false, false, false, false, false, false, false, false, false]
abbrev tf31_7ffffc00 : Array Bool := #[true, true, true, true, true, true, true, true, true, true, true, true, true, true, true, true, true, true, true, true, true, false, false, false, false, false, false, false, false, false, false]
abbrev tf31_7ffffe00 : Array Bool := #[true, true, true, true, true, true, true, true, true, true, true, true, true, true, true, true, true, true, true, true, true, true, false, false, false, false, false, false, false, false, false]
abbrev tf31_7fffff00 : Array Bool := #[true, true, true, true, true, true, true, true, true, true, true, true, true, true, true, true, true, true, true, true, true, true, true, false, false, false, false, false, false, false, false]
abbrev tf31_7fffff80 : Array Bool := #[true, true, true, true, true, true, true, true, true, true, true, true, true, true, true, true, true, true, true, true, true, true, true, true, false, false, false, false, false, false, false]
abbrev tf31_7fffffa0 : Array Bool := #[true, true, true, true, true, true, true, true, true, true, true, true, true, true, true, true, true, true, true, true, true, true, true, true, false, true, false, false, false, false, false]
abbrev tf31_7fffffb0 : Array Bool := #[true, true, true, true, true, true, true, true, true, true, true, true, true, true, true, true, true, true, true, true, true, true, true, true, false, true, true, false, false, false, false]
abbrev tf31_7fffffc0 : Array Bool := #[true, true, true, true, true, true, true, true, true, true, true, true, true, true, true, true, true, true, true, true, true, true, true, true, true, false, false, false, false, false, false]
abbrev tf31_7fffffe0 : Array Bool := #[true, true, true, true, true, true, true, true, true, true, true, true, true, true, true, true, true, true, true, true, true, true, true, true, true, true, false, false, false, false, false]
abbrev tf31_7ffffff0 : Array Bool := #[true, true, true, true, true, true, true, true, true, true, true, true, true, true, true, true, true, true, true, true, true, true, true, true, true, true, true, false, false, false, false]
abbrev tf31_7ffffff8 : Array Bool := #[true, true, true, true, true, true, true, true, true, true, true, true, true, true, true, true, true, true, true, true, true, true, true, true, true, true, true, true, false, false, false]
abbrev tf31_7ffffffc : Array Bool := #[true, true, true, true, true, true, true, true, true, true, true, true, true, true, true, true, true, true, true, true, true, true, true, true, true, true, true, true, true, false, false]
abbrev tf31_7ffffffe : Array Bool := #[true, true, true, true, true, true, true, true, true, true, true, true, true, true, true, true, true, true, true, true, true, true, true, true, true, true, true, true, true, true, false]
abbrev tf31_7fffffff : Array Bool := #[true, true, true, true, true, true, true, true, true, true, true, true, true, true, true, true, true, true, true, true, true, true, true, true, true, true, true, true, true, true, true]
-- the values' own types

end Go.Proofs.Ythjfmgdldjbkgaa.CSnTight
