import Derived.RangeFuncNested
import Derived.RangeFuncBound
import Derived.RangeFuncCalls
import Derived.RangeFuncLeaves
import Derived.Shelf.Abstract
import Derived.WalkKit
import Derived.OwnWalkIn
import Derived.TacticsInMore
import Derived.LoopNIn
import Derived.LoopIn
import Derived.BigRegion
import Derived.Maps.AppendAt
import Derived.Deep.RegionHeld3
import Derived.Test.YtnbhimgojnclbaaWMore
-- what a walk over an iterator wants, whatever the program
namespace Go.Proofs.Ytnbhimgojnclbaa
open Go.RowKit Go.Shelf Go.Proofs.YtnbhimgojnclbaaW.PrintWords Go.Proofs.YtnbhimgojnclbaaW.PrintLast Go.Proofs.YtnbhimgojnclbaaW.PrintMore
set_option linter.unusedVariables false
set_option linter.unusedSimpArgs false
abbrev winEnc (p : Int × Int) : Array Value := #[.int .i64 p.1, .int .i64 p.2]
/-- the blocks from lo to ahead of hi lie as they lay -/
def Keeps (lo hi : Nat) (W W' : World) : Prop := ∀ b, lo ≤ b → b < hi → W'.heap[b]? = W.heap[b]?
theorem Keeps.refl (lo hi : Nat) (W : World) : Keeps lo hi W W := fun _ _ _ => rfl
theorem Keeps.trans {lo hi : Nat} {A B C : World} (h : Keeps lo hi A B) (k : Keeps lo hi B C) : Keeps lo hi A C := fun b x y => (k b x y).trans (h b x y)
theorem Keeps.cell {lo hi : Nat} {A B : World} (h : Keeps lo hi A B) {p : Addr} (a : lo ≤ p.block) (b : p.block < hi) : B.cell? p = A.cell? p := by
  unfold World.cell?; rw [h _ a b]
theorem Keeps.of_below {lo hi n : Nat} {A B : World} (h : Below n A B) (hn : hi ≤ n) : Keeps lo hi A B := fun b _ y => h.block b (by omega)
theorem Keeps.drew {lo hi : Nat} {A B : World} (h : Keeps lo hi A B) : Keeps lo hi A B.drew := h
theorem keeps_t {lo hi : Nat} {A B C : World} (h : Keeps lo hi A B) (k : Keeps lo hi B C) : Keeps lo hi A C := h.trans k
theorem keeps_b {lo hi : Nat} {w : World} (hn : hi ≤ w.heap.size) (W : World) (l : Nat) (o o' : Obj) (hl : w.heap.size ≤ l) (h : W.heap[l]? = some o) (_ : o.isCells = false) (_ : o.isWalk = false) : Keeps lo hi W (W.putObj l o') :=
  fun b _ hb => World.putObj_heap_other (by omega)
theorem abides_drew {β : Type} {B : Nat} {J : β → World → Prop} (hJ : AbidesFrom B J) {s : β} {W : World} (h : J s W) : J s W.drew :=
  hJ s W _ none h ⟨rfl, rfl, rfl, Nat.le_refl _, fun _ _ _ => rfl⟩ (by simp)
theorem abides_drewN {β : Type} {B : Nat} {J : β → World → Prop} (hJ : AbidesFrom B J) {s : β} {W : World} (h : J s W) (m : Nat) : J s (W.drewN m) :=
  hJ s W _ none h ⟨rfl, rfl, rfl, Nat.le_refl _, fun _ _ _ => rfl⟩ (by simp)
theorem abides_drawn {β : Type} {B : Nat} {J : β → World → Prop} (hJ : AbidesFrom B J) {s : β} {W W' : World} (h : J s W) (hd : Drawn0 W W') : J s W' := by
  obtain ⟨m, rfl⟩ := hd; exact abides_drewN hJ h m
theorem keeps_drawn {lo hi : Nat} {w W W' : World} (h : Keeps lo hi w W) (hd : Drawn0 W W') : Keeps lo hi w W' := by
  obtain ⟨m, rfl⟩ := hd; exact h
def upto {α : Type} (f : Nat → α) (k : Nat) : List α := (List.range k).map f
theorem upto_succ {α : Type} (f : Nat → α) (k : Nat) : upto f (k + 1) = upto f k ++ [f k] := by simp [upto, List.range_succ]
theorem upto_length {α : Type} (f : Nat → α) (k : Nat) : (upto f k).length = k := by simp [upto]

theorem box2a (w : World) (A B : Obj) : ((w.alloc A).alloc B).heap[w.heap.size]? = some A := (Below.heap_alloc _ _ _ (by simp)).trans (World.alloc_heap_new w A)
theorem box2b (w : World) (A B : Obj) : ((w.alloc A).alloc B).heap[w.heap.size + 1]? = some B := by
  have := World.alloc_heap_new (w.alloc A) B; rwa [World.size_alloc] at this
theorem upto_take {α : Type} (f : Nat → α) {k N : Nat} (h : k ≤ N) : upto f k = (upto f N).take k := by
  unfold upto; rw [← List.map_take, List.take_range, Nat.min_eq_left h]
def flat (xs : List (Int × Int)) : List Int := xs.flatMap fun p => [p.1, p.2]
theorem flat_snoc (xs : List (Int × Int)) (p : Int × Int) : flat (xs ++ [p]) = flat xs ++ [p.1, p.2] := by simp [flat]
theorem flat_length (xs : List (Int × Int)) : (flat xs).length = 2 * xs.length := by induction xs with | nil => rfl | cons a l ih => simp [flat] at ih ⊢; omega
theorem ownsRow_slice {W : World} {base : Nat} {e : TypeId} {size : Nat} {v : Value} {k : Nat} {xs : List Value} (h : W.ownsRow base e size v k xs) : ∃ A c, v = .slice A k c := by
  rcases h.2 with ⟨rfl, h0⟩ | ⟨g, cap, _, rfl, _⟩
  · exact ⟨none, 0, by rw [h0]⟩
  · exact ⟨_, cap, rfl⟩
/-- the box B (type t) holds a row (elements e) of the call's own, from hi on; what lay when w began lies as it lay -/
def Col (w : World) (hi B : Nat) (t e : TypeId) (l : List Value) (W : World) : Prop :=
  (∃ A c, Boxed W B t (.slice A l.length c) ∧ W.ownsRow hi e 1 (.slice A l.length c) l.length l) ∧ Below w.heap.size w W ∧ hi ≤ W.heap.size
theorem Col.grown {w : World} {hi B : Nat} {t e : TypeId} {l : List Value} {X Y : World} {row : Option Nat} (h : Col w hi B t e l X) (hB : B < hi) (hn : w.heap.size ≤ hi) (hg : X.grownBy Y row)
    (hr : ∀ r, row = some r → hi ≤ r ∧ ∃ o : Obj, X.heap[r]? = some o ∧ o.isCells = false) : Col w hi B t e l Y := by
  obtain ⟨⟨A, c, hv, ho⟩, hb, hs⟩ := h
  refine ⟨⟨A, c, hv.kept hg (fun e' => by have := (hr _ e'.symm).1; omega), ho.kept hg ?_⟩, hb.grown hg hb.size (fun k ek => by have := (hr k ek).1; omega), Nat.le_trans hs hg.size⟩
  rcases ho.2 with ⟨hv0, _⟩ | ⟨g, cap, cur, hv0, _, hgb, _⟩
  · exact .inl (by rw [hv0]; rfl)
  · refine .inr fun e' => ?_
    obtain ⟨_, o, hh, hc⟩ := hr g (by rw [← e', hv0]; rfl)
    rw [hgb] at hh; cases hh; cases hc
theorem boxed_grown {hi B : Nat} {t : TypeId} {v : Value} {X Y : World} {row : Option Nat} (h : Boxed X B t v) (hB : B < hi) (hg : X.grownBy Y row)
    (hr : ∀ r, row = some r → hi ≤ r ∧ ∃ o : Obj, X.heap[r]? = some o ∧ o.isCells = false) : Boxed Y B t v :=
  h.kept hg (fun e' => by have := (hr _ e'.symm).1; omega)
theorem keeps_append {lo hi B : Nat} {e : TypeId} {size k : Nat} {W w2 : World} {tmp : Obj} {v v' : Value} {xs : List Value} (hrow : W.ownsRow hi e size v k xs) (hgrow : (W.alloc tmp).grownBy w2 v.ownBlock) (hs : hi ≤ W.heap.size) (hB : B < lo) :
    Keeps lo hi W (w2.setCell ⟨B, 0, none⟩ v') := fun b h1 h2 =>
  (Below.heap_setCell w2 _ _ b (by show b ≠ B; omega)).trans ((hgrow.block b (by simp; omega) (fun e' => by have := own_base hrow b e'.symm; omega)).trans (Below.heap_alloc W tmp b (by omega)))
/-- what an append to the row in the box owes -/
theorem Col.append {w : World} {lo hi B : Nat} {t e : TypeId} {l ys : List Value} {A : Option Addr} {c m : Nat} {W w2 : World} {tmp : Obj} {v' : Value} (hte : t ≠ e) (hB : B < lo) (hn : w.heap.size ≤ B) (hlh : lo ≤ hi)
    (hv : Boxed W B t (.slice A l.length c)) (hrow : W.ownsRow hi e 1 (.slice A l.length c) l.length l) (hb : Below w.heap.size w W) (hs : hi ≤ W.heap.size)
    (hown : w2.ownsRow hi e 1 v' (l.length + m) (l ++ ys)) (hgrow : (W.alloc tmp).grownBy w2 (Value.slice A l.length c).ownBlock) (hm : ys.length = m) :
    KeepsFrom hi W (w2.setCell ⟨B, 0, none⟩ v') ∧ Keeps lo hi W (w2.setCell ⟨B, 0, none⟩ v') ∧ Col w hi B t e (l ++ ys) (w2.setCell ⟨B, 0, none⟩ v') := by
  have hh : w.heap.size ≤ hi := by omega
  obtain ⟨h1, h2, h3, h4, h5⟩ := hv.appended hte (own_weaken hrow hh) hb.size hn (own_weaken hown hh) hgrow
  obtain ⟨A', c', rfl⟩ := ownsRow_slice hown
  have hl : (l ++ ys).length = l.length + m := by simp [hm]
  refine ⟨h4.from _, keeps_append hrow hgrow hs hB, ⟨A', c', by rw [hl]; exact h2, by rw [hl]; exact hown.kept (grownBy_setCell' w2 B _) (.inr (h1.not_row hte hown).symm)⟩, hb.trans h5, Nat.le_trans hs h4.size⟩
theorem box_app {hi B : Nat} {t e : TypeId} {size k : Nat} {W w2 : World} {tmp : Obj} {v : Value} {xs : List Value} (hte : t ≠ e) (hv : Boxed W B t v) (hrow : W.ownsRow hi e size v k xs) (hgrow : (W.alloc tmp).grownBy w2 v.ownBlock) : Boxed w2 B t v :=
  (hv.alloc tmp).kept hgrow (hv.not_row hte hrow)
theorem cell_two_new (w : World) (x y : Value) (t : TypeId) : ∀ j u, [x, y][j]? = some u → (w.alloc (.cells #[x, y] t)).cell? ((⟨w.heap.size, 0, none⟩ : Addr).add j) = some u := by
  intro j u hj
  match j, hj with
  | 0, hj => simp at hj; subst hj; simp [Addr.add]
  | 1, hj => simp at hj; subst hj; simp [Addr.add]
def flatV (xs : List (Int × Int)) : List Value := (flat xs).map (Value.int .i64)
theorem flatV_length (xs : List (Int × Int)) : (flatV xs).length = 2 * xs.length := by simp [flatV, flat_length]
theorem flatV_snoc (xs : List (Int × Int)) (p : Int × Int) : flatV (xs ++ [p]) = flatV xs ++ [.int .i64 p.1, .int .i64 p.2] := by simp [flatV, flat_snoc]
theorem four3 (w : World) (A B C D : Obj) : ((((w.alloc A).alloc B).alloc C).alloc D).heap[w.heap.size + 1 + 1]? = some C := by
  have := World.alloc_heap_new ((w.alloc A).alloc B) C; rw [World.size_alloc, World.size_alloc] at this
  exact (Below.heap_alloc _ _ _ (by simp)).trans this
theorem four4 (w : World) (A B C D : Obj) : ((((w.alloc A).alloc B).alloc C).alloc D).heap[w.heap.size + 1 + 1 + 1]? = some D := by
  have := World.alloc_heap_new (((w.alloc A).alloc B).alloc C) D; rwa [World.size_alloc, World.size_alloc, World.size_alloc] at this
theorem four_below (w : World) (A B C D : Obj) : Below w.heap.size w ((((w.alloc A).alloc B).alloc C).alloc D) :=
  ((((Below.refl _ w).alloc (Nat.le_refl _) _).alloc (by simp) _).alloc (by simp; omega) _).alloc (by simp; omega) _
/-- one block has been written; the others lie as they lay -/
structure Touch (g : Nat) (w w' : World) : Prop where
  os : w'.os = w.os
  tape : w'.tape = w.tape
  output : w'.output = w.output
  size : w.heap.size ≤ w'.heap.size
  block : ∀ k, k < w.heap.size → k ≠ g → w'.heap[k]? = w.heap[k]?
theorem Touch.refl (g : Nat) (w : World) : Touch g w w := ⟨rfl, rfl, rfl, Nat.le_refl _, fun _ _ _ => rfl⟩
theorem Touch.trans {g : Nat} {a b c : World} (h : Touch g a b) (k : Touch g b c) : Touch g a c :=
  ⟨k.os.trans h.os, k.tape.trans h.tape, k.output.trans h.output, Nat.le_trans h.size k.size, fun i hi hn => (k.block i (Nat.lt_of_lt_of_le hi h.size) hn).trans (h.block i hi hn)⟩
theorem Touch.drawn {g : Nat} {w w' : World} (h : Drawn0 w w') : Touch g w w' := by
  obtain ⟨m, rfl⟩ := h; exact ⟨rfl, rfl, rfl, Nat.le_refl _, fun _ _ _ => rfl⟩
theorem Touch.drew (g : Nat) (w : World) : Touch g w w.drew := ⟨rfl, rfl, rfl, Nat.le_refl _, fun _ _ _ => rfl⟩
theorem Touch.set (g i : Nat) (w : World) (u : Value) : Touch g w (w.setCell ⟨g, i, none⟩ u) :=
  ⟨rfl, rfl, rfl, by simp [World.setCell], fun k _ hn => Below.heap_setCell w _ u k hn⟩
theorem Touch.below {g n : Nat} {w w' : World} (h : Touch g w w') (hn : n ≤ g) (hs : n ≤ w.heap.size) : Below n w w' :=
  ⟨h.os, h.tape, h.output, h.size, fun k hk => h.block k (by omega) (by omega)⟩
/-- a cell of a block is written -/
theorem blk_set {w : World} {g : Nat} {t : TypeId} {cs : Array Value} (h : w.heap[g]? = some (.cells cs t (0, 0))) (i : Nat) (u : Value) :
    (w.setCell ⟨g, i, none⟩ u).heap[g]? = some (.cells (cs.setIfInBounds i u) t (0, 0)) := by
  obtain ⟨hlt, hk⟩ := Array.getElem?_eq_some_iff.1 h
  show (w.heap.modify g _)[g]? = _
  rw [Array.getElem?_eq_getElem (by rw [Array.size_modify]; exact hlt), Array.getElem_modify_self, hk]
  rfl
theorem w64i {x : Int} (h : -9223372036854775808 ≤ x ∧ x ≤ 9223372036854775807) : wrap64 x = x := by unfold wrap64; omega
/-- a register of the lane: number, products, sums, wraps, least, greatest -/
abbrev Reg := Int × Int × Int × Int × Int × Int
def regAdd (K : IntKind) (s : Reg) (x : Int) : Reg :=
  let n := K.wrap (s.1 + x)
  (n, s.2.1, wrap64 (s.2.2.1 + 1), (if (decide (n < s.1) == decide (x < 0)) = true then s.2.2.2.1 else wrap64 (s.2.2.2.1 + 1)),
    min (if s.2.2.1 = 0 then n else s.2.2.2.2.1) n, max (if s.2.2.1 = 0 then n else s.2.2.2.2.2) n)
def regMul (K : IntKind) (s : Reg) (a b : Int) : Reg :=
  let p := K.wrap (a * b)
  regAdd K (s.1, wrap64 (s.2.1 + 1), s.2.2.1, (if (p == a * b) = true then s.2.2.2.1 else wrap64 (s.2.2.2.1 + 1)), s.2.2.2.2) p
theorem wr64 (x : Int) : wrap64 x = IntKind.i64.wrap x := by rw [IntKind.wrap_i64]; unfold wrap64; omega
theorem drew_cell {w : World} {a : Addr} {v : Value} (h : w.cell? a = some v) : w.drew.cell? a = some v := h
theorem set_far {w : World} {a b : Addr} {u v : Value} (h : w.cell? a = some v) (hne : a.block ≠ b.block) : (w.setCell b u).cell? a = some v := by
  rw [World.cell?_setCell_other]
  · exact h
  · intro e; exact hne (by rw [e])
end Go.Proofs.Ytnbhimgojnclbaa
