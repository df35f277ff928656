-- PRINTED by print.py (a twelfth state) out of the translation. Not trusted: Lean checks it.
import Derived.Test.YtnbhimgojnclbaaCLeWholex0
import Derived.Test.YtnbhimgojnclbaaCLeWholex3
namespace Go.Proofs.Ytnbhimgojnclbaa.CLeWhole
open Go.RowKit Go.Proofs.YtnbhimgojnclbaaW.PrintWords Go.Proofs.YtnbhimgojnclbaaW.PrintLast Go.Proofs.YtnbhimgojnclbaaW.PrintMore
attribute [local go_sem] max2_int min2_int max_two min_two max_three min_three max_four min_four   -- for this text's walks alone
set_option linter.unusedVariables false
set_option linter.unusedSimpArgs false

/-! ### spillwaylaw20_LaneWhole: function 11 -/
mutual
def spillwaylaw20_LaneWhole.j0 : Nat → Int → Int → Bool → List Int → List Int → Int → Int → Int → Int → Int → Int → Int → Int → Int → Int → Int → Int → Option (Bool)
  | 0, _, _, _, _, _, _, _, _, _, _, _, _, _, _, _, _, _ => none
  | k + 1, x3, x5, x42, x132000, x132001, x132002, x132003, x132004, x145000, x145001, x145002, x145003, x145004, x145005, x145006, x145007, x145008 => if x42 = true then (if x5 = 0 then (some ((x132000.length : Int) == (x132001.length : Int))) else (some true)) else (spillwaylaw20_LaneWhole.l0 k x3 (wrap64 (x132004)) (x132000.length : Int) 0 x132000 x132001 x132002 x132003 x132004 x145000 x145001 x145002 x145003 x145004 x145005 x145006 x145007 x145008)
def spillwaylaw20_LaneWhole.l0 : Nat → Int → Int → Int → Int → List Int → List Int → Int → Int → Int → Int → Int → Int → Int → Int → Int → Int → Int → Int → Option (Bool)
  | 0, _, _, _, _, _, _, _, _, _, _, _, _, _, _, _, _, _, _ => none
  | k + 1, x3, x6, x59, x60, x132000, x132001, x132002, x132003, x132004, x145000, x145001, x145002, x145003, x145004, x145005, x145006, x145007, x145008 => if x60 < x59 then (if 0 ≤ x60 then (if x60 < (x132000.length : Int) then (if x60 < (x132001.length : Int) then (spillwaylaw20_LaneWhole.l0 k x3 (wrap64 (x6 + (wrap64 ((wrap64 (rd x132000 x60)) * (wrap64 (rd x132001 x60)))))) x59 (wrap64 (x60 + 1)) x132000 x132001 x132002 x132003 x132004 x145000 x145001 x145002 x145003 x145004 x145005 x145006 x145007 x145008) else (none)) else (none)) else (none)) else (if x132002 = 32 then (if (Int.tmod (wrap64 (x6 - (wrap64 (x3)))) 4294967296) = 0 then (if x145004 = 0 then (if x6 = (wrap64 (x3)) then (if x145004 ≥ 0 then (some (decide (x145004 ≤ (wrap64 ((wrap64 ((wrap64 (x145000 + x145001)) + x145002)) + x145003))))) else (some false)) else (some false)) else (if x145004 ≥ 0 then (some (decide (x145004 ≤ (wrap64 ((wrap64 ((wrap64 (x145000 + x145001)) + x145002)) + x145003))))) else (some false))) else (some false)) else (if (Int.tmod (wrap64 (x6 - (wrap64 (x3)))) 65536) = 0 then (if x145004 = 0 then (if x6 = (wrap64 (x3)) then (if x145004 ≥ 0 then (some (decide (x145004 ≤ (wrap64 ((wrap64 ((wrap64 (x145000 + x145001)) + x145002)) + x145003))))) else (some false)) else (some false)) else (if x145004 ≥ 0 then (some (decide (x145004 ≤ (wrap64 ((wrap64 ((wrap64 (x145000 + x145001)) + x145002)) + x145003))))) else (some false))) else (some false)))
end
def spillwaylaw20_LaneWhole.f (k : Nat) (l0_0 : List Int) (l0_1 : List Int) (a0_2 : Int) (a0_3 : Int) (a0_4 : Int) : Option (Bool) := (spillwaylaw20_fixed.f k).bind fun t132 => (if t132 = true then ((lane_Dot.f k l0_0 l0_1 a0_2 a0_3 a0_4).bind fun bt133 => (if bt133.2.2.2.2.2.2.2.2.2.2 = 0 then (if (l0_0.length : Int) = (l0_1.length : Int) then (spillwaylaw20_LaneWhole.j0 k bt133.1 bt133.2.2.2.2.2.2.2.2.2.2 (decide ((l0_0.length : Int) > 100000)) l0_0 l0_1 a0_2 a0_3 a0_4 bt133.2.1 bt133.2.2.1 bt133.2.2.2.1 bt133.2.2.2.2.1 bt133.2.2.2.2.2.1 bt133.2.2.2.2.2.2.1 bt133.2.2.2.2.2.2.2.1 bt133.2.2.2.2.2.2.2.2.1 bt133.2.2.2.2.2.2.2.2.2.1) else (spillwaylaw20_LaneWhole.j0 k bt133.1 bt133.2.2.2.2.2.2.2.2.2.2 true l0_0 l0_1 a0_2 a0_3 a0_4 bt133.2.1 bt133.2.2.1 bt133.2.2.2.1 bt133.2.2.2.2.1 bt133.2.2.2.2.2.1 bt133.2.2.2.2.2.2.1 bt133.2.2.2.2.2.2.2.1 bt133.2.2.2.2.2.2.2.2.1 bt133.2.2.2.2.2.2.2.2.2.1)) else (spillwaylaw20_LaneWhole.j0 k bt133.1 bt133.2.2.2.2.2.2.2.2.2.2 true l0_0 l0_1 a0_2 a0_3 a0_4 bt133.2.1 bt133.2.2.1 bt133.2.2.2.1 bt133.2.2.2.2.1 bt133.2.2.2.2.2.1 bt133.2.2.2.2.2.2.1 bt133.2.2.2.2.2.2.2.1 bt133.2.2.2.2.2.2.2.2.1 bt133.2.2.2.2.2.2.2.2.2.1))) else (some false))
theorem spillwaylaw20_LaneWhole.mono_l : ∀ k, (∀ y0 y1 y2 y3 y4 y5 y6 y7 y8 y9 y10 y11 y12 y13 y14 y15 y16, LeO (spillwaylaw20_LaneWhole.j0 k y0 y1 y2 y3 y4 y5 y6 y7 y8 y9 y10 y11 y12 y13 y14 y15 y16) (spillwaylaw20_LaneWhole.j0 (k + 1) y0 y1 y2 y3 y4 y5 y6 y7 y8 y9 y10 y11 y12 y13 y14 y15 y16)) ∧ (∀ y0 y1 y2 y3 y4 y5 y6 y7 y8 y9 y10 y11 y12 y13 y14 y15 y16 y17, LeO (spillwaylaw20_LaneWhole.l0 k y0 y1 y2 y3 y4 y5 y6 y7 y8 y9 y10 y11 y12 y13 y14 y15 y16 y17) (spillwaylaw20_LaneWhole.l0 (k + 1) y0 y1 y2 y3 y4 y5 y6 y7 y8 y9 y10 y11 y12 y13 y14 y15 y16 y17))
  | 0 => ⟨fun _ _ _ _ _ _ _ _ _ _ _ _ _ _ _ _ _ r h => by simp [spillwaylaw20_LaneWhole.j0] at h, fun _ _ _ _ _ _ _ _ _ _ _ _ _ _ _ _ _ _ r h => by simp [spillwaylaw20_LaneWhole.l0] at h⟩
  | k + 1 => by
    obtain ⟨ih0, ih1⟩ := spillwaylaw20_LaneWhole.mono_l k
    refine ⟨?_, ?_⟩
    · intro y0 y1 y2 y3 y4 y5 y6 y7 y8 y9 y10 y11 y12 y13 y14 y15 y16
      unfold spillwaylaw20_LaneWhole.j0
      repeat' first
      | (with_reducible exact ih0 _ _ _ _ _ _ _ _ _ _ _ _ _ _ _ _ _)
      | (with_reducible exact ih1 _ _ _ _ _ _ _ _ _ _ _ _ _ _ _ _ _ _)
      | (with_reducible exact lane_Dot.mono _ _ _ _ _ _)
      | (with_reducible exact spillwaylaw20_fixed.mono _)
      | (with_reducible exact LeO.refl _)
      | (with_reducible exact LeO.none _)
      | (with_reducible refine LeO.ite ?_ ?_)
      | (with_reducible refine LeO.bind ?_ (fun _ => ?_))
      | exact ih0 _ _ _ _ _ _ _ _ _ _ _ _ _ _ _ _ _
      | exact ih1 _ _ _ _ _ _ _ _ _ _ _ _ _ _ _ _ _ _
      | exact lane_Dot.mono _ _ _ _ _ _
      | exact spillwaylaw20_fixed.mono _
      | exact LeO.none _
      | refine LeO.ite ?_ ?_
      | refine LeO.bind ?_ (fun _ => ?_)
    · intro y0 y1 y2 y3 y4 y5 y6 y7 y8 y9 y10 y11 y12 y13 y14 y15 y16 y17
      unfold spillwaylaw20_LaneWhole.l0
      repeat' first
      | (with_reducible exact ih0 _ _ _ _ _ _ _ _ _ _ _ _ _ _ _ _ _)
      | (with_reducible exact ih1 _ _ _ _ _ _ _ _ _ _ _ _ _ _ _ _ _ _)
      | (with_reducible exact lane_Dot.mono _ _ _ _ _ _)
      | (with_reducible exact spillwaylaw20_fixed.mono _)
      | (with_reducible exact LeO.refl _)
      | (with_reducible exact LeO.none _)
      | (with_reducible refine LeO.ite ?_ ?_)
      | (with_reducible refine LeO.bind ?_ (fun _ => ?_))
      | exact ih0 _ _ _ _ _ _ _ _ _ _ _ _ _ _ _ _ _
      | exact ih1 _ _ _ _ _ _ _ _ _ _ _ _ _ _ _ _ _ _
      | exact lane_Dot.mono _ _ _ _ _ _
      | exact spillwaylaw20_fixed.mono _
      | exact LeO.none _
      | refine LeO.ite ?_ ?_
      | refine LeO.bind ?_ (fun _ => ?_)
theorem spillwaylaw20_LaneWhole.mono : ∀ a0 a1 a2 a3 a4 k, LeO (spillwaylaw20_LaneWhole.f k a0 a1 a2 a3 a4) (spillwaylaw20_LaneWhole.f (k + 1) a0 a1 a2 a3 a4) := by
  intro a0 a1 a2 a3 a4 k
  obtain ⟨ih0, ih1⟩ := spillwaylaw20_LaneWhole.mono_l k
  unfold spillwaylaw20_LaneWhole.f
  repeat' first
      | (with_reducible exact ih0 _ _ _ _ _ _ _ _ _ _ _ _ _ _ _ _ _)
      | (with_reducible exact ih1 _ _ _ _ _ _ _ _ _ _ _ _ _ _ _ _ _ _)
      | (with_reducible exact lane_Dot.mono _ _ _ _ _ _)
      | (with_reducible exact spillwaylaw20_fixed.mono _)
      | (with_reducible exact LeO.refl _)
      | (with_reducible exact LeO.none _)
      | (with_reducible refine LeO.ite ?_ ?_)
      | (with_reducible refine LeO.bind ?_ (fun _ => ?_))
      | exact ih0 _ _ _ _ _ _ _ _ _ _ _ _ _ _ _ _ _
      | exact ih1 _ _ _ _ _ _ _ _ _ _ _ _ _ _ _ _ _ _
      | exact lane_Dot.mono _ _ _ _ _ _
      | exact spillwaylaw20_fixed.mono _
      | exact LeO.none _
      | refine LeO.ite ?_ ?_
      | refine LeO.bind ?_ (fun _ => ?_)
set_option maxHeartbeats 8000000 in
set_option maxRecDepth 100000 in
theorem spillwaylaw20_LaneWhole.calls (k : Nat) (A0_0 : Option Addr) (c0_0 : Nat) (l0_0 : List Int) (A0_1 : Option Addr) (c0_1 : Nat) (l0_1 : List Int) (a0_2 : Int) (a0_3 : Int) (a0_4 : Int) (r : Bool) (w : World) (hr0_0 : Kd.C (Kd.int .i16) w A0_0 l0_0.length l0_0) (hc0_0 : l0_0.length ≤ c0_0) (hr0_1 : Kd.C (Kd.int .i8) w A0_1 l0_1.length l0_1) (hc0_1 : l0_1.length ≤ c0_1) (hrt : r = true) (h : spillwaylaw20_LaneWhole.f k l0_0 l0_1 a0_2 a0_3 a0_4 = some r) :
    Calls Try.prog 11 #[.agg #[.slice A0_0 l0_0.length c0_0, .slice A0_1 l0_1.length c0_1, .int .i64 a0_2, .int .i64 a0_3, .int .i32 a0_4]] w fun e w' => e = .returned (.bool r) ∧ Below w.heap.size w w' := by
  have hu70 := Try.underlying70
  have hu76 := Try.underlying76
  have HR0_0 := Aside0.mk hr0_0
  have HC0_0 := Aside0.mk hc0_0
  clear hr0_0 hc0_0
  have HR0_1 := Aside0.mk hr0_1
  have HC0_1 := Aside0.mk hc0_1
  clear hr0_1 hc0_1
  have HB := Aside0.mk (Below.refl w.heap.size w)
  have H : ((spillwaylaw20_fixed.f k).bind fun t132 => (if t132 = true then ((lane_Dot.f k l0_0 l0_1 a0_2 a0_3 a0_4).bind fun bt133 => (if bt133.2.2.2.2.2.2.2.2.2.2 = 0 then (if (l0_0.length : Int) = (l0_1.length : Int) then (spillwaylaw20_LaneWhole.j0 k bt133.1 bt133.2.2.2.2.2.2.2.2.2.2 (decide ((l0_0.length : Int) > 100000)) l0_0 l0_1 a0_2 a0_3 a0_4 bt133.2.1 bt133.2.2.1 bt133.2.2.2.1 bt133.2.2.2.2.1 bt133.2.2.2.2.2.1 bt133.2.2.2.2.2.2.1 bt133.2.2.2.2.2.2.2.1 bt133.2.2.2.2.2.2.2.2.1 bt133.2.2.2.2.2.2.2.2.2.1) else (spillwaylaw20_LaneWhole.j0 k bt133.1 bt133.2.2.2.2.2.2.2.2.2.2 true l0_0 l0_1 a0_2 a0_3 a0_4 bt133.2.1 bt133.2.2.1 bt133.2.2.2.1 bt133.2.2.2.2.1 bt133.2.2.2.2.2.1 bt133.2.2.2.2.2.2.1 bt133.2.2.2.2.2.2.2.1 bt133.2.2.2.2.2.2.2.2.1 bt133.2.2.2.2.2.2.2.2.2.1)) else (spillwaylaw20_LaneWhole.j0 k bt133.1 bt133.2.2.2.2.2.2.2.2.2.2 true l0_0 l0_1 a0_2 a0_3 a0_4 bt133.2.1 bt133.2.2.1 bt133.2.2.2.1 bt133.2.2.2.2.1 bt133.2.2.2.2.2.1 bt133.2.2.2.2.2.2.1 bt133.2.2.2.2.2.2.2.1 bt133.2.2.2.2.2.2.2.2.1 bt133.2.2.2.2.2.2.2.2.2.1))) else (some false))) = some r := h
  clear h
  have HRT := Aside0.mk hrt
  clear hrt
  replace H := Option.bind_eq_some_iff.mp H
  obtain ⟨t132, A20, H⟩ := H
  replace H : (if t132 = true then ((lane_Dot.f k l0_0 l0_1 a0_2 a0_3 a0_4).bind fun bt133 => (if bt133.2.2.2.2.2.2.2.2.2.2 = 0 then (if (l0_0.length : Int) = (l0_1.length : Int) then (spillwaylaw20_LaneWhole.j0 k bt133.1 bt133.2.2.2.2.2.2.2.2.2.2 (decide ((l0_0.length : Int) > 100000)) l0_0 l0_1 a0_2 a0_3 a0_4 bt133.2.1 bt133.2.2.1 bt133.2.2.2.1 bt133.2.2.2.2.1 bt133.2.2.2.2.2.1 bt133.2.2.2.2.2.2.1 bt133.2.2.2.2.2.2.2.1 bt133.2.2.2.2.2.2.2.2.1 bt133.2.2.2.2.2.2.2.2.2.1) else (spillwaylaw20_LaneWhole.j0 k bt133.1 bt133.2.2.2.2.2.2.2.2.2.2 true l0_0 l0_1 a0_2 a0_3 a0_4 bt133.2.1 bt133.2.2.1 bt133.2.2.2.1 bt133.2.2.2.2.1 bt133.2.2.2.2.2.1 bt133.2.2.2.2.2.2.1 bt133.2.2.2.2.2.2.2.1 bt133.2.2.2.2.2.2.2.2.1 bt133.2.2.2.2.2.2.2.2.2.1)) else (spillwaylaw20_LaneWhole.j0 k bt133.1 bt133.2.2.2.2.2.2.2.2.2.2 true l0_0 l0_1 a0_2 a0_3 a0_4 bt133.2.1 bt133.2.2.1 bt133.2.2.2.1 bt133.2.2.2.2.1 bt133.2.2.2.2.2.1 bt133.2.2.2.2.2.2.1 bt133.2.2.2.2.2.2.2.1 bt133.2.2.2.2.2.2.2.2.1 bt133.2.2.2.2.2.2.2.2.2.1))) else (some false)) = some r := H
  have A2 := Aside0.mk A20
  clear A20
  by_cases c3 : t132 = true
  · subst c3
    have H1 : ((lane_Dot.f k l0_0 l0_1 a0_2 a0_3 a0_4).bind fun bt133 => (if bt133.2.2.2.2.2.2.2.2.2.2 = 0 then (if (l0_0.length : Int) = (l0_1.length : Int) then (spillwaylaw20_LaneWhole.j0 k bt133.1 bt133.2.2.2.2.2.2.2.2.2.2 (decide ((l0_0.length : Int) > 100000)) l0_0 l0_1 a0_2 a0_3 a0_4 bt133.2.1 bt133.2.2.1 bt133.2.2.2.1 bt133.2.2.2.2.1 bt133.2.2.2.2.2.1 bt133.2.2.2.2.2.2.1 bt133.2.2.2.2.2.2.2.1 bt133.2.2.2.2.2.2.2.2.1 bt133.2.2.2.2.2.2.2.2.2.1) else (spillwaylaw20_LaneWhole.j0 k bt133.1 bt133.2.2.2.2.2.2.2.2.2.2 true l0_0 l0_1 a0_2 a0_3 a0_4 bt133.2.1 bt133.2.2.1 bt133.2.2.2.1 bt133.2.2.2.2.1 bt133.2.2.2.2.2.1 bt133.2.2.2.2.2.2.1 bt133.2.2.2.2.2.2.2.1 bt133.2.2.2.2.2.2.2.2.1 bt133.2.2.2.2.2.2.2.2.2.1)) else (spillwaylaw20_LaneWhole.j0 k bt133.1 bt133.2.2.2.2.2.2.2.2.2.2 true l0_0 l0_1 a0_2 a0_3 a0_4 bt133.2.1 bt133.2.2.1 bt133.2.2.2.1 bt133.2.2.2.2.1 bt133.2.2.2.2.2.1 bt133.2.2.2.2.2.2.1 bt133.2.2.2.2.2.2.2.1 bt133.2.2.2.2.2.2.2.2.1 bt133.2.2.2.2.2.2.2.2.2.1))) = some r := by rw [if_pos rfl] at H; exact H
    clear H
    have H := H1
    clear H1
    replace H := Option.bind_eq_some_iff.mp H
    obtain ⟨⟨t133, t134, t135, t136, t137, t138, t139, t140, t141, t142, t143⟩, A40, H⟩ := H
    replace H : (if t143 = 0 then (if (l0_0.length : Int) = (l0_1.length : Int) then (spillwaylaw20_LaneWhole.j0 k t133 t143 (decide ((l0_0.length : Int) > 100000)) l0_0 l0_1 a0_2 a0_3 a0_4 t134 t135 t136 t137 t138 t139 t140 t141 t142) else (spillwaylaw20_LaneWhole.j0 k t133 t143 true l0_0 l0_1 a0_2 a0_3 a0_4 t134 t135 t136 t137 t138 t139 t140 t141 t142)) else (spillwaylaw20_LaneWhole.j0 k t133 t143 true l0_0 l0_1 a0_2 a0_3 a0_4 t134 t135 t136 t137 t138 t139 t140 t141 t142)) = some r := H
    have A4 := Aside0.mk A40
    clear A40
    have HC5 := Aside0.mk H
    clear H
    go_enter Try.func11, Try.ntmps11
    go_upto_region 4 with (first | ((with_reducible refine gate_dst (N := 1) rfl ?_); (try (refine gate_guard (by rfl) ?_; dsimp only)); refine box_event ?hg (N := 1) ?hd (cs := #[.slice A0_0 l0_0.length c0_0, .slice A0_1 l0_1.length c0_1, .int .i64 a0_2, .int .i64 a0_3, .int .i32 a0_4]) (t := 70) ?hr ?_; (case hd => rfl); (case hg => rfl); (case hr => first | (go_simp; done) | (go_simp; rfl)); intro gb131 hg w6 hbox hb; have n0_ := Aside0.mk (below_step (by repeat (first | (with_reducible first | exact HB.out | apply below_alloc | apply pw_below_drewN | apply below_drew1) | exact HB.out)) hb); have n1_ := Aside0.mk (hbox); have n2_ := Aside0.mk ((by rw [hg]; exact (below_size (by repeat (first | (with_reducible first | exact HB.out | apply below_alloc | apply pw_below_drewN | apply below_drew1) | exact HB.out))) : w.heap.size ≤ gb131)); have n3_ := Aside0.mk ((by rw [hg]; exact (below_size (by repeat (first | (with_reducible first | exact HB.out | apply below_alloc | apply pw_below_drewN | apply below_drew1) | exact HB.out))) : w.heap.size ≤ gb131)); clear HB; have HB := n0_; have BK131 := n1_; have GW131 := n2_; have GE131 := n3_; clear n0_ n1_ n2_ n3_; clear hb hbox hg) | (go_at_call 33; (with_reducible refine (spillwaylaw20_fixed.calls k  true _ A2.out).mono ?_); rintro e w7 ⟨rfl, hb⟩; have n0_ := Aside0.mk (blk_below (g := gb131) (o := .cells #[.slice A0_0 l0_0.length c0_0, .slice A0_1 l0_1.length c0_1, .int .i64 a0_2, .int .i64 a0_3, .int .i32 a0_4] 70 (0, 0)) (by (with_reducible repeat (first | refine blk_drewN ?_ _ | refine blk_drew ?_ | refine blk_alloc ?_ _)); exact BK131.out) hb); have n1_ := Aside0.mk (below_step (by repeat (first | (with_reducible first | exact HB.out | apply below_alloc | apply pw_below_drewN | apply below_drew1 | refine below_set ?_ GE131.out) | exact HB.out)) hb); clear BK131; clear HB; have BK131 := n0_; have HB := n1_; clear n0_ n1_; (try clear hb); (try clear hb2); (try clear hk); (try clear hi); have hcz8_0 : w7.cell? ⟨gb131, 0, none⟩ = some (.slice A0_0 l0_0.length c0_0) := (blk_cell BK131.out 0).trans rfl; have hcz8_1 : w7.cell? ⟨gb131, 1, none⟩ = some (.slice A0_1 l0_1.length c0_1) := (blk_cell BK131.out 1).trans rfl; have hcz8_2 : w7.cell? ⟨gb131, 2, none⟩ = some (.int .i64 a0_2) := (blk_cell BK131.out 2).trans rfl; have hcz8_3 : w7.cell? ⟨gb131, 3, none⟩ = some (.int .i64 a0_3) := (blk_cell BK131.out 3).trans rfl; have hcz8_4 : w7.cell? ⟨gb131, 4, none⟩ = some (.int .i32 a0_4) := (blk_cell BK131.out 4).trans rfl; have hfz8_0 := blk_frozen BK131.out 0; have hfz8_1 := blk_frozen BK131.out 1; have hfz8_2 := blk_frozen BK131.out 2; have hfz8_3 := blk_frozen BK131.out 3; have hfz8_4 := blk_frozen BK131.out 4) | (go_at_call 38; (with_reducible refine (lane_Dot.calls k _ _ l0_0 _ _ l0_1 a0_2 a0_3 a0_4 t133 t134 t135 t136 t137 t138 t139 t140 t141 t142 t143 _ ?side1 ?side2 ?side3 ?side4 A4.out).mono ?_); (case side1 => repeat (first | exact (Kd.C_below HR0_0.out HB.out) | (with_reducible refine Kd.C_alloc ?_ _) | (with_reducible refine Kd.C_drewN ?_ _) | (with_reducible refine Kd.C_drew ?_))); (case side2 => exact HC0_0.out); (case side3 => repeat (first | exact (Kd.C_below HR0_1.out HB.out) | (with_reducible refine Kd.C_alloc ?_ _) | (with_reducible refine Kd.C_drewN ?_ _) | (with_reducible refine Kd.C_drew ?_))); (case side4 => exact HC0_1.out); rintro e w9 ⟨rfl, hb⟩; have n0_ := Aside0.mk (blk_below (g := gb131) (o := .cells #[.slice A0_0 l0_0.length c0_0, .slice A0_1 l0_1.length c0_1, .int .i64 a0_2, .int .i64 a0_3, .int .i32 a0_4] 70 (0, 0)) (by (with_reducible repeat (first | refine blk_drewN ?_ _ | refine blk_drew ?_ | refine blk_alloc ?_ _)); exact BK131.out) hb); have n1_ := Aside0.mk (below_step (by repeat (first | (with_reducible first | exact HB.out | apply below_alloc | apply pw_below_drewN | apply below_drew1 | refine below_set ?_ GE131.out) | exact HB.out)) hb); clear BK131; clear HB; have BK131 := n0_; have HB := n1_; clear n0_ n1_; (try clear hb); (try clear hb2); (try clear hk); (try clear hi)) | ((with_reducible refine gate_dst (N := 4) rfl ?_); (try (refine gate_guard (by rfl) ?_; dsimp only)); refine box_event ?hg (N := 4) ?hd (cs := #[.int .i64 0, .int .i64 0, .int .i64 0, .int .i64 0, .int .i64 0, .int .i64 0, .int .i64 0, .int .i64 0, .int .i64 0]) (t := 76) ?hr ?_; (case hd => rfl); (case hg => rfl); (case hr => first | (go_simp; done) | (go_simp; rfl)); intro gb144 hg w10 hbox hb; have n0_ := Aside0.mk (blk_below (g := gb131) (o := .cells #[.slice A0_0 l0_0.length c0_0, .slice A0_1 l0_1.length c0_1, .int .i64 a0_2, .int .i64 a0_3, .int .i32 a0_4] 70 (0, 0)) (by (with_reducible repeat (first | refine blk_drewN ?_ _ | refine blk_drew ?_ | refine blk_alloc ?_ _)); exact BK131.out) hb); have n1_ := Aside0.mk (below_step (by repeat (first | (with_reducible first | exact HB.out | apply below_alloc | apply pw_below_drewN | apply below_drew1 | refine below_set ?_ GE131.out) | exact HB.out)) hb); have n2_ := Aside0.mk (hbox); have n3_ := Aside0.mk ((by rw [hg]; exact (below_size (by repeat (first | (with_reducible first | exact HB.out | apply below_alloc | apply pw_below_drewN | apply below_drew1 | refine below_set ?_ GE131.out) | exact HB.out))) : w.heap.size ≤ gb144)); have n4_ := Aside0.mk ((by rw [hg]; exact (below_size (by repeat (first | (with_reducible first | exact HB.out | apply below_alloc | apply pw_below_drewN | apply below_drew1 | refine below_set ?_ GE131.out) | exact HB.out))) : w.heap.size ≤ gb144)); have n5_ := Aside0.mk ((by rw [hg]; exact Nat.ne_of_lt (blk_lt (g := gb131) (o := .cells #[.slice A0_0 l0_0.length c0_0, .slice A0_1 l0_1.length c0_1, .int .i64 a0_2, .int .i64 a0_3, .int .i32 a0_4] 70 (0, 0)) (by (with_reducible repeat (first | refine blk_drewN ?_ _ | refine blk_drew ?_ | refine blk_alloc ?_ _)); exact BK131.out)) : gb131 ≠ gb144)); have n6_ := Aside0.mk ((by rw [hg]; exact Nat.ne_of_gt (blk_lt (g := gb131) (o := .cells #[.slice A0_0 l0_0.length c0_0, .slice A0_1 l0_1.length c0_1, .int .i64 a0_2, .int .i64 a0_3, .int .i32 a0_4] 70 (0, 0)) (by (with_reducible repeat (first | refine blk_drewN ?_ _ | refine blk_drew ?_ | refine blk_alloc ?_ _)); exact BK131.out)) : gb144 ≠ gb131)); clear BK131; clear HB; have BK131 := n0_; have HB := n1_; have BK144 := n2_; have GW144 := n3_; have GE144 := n4_; have NB131_144 := n5_; have NB144_131 := n6_; clear n0_ n1_ n2_ n3_ n4_ n5_ n6_; clear hb hbox hg; have hnb11 := NB144_131.out; have hnc11 := NB131_144.out; have hcz12_0 : w10.cell? ⟨gb144, 0, none⟩ = some (.int .i64 0) := (blk_cell BK144.out 0).trans rfl; have hcz12_1 : w10.cell? ⟨gb144, 1, none⟩ = some (.int .i64 0) := (blk_cell BK144.out 1).trans rfl; have hcz12_2 : w10.cell? ⟨gb144, 2, none⟩ = some (.int .i64 0) := (blk_cell BK144.out 2).trans rfl; have hcz12_3 : w10.cell? ⟨gb144, 3, none⟩ = some (.int .i64 0) := (blk_cell BK144.out 3).trans rfl; have hcz12_4 : w10.cell? ⟨gb144, 4, none⟩ = some (.int .i64 0) := (blk_cell BK144.out 4).trans rfl; have hcz12_5 : w10.cell? ⟨gb144, 5, none⟩ = some (.int .i64 0) := (blk_cell BK144.out 5).trans rfl; have hcz12_6 : w10.cell? ⟨gb144, 6, none⟩ = some (.int .i64 0) := (blk_cell BK144.out 6).trans rfl; have hcz12_7 : w10.cell? ⟨gb144, 7, none⟩ = some (.int .i64 0) := (blk_cell BK144.out 7).trans rfl; have hcz12_8 : w10.cell? ⟨gb144, 8, none⟩ = some (.int .i64 0) := (blk_cell BK144.out 8).trans rfl; have hfz12_0 := blk_frozen BK144.out 0; have hfz12_1 := blk_frozen BK144.out 1; have hfz12_2 := blk_frozen BK144.out 2; have hfz12_3 := blk_frozen BK144.out 3; have hfz12_4 := blk_frozen BK144.out 4; have hfz12_5 := blk_frozen BK144.out 5; have hfz12_6 := blk_frozen BK144.out 6; have hfz12_7 := blk_frozen BK144.out 7; have hfz12_8 := blk_frozen BK144.out 8))
    repeat (go_quiet (first | ((with_reducible refine gate_dst (N := 1) rfl ?_); (try (refine gate_guard (by rfl) ?_; dsimp only)); refine box_event ?hg (N := 1) ?hd (cs := #[.slice A0_0 l0_0.length c0_0, .slice A0_1 l0_1.length c0_1, .int .i64 a0_2, .int .i64 a0_3, .int .i32 a0_4]) (t := 70) ?hr ?_; (case hd => rfl); (case hg => rfl); (case hr => first | (go_simp; done) | (go_simp; rfl)); intro gb131 hg w6 hbox hb; have n0_ := Aside0.mk (below_step (by repeat (first | (with_reducible first | exact HB.out | apply below_alloc | apply pw_below_drewN | apply below_drew1) | exact HB.out)) hb); have n1_ := Aside0.mk (hbox); have n2_ := Aside0.mk ((by rw [hg]; exact (below_size (by repeat (first | (with_reducible first | exact HB.out | apply below_alloc | apply pw_below_drewN | apply below_drew1) | exact HB.out))) : w.heap.size ≤ gb131)); have n3_ := Aside0.mk ((by rw [hg]; exact (below_size (by repeat (first | (with_reducible first | exact HB.out | apply below_alloc | apply pw_below_drewN | apply below_drew1) | exact HB.out))) : w.heap.size ≤ gb131)); clear HB; have HB := n0_; have BK131 := n1_; have GW131 := n2_; have GE131 := n3_; clear n0_ n1_ n2_ n3_; clear hb hbox hg) | (go_at_call 33; (with_reducible refine (spillwaylaw20_fixed.calls k  true _ A2.out).mono ?_); rintro e w7 ⟨rfl, hb⟩; have n0_ := Aside0.mk (blk_below (g := gb131) (o := .cells #[.slice A0_0 l0_0.length c0_0, .slice A0_1 l0_1.length c0_1, .int .i64 a0_2, .int .i64 a0_3, .int .i32 a0_4] 70 (0, 0)) (by (with_reducible repeat (first | refine blk_drewN ?_ _ | refine blk_drew ?_ | refine blk_alloc ?_ _)); exact BK131.out) hb); have n1_ := Aside0.mk (below_step (by repeat (first | (with_reducible first | exact HB.out | apply below_alloc | apply pw_below_drewN | apply below_drew1 | refine below_set ?_ GE131.out) | exact HB.out)) hb); clear BK131; clear HB; have BK131 := n0_; have HB := n1_; clear n0_ n1_; (try clear hb); (try clear hb2); (try clear hk); (try clear hi); have hcz8_0 : w7.cell? ⟨gb131, 0, none⟩ = some (.slice A0_0 l0_0.length c0_0) := (blk_cell BK131.out 0).trans rfl; have hcz8_1 : w7.cell? ⟨gb131, 1, none⟩ = some (.slice A0_1 l0_1.length c0_1) := (blk_cell BK131.out 1).trans rfl; have hcz8_2 : w7.cell? ⟨gb131, 2, none⟩ = some (.int .i64 a0_2) := (blk_cell BK131.out 2).trans rfl; have hcz8_3 : w7.cell? ⟨gb131, 3, none⟩ = some (.int .i64 a0_3) := (blk_cell BK131.out 3).trans rfl; have hcz8_4 : w7.cell? ⟨gb131, 4, none⟩ = some (.int .i32 a0_4) := (blk_cell BK131.out 4).trans rfl; have hfz8_0 := blk_frozen BK131.out 0; have hfz8_1 := blk_frozen BK131.out 1; have hfz8_2 := blk_frozen BK131.out 2; have hfz8_3 := blk_frozen BK131.out 3; have hfz8_4 := blk_frozen BK131.out 4) | (go_at_call 38; (with_reducible refine (lane_Dot.calls k _ _ l0_0 _ _ l0_1 a0_2 a0_3 a0_4 t133 t134 t135 t136 t137 t138 t139 t140 t141 t142 t143 _ ?side1 ?side2 ?side3 ?side4 A4.out).mono ?_); (case side1 => repeat (first | exact (Kd.C_below HR0_0.out HB.out) | (with_reducible refine Kd.C_alloc ?_ _) | (with_reducible refine Kd.C_drewN ?_ _) | (with_reducible refine Kd.C_drew ?_))); (case side2 => exact HC0_0.out); (case side3 => repeat (first | exact (Kd.C_below HR0_1.out HB.out) | (with_reducible refine Kd.C_alloc ?_ _) | (with_reducible refine Kd.C_drewN ?_ _) | (with_reducible refine Kd.C_drew ?_))); (case side4 => exact HC0_1.out); rintro e w9 ⟨rfl, hb⟩; have n0_ := Aside0.mk (blk_below (g := gb131) (o := .cells #[.slice A0_0 l0_0.length c0_0, .slice A0_1 l0_1.length c0_1, .int .i64 a0_2, .int .i64 a0_3, .int .i32 a0_4] 70 (0, 0)) (by (with_reducible repeat (first | refine blk_drewN ?_ _ | refine blk_drew ?_ | refine blk_alloc ?_ _)); exact BK131.out) hb); have n1_ := Aside0.mk (below_step (by repeat (first | (with_reducible first | exact HB.out | apply below_alloc | apply pw_below_drewN | apply below_drew1 | refine below_set ?_ GE131.out) | exact HB.out)) hb); clear BK131; clear HB; have BK131 := n0_; have HB := n1_; clear n0_ n1_; (try clear hb); (try clear hb2); (try clear hk); (try clear hi)) | ((with_reducible refine gate_dst (N := 4) rfl ?_); (try (refine gate_guard (by rfl) ?_; dsimp only)); refine box_event ?hg (N := 4) ?hd (cs := #[.int .i64 0, .int .i64 0, .int .i64 0, .int .i64 0, .int .i64 0, .int .i64 0, .int .i64 0, .int .i64 0, .int .i64 0]) (t := 76) ?hr ?_; (case hd => rfl); (case hg => rfl); (case hr => first | (go_simp; done) | (go_simp; rfl)); intro gb144 hg w10 hbox hb; have n0_ := Aside0.mk (blk_below (g := gb131) (o := .cells #[.slice A0_0 l0_0.length c0_0, .slice A0_1 l0_1.length c0_1, .int .i64 a0_2, .int .i64 a0_3, .int .i32 a0_4] 70 (0, 0)) (by (with_reducible repeat (first | refine blk_drewN ?_ _ | refine blk_drew ?_ | refine blk_alloc ?_ _)); exact BK131.out) hb); have n1_ := Aside0.mk (below_step (by repeat (first | (with_reducible first | exact HB.out | apply below_alloc | apply pw_below_drewN | apply below_drew1 | refine below_set ?_ GE131.out) | exact HB.out)) hb); have n2_ := Aside0.mk (hbox); have n3_ := Aside0.mk ((by rw [hg]; exact (below_size (by repeat (first | (with_reducible first | exact HB.out | apply below_alloc | apply pw_below_drewN | apply below_drew1 | refine below_set ?_ GE131.out) | exact HB.out))) : w.heap.size ≤ gb144)); have n4_ := Aside0.mk ((by rw [hg]; exact (below_size (by repeat (first | (with_reducible first | exact HB.out | apply below_alloc | apply pw_below_drewN | apply below_drew1 | refine below_set ?_ GE131.out) | exact HB.out))) : w.heap.size ≤ gb144)); have n5_ := Aside0.mk ((by rw [hg]; exact Nat.ne_of_lt (blk_lt (g := gb131) (o := .cells #[.slice A0_0 l0_0.length c0_0, .slice A0_1 l0_1.length c0_1, .int .i64 a0_2, .int .i64 a0_3, .int .i32 a0_4] 70 (0, 0)) (by (with_reducible repeat (first | refine blk_drewN ?_ _ | refine blk_drew ?_ | refine blk_alloc ?_ _)); exact BK131.out)) : gb131 ≠ gb144)); have n6_ := Aside0.mk ((by rw [hg]; exact Nat.ne_of_gt (blk_lt (g := gb131) (o := .cells #[.slice A0_0 l0_0.length c0_0, .slice A0_1 l0_1.length c0_1, .int .i64 a0_2, .int .i64 a0_3, .int .i32 a0_4] 70 (0, 0)) (by (with_reducible repeat (first | refine blk_drewN ?_ _ | refine blk_drew ?_ | refine blk_alloc ?_ _)); exact BK131.out)) : gb144 ≠ gb131)); clear BK131; clear HB; have BK131 := n0_; have HB := n1_; have BK144 := n2_; have GW144 := n3_; have GE144 := n4_; have NB131_144 := n5_; have NB144_131 := n6_; clear n0_ n1_ n2_ n3_ n4_ n5_ n6_; clear hb hbox hg; have hnb11 := NB144_131.out; have hnc11 := NB131_144.out; have hcz12_0 : w10.cell? ⟨gb144, 0, none⟩ = some (.int .i64 0) := (blk_cell BK144.out 0).trans rfl; have hcz12_1 : w10.cell? ⟨gb144, 1, none⟩ = some (.int .i64 0) := (blk_cell BK144.out 1).trans rfl; have hcz12_2 : w10.cell? ⟨gb144, 2, none⟩ = some (.int .i64 0) := (blk_cell BK144.out 2).trans rfl; have hcz12_3 : w10.cell? ⟨gb144, 3, none⟩ = some (.int .i64 0) := (blk_cell BK144.out 3).trans rfl; have hcz12_4 : w10.cell? ⟨gb144, 4, none⟩ = some (.int .i64 0) := (blk_cell BK144.out 4).trans rfl; have hcz12_5 : w10.cell? ⟨gb144, 5, none⟩ = some (.int .i64 0) := (blk_cell BK144.out 5).trans rfl; have hcz12_6 : w10.cell? ⟨gb144, 6, none⟩ = some (.int .i64 0) := (blk_cell BK144.out 6).trans rfl; have hcz12_7 : w10.cell? ⟨gb144, 7, none⟩ = some (.int .i64 0) := (blk_cell BK144.out 7).trans rfl; have hcz12_8 : w10.cell? ⟨gb144, 8, none⟩ = some (.int .i64 0) := (blk_cell BK144.out 8).trans rfl; have hfz12_0 := blk_frozen BK144.out 0; have hfz12_1 := blk_frozen BK144.out 1; have hfz12_2 := blk_frozen BK144.out 2; have hfz12_3 := blk_frozen BK144.out 3; have hfz12_4 := blk_frozen BK144.out 4; have hfz12_5 := blk_frozen BK144.out 5; have hfz12_6 := blk_frozen BK144.out 6; have hfz12_7 := blk_frozen BK144.out 7; have hfz12_8 := blk_frozen BK144.out 8)); go_upto_region 4 with (first | ((with_reducible refine gate_dst (N := 1) rfl ?_); (try (refine gate_guard (by rfl) ?_; dsimp only)); refine box_event ?hg (N := 1) ?hd (cs := #[.slice A0_0 l0_0.length c0_0, .slice A0_1 l0_1.length c0_1, .int .i64 a0_2, .int .i64 a0_3, .int .i32 a0_4]) (t := 70) ?hr ?_; (case hd => rfl); (case hg => rfl); (case hr => first | (go_simp; done) | (go_simp; rfl)); intro gb131 hg w6 hbox hb; have n0_ := Aside0.mk (below_step (by repeat (first | (with_reducible first | exact HB.out | apply below_alloc | apply pw_below_drewN | apply below_drew1) | exact HB.out)) hb); have n1_ := Aside0.mk (hbox); have n2_ := Aside0.mk ((by rw [hg]; exact (below_size (by repeat (first | (with_reducible first | exact HB.out | apply below_alloc | apply pw_below_drewN | apply below_drew1) | exact HB.out))) : w.heap.size ≤ gb131)); have n3_ := Aside0.mk ((by rw [hg]; exact (below_size (by repeat (first | (with_reducible first | exact HB.out | apply below_alloc | apply pw_below_drewN | apply below_drew1) | exact HB.out))) : w.heap.size ≤ gb131)); clear HB; have HB := n0_; have BK131 := n1_; have GW131 := n2_; have GE131 := n3_; clear n0_ n1_ n2_ n3_; clear hb hbox hg) | (go_at_call 33; (with_reducible refine (spillwaylaw20_fixed.calls k  true _ A2.out).mono ?_); rintro e w7 ⟨rfl, hb⟩; have n0_ := Aside0.mk (blk_below (g := gb131) (o := .cells #[.slice A0_0 l0_0.length c0_0, .slice A0_1 l0_1.length c0_1, .int .i64 a0_2, .int .i64 a0_3, .int .i32 a0_4] 70 (0, 0)) (by (with_reducible repeat (first | refine blk_drewN ?_ _ | refine blk_drew ?_ | refine blk_alloc ?_ _)); exact BK131.out) hb); have n1_ := Aside0.mk (below_step (by repeat (first | (with_reducible first | exact HB.out | apply below_alloc | apply pw_below_drewN | apply below_drew1 | refine below_set ?_ GE131.out) | exact HB.out)) hb); clear BK131; clear HB; have BK131 := n0_; have HB := n1_; clear n0_ n1_; (try clear hb); (try clear hb2); (try clear hk); (try clear hi); have hcz8_0 : w7.cell? ⟨gb131, 0, none⟩ = some (.slice A0_0 l0_0.length c0_0) := (blk_cell BK131.out 0).trans rfl; have hcz8_1 : w7.cell? ⟨gb131, 1, none⟩ = some (.slice A0_1 l0_1.length c0_1) := (blk_cell BK131.out 1).trans rfl; have hcz8_2 : w7.cell? ⟨gb131, 2, none⟩ = some (.int .i64 a0_2) := (blk_cell BK131.out 2).trans rfl; have hcz8_3 : w7.cell? ⟨gb131, 3, none⟩ = some (.int .i64 a0_3) := (blk_cell BK131.out 3).trans rfl; have hcz8_4 : w7.cell? ⟨gb131, 4, none⟩ = some (.int .i32 a0_4) := (blk_cell BK131.out 4).trans rfl; have hfz8_0 := blk_frozen BK131.out 0; have hfz8_1 := blk_frozen BK131.out 1; have hfz8_2 := blk_frozen BK131.out 2; have hfz8_3 := blk_frozen BK131.out 3; have hfz8_4 := blk_frozen BK131.out 4) | (go_at_call 38; (with_reducible refine (lane_Dot.calls k _ _ l0_0 _ _ l0_1 a0_2 a0_3 a0_4 t133 t134 t135 t136 t137 t138 t139 t140 t141 t142 t143 _ ?side1 ?side2 ?side3 ?side4 A4.out).mono ?_); (case side1 => repeat (first | exact (Kd.C_below HR0_0.out HB.out) | (with_reducible refine Kd.C_alloc ?_ _) | (with_reducible refine Kd.C_drewN ?_ _) | (with_reducible refine Kd.C_drew ?_))); (case side2 => exact HC0_0.out); (case side3 => repeat (first | exact (Kd.C_below HR0_1.out HB.out) | (with_reducible refine Kd.C_alloc ?_ _) | (with_reducible refine Kd.C_drewN ?_ _) | (with_reducible refine Kd.C_drew ?_))); (case side4 => exact HC0_1.out); rintro e w9 ⟨rfl, hb⟩; have n0_ := Aside0.mk (blk_below (g := gb131) (o := .cells #[.slice A0_0 l0_0.length c0_0, .slice A0_1 l0_1.length c0_1, .int .i64 a0_2, .int .i64 a0_3, .int .i32 a0_4] 70 (0, 0)) (by (with_reducible repeat (first | refine blk_drewN ?_ _ | refine blk_drew ?_ | refine blk_alloc ?_ _)); exact BK131.out) hb); have n1_ := Aside0.mk (below_step (by repeat (first | (with_reducible first | exact HB.out | apply below_alloc | apply pw_below_drewN | apply below_drew1 | refine below_set ?_ GE131.out) | exact HB.out)) hb); clear BK131; clear HB; have BK131 := n0_; have HB := n1_; clear n0_ n1_; (try clear hb); (try clear hb2); (try clear hk); (try clear hi)) | ((with_reducible refine gate_dst (N := 4) rfl ?_); (try (refine gate_guard (by rfl) ?_; dsimp only)); refine box_event ?hg (N := 4) ?hd (cs := #[.int .i64 0, .int .i64 0, .int .i64 0, .int .i64 0, .int .i64 0, .int .i64 0, .int .i64 0, .int .i64 0, .int .i64 0]) (t := 76) ?hr ?_; (case hd => rfl); (case hg => rfl); (case hr => first | (go_simp; done) | (go_simp; rfl)); intro gb144 hg w10 hbox hb; have n0_ := Aside0.mk (blk_below (g := gb131) (o := .cells #[.slice A0_0 l0_0.length c0_0, .slice A0_1 l0_1.length c0_1, .int .i64 a0_2, .int .i64 a0_3, .int .i32 a0_4] 70 (0, 0)) (by (with_reducible repeat (first | refine blk_drewN ?_ _ | refine blk_drew ?_ | refine blk_alloc ?_ _)); exact BK131.out) hb); have n1_ := Aside0.mk (below_step (by repeat (first | (with_reducible first | exact HB.out | apply below_alloc | apply pw_below_drewN | apply below_drew1 | refine below_set ?_ GE131.out) | exact HB.out)) hb); have n2_ := Aside0.mk (hbox); have n3_ := Aside0.mk ((by rw [hg]; exact (below_size (by repeat (first | (with_reducible first | exact HB.out | apply below_alloc | apply pw_below_drewN | apply below_drew1 | refine below_set ?_ GE131.out) | exact HB.out))) : w.heap.size ≤ gb144)); have n4_ := Aside0.mk ((by rw [hg]; exact (below_size (by repeat (first | (with_reducible first | exact HB.out | apply below_alloc | apply pw_below_drewN | apply below_drew1 | refine below_set ?_ GE131.out) | exact HB.out))) : w.heap.size ≤ gb144)); have n5_ := Aside0.mk ((by rw [hg]; exact Nat.ne_of_lt (blk_lt (g := gb131) (o := .cells #[.slice A0_0 l0_0.length c0_0, .slice A0_1 l0_1.length c0_1, .int .i64 a0_2, .int .i64 a0_3, .int .i32 a0_4] 70 (0, 0)) (by (with_reducible repeat (first | refine blk_drewN ?_ _ | refine blk_drew ?_ | refine blk_alloc ?_ _)); exact BK131.out)) : gb131 ≠ gb144)); have n6_ := Aside0.mk ((by rw [hg]; exact Nat.ne_of_gt (blk_lt (g := gb131) (o := .cells #[.slice A0_0 l0_0.length c0_0, .slice A0_1 l0_1.length c0_1, .int .i64 a0_2, .int .i64 a0_3, .int .i32 a0_4] 70 (0, 0)) (by (with_reducible repeat (first | refine blk_drewN ?_ _ | refine blk_drew ?_ | refine blk_alloc ?_ _)); exact BK131.out)) : gb144 ≠ gb131)); clear BK131; clear HB; have BK131 := n0_; have HB := n1_; have BK144 := n2_; have GW144 := n3_; have GE144 := n4_; have NB131_144 := n5_; have NB144_131 := n6_; clear n0_ n1_ n2_ n3_ n4_ n5_ n6_; clear hb hbox hg; have hnb11 := NB144_131.out; have hnc11 := NB131_144.out; have hcz12_0 : w10.cell? ⟨gb144, 0, none⟩ = some (.int .i64 0) := (blk_cell BK144.out 0).trans rfl; have hcz12_1 : w10.cell? ⟨gb144, 1, none⟩ = some (.int .i64 0) := (blk_cell BK144.out 1).trans rfl; have hcz12_2 : w10.cell? ⟨gb144, 2, none⟩ = some (.int .i64 0) := (blk_cell BK144.out 2).trans rfl; have hcz12_3 : w10.cell? ⟨gb144, 3, none⟩ = some (.int .i64 0) := (blk_cell BK144.out 3).trans rfl; have hcz12_4 : w10.cell? ⟨gb144, 4, none⟩ = some (.int .i64 0) := (blk_cell BK144.out 4).trans rfl; have hcz12_5 : w10.cell? ⟨gb144, 5, none⟩ = some (.int .i64 0) := (blk_cell BK144.out 5).trans rfl; have hcz12_6 : w10.cell? ⟨gb144, 6, none⟩ = some (.int .i64 0) := (blk_cell BK144.out 6).trans rfl; have hcz12_7 : w10.cell? ⟨gb144, 7, none⟩ = some (.int .i64 0) := (blk_cell BK144.out 7).trans rfl; have hcz12_8 : w10.cell? ⟨gb144, 8, none⟩ = some (.int .i64 0) := (blk_cell BK144.out 8).trans rfl; have hfz12_0 := blk_frozen BK144.out 0; have hfz12_1 := blk_frozen BK144.out 1; have hfz12_2 := blk_frozen BK144.out 2; have hfz12_3 := blk_frozen BK144.out 3; have hfz12_4 := blk_frozen BK144.out 4; have hfz12_5 := blk_frozen BK144.out 5; have hfz12_6 := blk_frozen BK144.out 6; have hfz12_7 := blk_frozen BK144.out 7; have hfz12_8 := blk_frozen BK144.out 8)))
    (try simp only [Act.put, List.setIfInBounds_toArray, List.set_cons_zero, List.set_cons_succ])
    go_cut [42] (fun v42 wc => ∃ (kq : Nat) (x42_4 : Bool), v42 = .bool x42_4 ∧ Aside0 (spillwaylaw20_LaneWhole.j0 kq t133 t143 x42_4 l0_0 l0_1 a0_2 a0_3 a0_4 t134 t135 t136 t137 t138 t139 t140 t141 t142 = some r) ∧ Aside0 (kq ≤ k) ∧ Aside0 (wc.heap[gb131]? = some (.cells #[(.slice A0_0 l0_0.length c0_0), (.slice A0_1 l0_1.length c0_1), .int .i64 a0_2, .int .i64 a0_3, .int .i32 a0_4] 70 (0, 0))) ∧ Aside0 (wc.heap[gb144]? = some (.cells #[.int .i64 t134, .int .i64 t135, .int .i64 t136, .int .i64 t137, .int .i64 t138, .int .i64 t139, .int .i64 t140, .int .i64 t141, .int .i64 t142] 76 (0, 0))) ∧ Aside0 (Below w.heap.size w wc))
    case first =>
      have H := HC5.out
      clear HC5
      by_cases c13 : t143 = 0
      · rw [if_pos c13] at H
        have c13b0 : (t143 == 0) = true := beq_iff_eq.mpr c13
        have c13b1 : (t143 != 0) = false := bne_eq_false_iff_eq.mpr c13
        clear c13
        (first | rw [c13b0] | (simp only [i64_w, i32_w]; rw [c13b0]) | skip)
        by_cases c14 : (l0_0.length : Int) = (l0_1.length : Int)
        · rw [if_pos c14] at H
          have c14b0 : ((l0_0.length : Int) == (l0_1.length : Int)) = true := beq_iff_eq.mpr c14
          have c14b1 : ((l0_0.length : Int) != (l0_1.length : Int)) = false := bne_eq_false_iff_eq.mpr c14
          have c14b2 : (l0_0.length == l0_1.length) = true := by first | simpa using c14 | (simp at c14 ⊢; omega)
          clear c14
          have H' := Aside0.mk H
          clear H
          have hnb15 := NB131_144.out
          have hnc15 := NB144_131.out
          have hcz16_0 : w10.cell? ⟨gb131, 0, none⟩ = some (.slice A0_0 l0_0.length c0_0) := (blk_cell BK131.out 0).trans rfl
          have hcz16_1 : w10.cell? ⟨gb131, 1, none⟩ = some (.slice A0_1 l0_1.length c0_1) := (blk_cell BK131.out 1).trans rfl
          have hcz16_2 : w10.cell? ⟨gb131, 2, none⟩ = some (.int .i64 a0_2) := (blk_cell BK131.out 2).trans rfl
          have hcz16_3 : w10.cell? ⟨gb131, 3, none⟩ = some (.int .i64 a0_3) := (blk_cell BK131.out 3).trans rfl
          have hcz16_4 : w10.cell? ⟨gb131, 4, none⟩ = some (.int .i32 a0_4) := (blk_cell BK131.out 4).trans rfl
          have hfz16_0 := blk_frozen BK131.out 0
          have hfz16_1 := blk_frozen BK131.out 1
          have hfz16_2 := blk_frozen BK131.out 2
          have hfz16_3 := blk_frozen BK131.out 3
          have hfz16_4 := blk_frozen BK131.out 4
          go_wp2
          repeat (go_quiet (fail); try go_wp2)
          go_meet
          case rel => exact ⟨_, (decide ((l0_0.length : Int) > 100000)), (by first | rfl | (simp; done) | (simp [*]; done)), H', ⟨by first | omega | exact Nat.le_refl _⟩, ⟨by (with_reducible repeat (first | refine blk_drewN ?_ _ | refine blk_drew ?_ | refine blk_alloc ?_ _)); refine blk_far ?_ NB131_144.out _; (with_reducible repeat (first | refine blk_drewN ?_ _ | refine blk_drew ?_ | refine blk_alloc ?_ _)); refine blk_far ?_ NB131_144.out _; (with_reducible repeat (first | refine blk_drewN ?_ _ | refine blk_drew ?_ | refine blk_alloc ?_ _)); refine blk_far ?_ NB131_144.out _; (with_reducible repeat (first | refine blk_drewN ?_ _ | refine blk_drew ?_ | refine blk_alloc ?_ _)); refine blk_far ?_ NB131_144.out _; (with_reducible repeat (first | refine blk_drewN ?_ _ | refine blk_drew ?_ | refine blk_alloc ?_ _)); refine blk_far ?_ NB131_144.out _; (with_reducible repeat (first | refine blk_drewN ?_ _ | refine blk_drew ?_ | refine blk_alloc ?_ _)); refine blk_far ?_ NB131_144.out _; (with_reducible repeat (first | refine blk_drewN ?_ _ | refine blk_drew ?_ | refine blk_alloc ?_ _)); refine blk_far ?_ NB131_144.out _; (with_reducible repeat (first | refine blk_drewN ?_ _ | refine blk_drew ?_ | refine blk_alloc ?_ _)); refine blk_far ?_ NB131_144.out _; (with_reducible repeat (first | refine blk_drewN ?_ _ | refine blk_drew ?_ | refine blk_alloc ?_ _)); refine blk_far ?_ NB131_144.out _; (with_reducible repeat (first | refine blk_drewN ?_ _ | refine blk_drew ?_ | refine blk_alloc ?_ _)); exact BK131.out⟩, ⟨by (with_reducible repeat (first | refine blk_drewN ?_ _ | refine blk_drew ?_ | refine blk_alloc ?_ _)); refine blk_put (cs := #[.int .i64 t134, .int .i64 t135, .int .i64 t136, .int .i64 t137, .int .i64 t138, .int .i64 t139, .int .i64 t140, .int .i64 t141, .int .i64 0]) ?_ 8 _ rfl; (with_reducible repeat (first | refine blk_drewN ?_ _ | refine blk_drew ?_ | refine blk_alloc ?_ _)); refine blk_put (cs := #[.int .i64 t134, .int .i64 t135, .int .i64 t136, .int .i64 t137, .int .i64 t138, .int .i64 t139, .int .i64 t140, .int .i64 0, .int .i64 0]) ?_ 7 _ rfl; (with_reducible repeat (first | refine blk_drewN ?_ _ | refine blk_drew ?_ | refine blk_alloc ?_ _)); refine blk_put (cs := #[.int .i64 t134, .int .i64 t135, .int .i64 t136, .int .i64 t137, .int .i64 t138, .int .i64 t139, .int .i64 0, .int .i64 0, .int .i64 0]) ?_ 6 _ rfl; (with_reducible repeat (first | refine blk_drewN ?_ _ | refine blk_drew ?_ | refine blk_alloc ?_ _)); refine blk_put (cs := #[.int .i64 t134, .int .i64 t135, .int .i64 t136, .int .i64 t137, .int .i64 t138, .int .i64 0, .int .i64 0, .int .i64 0, .int .i64 0]) ?_ 5 _ rfl; (with_reducible repeat (first | refine blk_drewN ?_ _ | refine blk_drew ?_ | refine blk_alloc ?_ _)); refine blk_put (cs := #[.int .i64 t134, .int .i64 t135, .int .i64 t136, .int .i64 t137, .int .i64 0, .int .i64 0, .int .i64 0, .int .i64 0, .int .i64 0]) ?_ 4 _ rfl; (with_reducible repeat (first | refine blk_drewN ?_ _ | refine blk_drew ?_ | refine blk_alloc ?_ _)); refine blk_put (cs := #[.int .i64 t134, .int .i64 t135, .int .i64 t136, .int .i64 0, .int .i64 0, .int .i64 0, .int .i64 0, .int .i64 0, .int .i64 0]) ?_ 3 _ rfl; (with_reducible repeat (first | refine blk_drewN ?_ _ | refine blk_drew ?_ | refine blk_alloc ?_ _)); refine blk_put (cs := #[.int .i64 t134, .int .i64 t135, .int .i64 0, .int .i64 0, .int .i64 0, .int .i64 0, .int .i64 0, .int .i64 0, .int .i64 0]) ?_ 2 _ rfl; (with_reducible repeat (first | refine blk_drewN ?_ _ | refine blk_drew ?_ | refine blk_alloc ?_ _)); refine blk_put (cs := #[.int .i64 t134, .int .i64 0, .int .i64 0, .int .i64 0, .int .i64 0, .int .i64 0, .int .i64 0, .int .i64 0, .int .i64 0]) ?_ 1 _ rfl; (with_reducible repeat (first | refine blk_drewN ?_ _ | refine blk_drew ?_ | refine blk_alloc ?_ _)); refine blk_put (cs := #[.int .i64 0, .int .i64 0, .int .i64 0, .int .i64 0, .int .i64 0, .int .i64 0, .int .i64 0, .int .i64 0, .int .i64 0]) ?_ 0 _ rfl; (with_reducible repeat (first | refine blk_drewN ?_ _ | refine blk_drew ?_ | refine blk_alloc ?_ _)); exact BK144.out⟩, ⟨by repeat (first | (with_reducible first | exact HB.out | apply below_alloc | apply pw_below_drewN | apply below_drew1 | refine below_set ?_ GE131.out | refine below_set ?_ GE144.out) | exact HB.out)⟩⟩
        · rw [if_neg c14] at H
          have c14b0 : ((l0_0.length : Int) == (l0_1.length : Int)) = false := beq_eq_false_iff_ne.mpr c14
          have c14b1 : ((l0_0.length : Int) != (l0_1.length : Int)) = true := bne_iff_ne.mpr c14
          have c14b2 : (l0_0.length == l0_1.length) = false := by first | simpa using c14 | (simp at c14 ⊢; omega)
          have H' := Aside0.mk H
          clear H
          have hnb17 := NB131_144.out
          have hnc17 := NB144_131.out
          have hcz18_0 : w10.cell? ⟨gb131, 0, none⟩ = some (.slice A0_0 l0_0.length c0_0) := (blk_cell BK131.out 0).trans rfl
          have hcz18_1 : w10.cell? ⟨gb131, 1, none⟩ = some (.slice A0_1 l0_1.length c0_1) := (blk_cell BK131.out 1).trans rfl
          have hcz18_2 : w10.cell? ⟨gb131, 2, none⟩ = some (.int .i64 a0_2) := (blk_cell BK131.out 2).trans rfl
          have hcz18_3 : w10.cell? ⟨gb131, 3, none⟩ = some (.int .i64 a0_3) := (blk_cell BK131.out 3).trans rfl
          have hcz18_4 : w10.cell? ⟨gb131, 4, none⟩ = some (.int .i32 a0_4) := (blk_cell BK131.out 4).trans rfl
          have hfz18_0 := blk_frozen BK131.out 0
          have hfz18_1 := blk_frozen BK131.out 1
          have hfz18_2 := blk_frozen BK131.out 2
          have hfz18_3 := blk_frozen BK131.out 3
          have hfz18_4 := blk_frozen BK131.out 4
          go_wp2
          repeat (go_quiet (fail); try go_wp2)
          go_meet
          case rel => exact ⟨_, (true), (by first | rfl | (simp; done) | (simp [*]; done)), H', ⟨by first | omega | exact Nat.le_refl _⟩, ⟨by (with_reducible repeat (first | refine blk_drewN ?_ _ | refine blk_drew ?_ | refine blk_alloc ?_ _)); refine blk_far ?_ NB131_144.out _; (with_reducible repeat (first | refine blk_drewN ?_ _ | refine blk_drew ?_ | refine blk_alloc ?_ _)); refine blk_far ?_ NB131_144.out _; (with_reducible repeat (first | refine blk_drewN ?_ _ | refine blk_drew ?_ | refine blk_alloc ?_ _)); refine blk_far ?_ NB131_144.out _; (with_reducible repeat (first | refine blk_drewN ?_ _ | refine blk_drew ?_ | refine blk_alloc ?_ _)); refine blk_far ?_ NB131_144.out _; (with_reducible repeat (first | refine blk_drewN ?_ _ | refine blk_drew ?_ | refine blk_alloc ?_ _)); refine blk_far ?_ NB131_144.out _; (with_reducible repeat (first | refine blk_drewN ?_ _ | refine blk_drew ?_ | refine blk_alloc ?_ _)); refine blk_far ?_ NB131_144.out _; (with_reducible repeat (first | refine blk_drewN ?_ _ | refine blk_drew ?_ | refine blk_alloc ?_ _)); refine blk_far ?_ NB131_144.out _; (with_reducible repeat (first | refine blk_drewN ?_ _ | refine blk_drew ?_ | refine blk_alloc ?_ _)); refine blk_far ?_ NB131_144.out _; (with_reducible repeat (first | refine blk_drewN ?_ _ | refine blk_drew ?_ | refine blk_alloc ?_ _)); refine blk_far ?_ NB131_144.out _; (with_reducible repeat (first | refine blk_drewN ?_ _ | refine blk_drew ?_ | refine blk_alloc ?_ _)); exact BK131.out⟩, ⟨by (with_reducible repeat (first | refine blk_drewN ?_ _ | refine blk_drew ?_ | refine blk_alloc ?_ _)); refine blk_put (cs := #[.int .i64 t134, .int .i64 t135, .int .i64 t136, .int .i64 t137, .int .i64 t138, .int .i64 t139, .int .i64 t140, .int .i64 t141, .int .i64 0]) ?_ 8 _ rfl; (with_reducible repeat (first | refine blk_drewN ?_ _ | refine blk_drew ?_ | refine blk_alloc ?_ _)); refine blk_put (cs := #[.int .i64 t134, .int .i64 t135, .int .i64 t136, .int .i64 t137, .int .i64 t138, .int .i64 t139, .int .i64 t140, .int .i64 0, .int .i64 0]) ?_ 7 _ rfl; (with_reducible repeat (first | refine blk_drewN ?_ _ | refine blk_drew ?_ | refine blk_alloc ?_ _)); refine blk_put (cs := #[.int .i64 t134, .int .i64 t135, .int .i64 t136, .int .i64 t137, .int .i64 t138, .int .i64 t139, .int .i64 0, .int .i64 0, .int .i64 0]) ?_ 6 _ rfl; (with_reducible repeat (first | refine blk_drewN ?_ _ | refine blk_drew ?_ | refine blk_alloc ?_ _)); refine blk_put (cs := #[.int .i64 t134, .int .i64 t135, .int .i64 t136, .int .i64 t137, .int .i64 t138, .int .i64 0, .int .i64 0, .int .i64 0, .int .i64 0]) ?_ 5 _ rfl; (with_reducible repeat (first | refine blk_drewN ?_ _ | refine blk_drew ?_ | refine blk_alloc ?_ _)); refine blk_put (cs := #[.int .i64 t134, .int .i64 t135, .int .i64 t136, .int .i64 t137, .int .i64 0, .int .i64 0, .int .i64 0, .int .i64 0, .int .i64 0]) ?_ 4 _ rfl; (with_reducible repeat (first | refine blk_drewN ?_ _ | refine blk_drew ?_ | refine blk_alloc ?_ _)); refine blk_put (cs := #[.int .i64 t134, .int .i64 t135, .int .i64 t136, .int .i64 0, .int .i64 0, .int .i64 0, .int .i64 0, .int .i64 0, .int .i64 0]) ?_ 3 _ rfl; (with_reducible repeat (first | refine blk_drewN ?_ _ | refine blk_drew ?_ | refine blk_alloc ?_ _)); refine blk_put (cs := #[.int .i64 t134, .int .i64 t135, .int .i64 0, .int .i64 0, .int .i64 0, .int .i64 0, .int .i64 0, .int .i64 0, .int .i64 0]) ?_ 2 _ rfl; (with_reducible repeat (first | refine blk_drewN ?_ _ | refine blk_drew ?_ | refine blk_alloc ?_ _)); refine blk_put (cs := #[.int .i64 t134, .int .i64 0, .int .i64 0, .int .i64 0, .int .i64 0, .int .i64 0, .int .i64 0, .int .i64 0, .int .i64 0]) ?_ 1 _ rfl; (with_reducible repeat (first | refine blk_drewN ?_ _ | refine blk_drew ?_ | refine blk_alloc ?_ _)); refine blk_put (cs := #[.int .i64 0, .int .i64 0, .int .i64 0, .int .i64 0, .int .i64 0, .int .i64 0, .int .i64 0, .int .i64 0, .int .i64 0]) ?_ 0 _ rfl; (with_reducible repeat (first | refine blk_drewN ?_ _ | refine blk_drew ?_ | refine blk_alloc ?_ _)); exact BK144.out⟩, ⟨by repeat (first | (with_reducible first | exact HB.out | apply below_alloc | apply pw_below_drewN | apply below_drew1 | refine below_set ?_ GE131.out | refine below_set ?_ GE144.out) | exact HB.out)⟩⟩
      · rw [if_neg c13] at H
        have c13b0 : (t143 == 0) = false := beq_eq_false_iff_ne.mpr c13
        have c13b1 : (t143 != 0) = true := bne_iff_ne.mpr c13
        (first | rw [c13b0] | (simp only [i64_w, i32_w]; rw [c13b0]) | skip)
        have H' := Aside0.mk H
        clear H
        go_wp2
        repeat (go_quiet (fail); try go_wp2)
        go_meet
        case rel => exact ⟨_, (true), (by first | rfl | (simp; done) | (simp [*]; done)), H', ⟨by first | omega | exact Nat.le_refl _⟩, ⟨by (with_reducible repeat (first | refine blk_drewN ?_ _ | refine blk_drew ?_ | refine blk_alloc ?_ _)); refine blk_far ?_ NB131_144.out _; (with_reducible repeat (first | refine blk_drewN ?_ _ | refine blk_drew ?_ | refine blk_alloc ?_ _)); refine blk_far ?_ NB131_144.out _; (with_reducible repeat (first | refine blk_drewN ?_ _ | refine blk_drew ?_ | refine blk_alloc ?_ _)); refine blk_far ?_ NB131_144.out _; (with_reducible repeat (first | refine blk_drewN ?_ _ | refine blk_drew ?_ | refine blk_alloc ?_ _)); refine blk_far ?_ NB131_144.out _; (with_reducible repeat (first | refine blk_drewN ?_ _ | refine blk_drew ?_ | refine blk_alloc ?_ _)); refine blk_far ?_ NB131_144.out _; (with_reducible repeat (first | refine blk_drewN ?_ _ | refine blk_drew ?_ | refine blk_alloc ?_ _)); refine blk_far ?_ NB131_144.out _; (with_reducible repeat (first | refine blk_drewN ?_ _ | refine blk_drew ?_ | refine blk_alloc ?_ _)); refine blk_far ?_ NB131_144.out _; (with_reducible repeat (first | refine blk_drewN ?_ _ | refine blk_drew ?_ | refine blk_alloc ?_ _)); refine blk_far ?_ NB131_144.out _; (with_reducible repeat (first | refine blk_drewN ?_ _ | refine blk_drew ?_ | refine blk_alloc ?_ _)); refine blk_far ?_ NB131_144.out _; (with_reducible repeat (first | refine blk_drewN ?_ _ | refine blk_drew ?_ | refine blk_alloc ?_ _)); exact BK131.out⟩, ⟨by (with_reducible repeat (first | refine blk_drewN ?_ _ | refine blk_drew ?_ | refine blk_alloc ?_ _)); refine blk_put (cs := #[.int .i64 t134, .int .i64 t135, .int .i64 t136, .int .i64 t137, .int .i64 t138, .int .i64 t139, .int .i64 t140, .int .i64 t141, .int .i64 0]) ?_ 8 _ rfl; (with_reducible repeat (first | refine blk_drewN ?_ _ | refine blk_drew ?_ | refine blk_alloc ?_ _)); refine blk_put (cs := #[.int .i64 t134, .int .i64 t135, .int .i64 t136, .int .i64 t137, .int .i64 t138, .int .i64 t139, .int .i64 t140, .int .i64 0, .int .i64 0]) ?_ 7 _ rfl; (with_reducible repeat (first | refine blk_drewN ?_ _ | refine blk_drew ?_ | refine blk_alloc ?_ _)); refine blk_put (cs := #[.int .i64 t134, .int .i64 t135, .int .i64 t136, .int .i64 t137, .int .i64 t138, .int .i64 t139, .int .i64 0, .int .i64 0, .int .i64 0]) ?_ 6 _ rfl; (with_reducible repeat (first | refine blk_drewN ?_ _ | refine blk_drew ?_ | refine blk_alloc ?_ _)); refine blk_put (cs := #[.int .i64 t134, .int .i64 t135, .int .i64 t136, .int .i64 t137, .int .i64 t138, .int .i64 0, .int .i64 0, .int .i64 0, .int .i64 0]) ?_ 5 _ rfl; (with_reducible repeat (first | refine blk_drewN ?_ _ | refine blk_drew ?_ | refine blk_alloc ?_ _)); refine blk_put (cs := #[.int .i64 t134, .int .i64 t135, .int .i64 t136, .int .i64 t137, .int .i64 0, .int .i64 0, .int .i64 0, .int .i64 0, .int .i64 0]) ?_ 4 _ rfl; (with_reducible repeat (first | refine blk_drewN ?_ _ | refine blk_drew ?_ | refine blk_alloc ?_ _)); refine blk_put (cs := #[.int .i64 t134, .int .i64 t135, .int .i64 t136, .int .i64 0, .int .i64 0, .int .i64 0, .int .i64 0, .int .i64 0, .int .i64 0]) ?_ 3 _ rfl; (with_reducible repeat (first | refine blk_drewN ?_ _ | refine blk_drew ?_ | refine blk_alloc ?_ _)); refine blk_put (cs := #[.int .i64 t134, .int .i64 t135, .int .i64 0, .int .i64 0, .int .i64 0, .int .i64 0, .int .i64 0, .int .i64 0, .int .i64 0]) ?_ 2 _ rfl; (with_reducible repeat (first | refine blk_drewN ?_ _ | refine blk_drew ?_ | refine blk_alloc ?_ _)); refine blk_put (cs := #[.int .i64 t134, .int .i64 0, .int .i64 0, .int .i64 0, .int .i64 0, .int .i64 0, .int .i64 0, .int .i64 0, .int .i64 0]) ?_ 1 _ rfl; (with_reducible repeat (first | refine blk_drewN ?_ _ | refine blk_drew ?_ | refine blk_alloc ?_ _)); refine blk_put (cs := #[.int .i64 0, .int .i64 0, .int .i64 0, .int .i64 0, .int .i64 0, .int .i64 0, .int .i64 0, .int .i64 0, .int .i64 0]) ?_ 0 _ rfl; (with_reducible repeat (first | refine blk_drewN ?_ _ | refine blk_drew ?_ | refine blk_alloc ?_ _)); exact BK144.out⟩, ⟨by repeat (first | (with_reducible first | exact HB.out | apply below_alloc | apply pw_below_drewN | apply below_drew1 | refine below_set ?_ GE131.out | refine below_set ?_ GE144.out) | exact HB.out)⟩⟩
    case rest =>
      clear HC5
      try clear c1
      try clear p2
      try clear c3
      try clear c11
      try clear c13
      try clear c13b0
      try clear c13b1
      try clear c14
      try clear c14b0
      try clear c14b1
      try clear c14b2
      try clear c15
      try clear c17
      try clear hcz12_0
      try clear hcz12_1
      try clear hcz12_2
      try clear hcz12_3
      try clear hcz12_4
      try clear hcz12_5
      try clear hcz12_6
      try clear hcz12_7
      try clear hcz12_8
      try clear hcz16_0
      try clear hcz16_1
      try clear hcz16_2
      try clear hcz16_3
      try clear hcz16_4
      try clear hcz18_0
      try clear hcz18_1
      try clear hcz18_2
      try clear hcz18_3
      try clear hcz18_4
      try clear hcz8_0
      try clear hcz8_1
      try clear hcz8_2
      try clear hcz8_3
      try clear hcz8_4
      try clear hfz12_0
      try clear hfz12_1
      try clear hfz12_2
      try clear hfz12_3
      try clear hfz12_4
      try clear hfz12_5
      try clear hfz12_6
      try clear hfz12_7
      try clear hfz12_8
      try clear hfz16_0
      try clear hfz16_1
      try clear hfz16_2
      try clear hfz16_3
      try clear hfz16_4
      try clear hfz18_0
      try clear hfz18_1
      try clear hfz18_2
      try clear hfz18_3
      try clear hfz18_4
      try clear hfz8_0
      try clear hfz8_1
      try clear hfz8_2
      try clear hfz8_3
      try clear hfz8_4
      obtain ⟨kq, x42_4, rfl, HA, HJ4, BK131, BK144, HB⟩ := hcut
      cases kq with
      | zero => exact absurd HA.out (by simp [spillwaylaw20_LaneWhole.j0])
      | succ kj4 =>
        have H := HA.out
        clear HA
        simp only [spillwaylaw20_LaneWhole.j0] at H
        by_cases c19 : x42_4 = true
        · subst c19
          have H1 : (if t143 = 0 then (some ((l0_0.length : Int) == (l0_1.length : Int))) else (some true)) = some r := by rw [if_pos rfl] at H; exact H
          clear H
          have H := H1
          clear H1
          by_cases c20 : t143 = 0
          · rw [if_pos c20] at H
            have c20b0 : (t143 == 0) = true := beq_iff_eq.mpr c20
            have c20b1 : (t143 != 0) = false := bne_eq_false_iff_eq.mpr c20
            clear c20
            obtain rfl := Option.some.inj H
            have hnb21 := NB131_144.out
            have hnc21 := NB144_131.out
            have hcz22_0 : wc.cell? ⟨gb131, 0, none⟩ = some (.slice A0_0 l0_0.length c0_0) := (blk_cell BK131.out 0).trans rfl
            have hcz22_1 : wc.cell? ⟨gb131, 1, none⟩ = some (.slice A0_1 l0_1.length c0_1) := (blk_cell BK131.out 1).trans rfl
            have hcz22_2 : wc.cell? ⟨gb131, 2, none⟩ = some (.int .i64 a0_2) := (blk_cell BK131.out 2).trans rfl
            have hcz22_3 : wc.cell? ⟨gb131, 3, none⟩ = some (.int .i64 a0_3) := (blk_cell BK131.out 3).trans rfl
            have hcz22_4 : wc.cell? ⟨gb131, 4, none⟩ = some (.int .i32 a0_4) := (blk_cell BK131.out 4).trans rfl
            have hfz22_0 := blk_frozen BK131.out 0
            have hfz22_1 := blk_frozen BK131.out 1
            have hfz22_2 := blk_frozen BK131.out 2
            have hfz22_3 := blk_frozen BK131.out 3
            have hfz22_4 := blk_frozen BK131.out 4
            go_wp2
            repeat (go_quiet (fail); try go_wp2)
            go_ret
            exact ⟨by first | rfl | (simp [errW_none, errW_some] <;> rfl) | (simp [*, errW_none, errW_some] <;> rfl), by repeat (first | (with_reducible first | exact HB.out | apply below_alloc | apply pw_below_drewN | apply below_drew1 | refine below_set ?_ GE131.out | refine below_set ?_ GE144.out) | exact HB.out)⟩
          · rw [if_neg c20] at H
            have c20b0 : (t143 == 0) = false := beq_eq_false_iff_ne.mpr c20
            have c20b1 : (t143 != 0) = true := bne_iff_ne.mpr c20
            obtain rfl := Option.some.inj H
            go_wp2
            repeat (go_quiet (fail); try go_wp2)
            go_ret
            exact ⟨by first | rfl | (simp [errW_none, errW_some] <;> rfl) | (simp [*, errW_none, errW_some] <;> rfl), by repeat (first | (with_reducible first | exact HB.out | apply below_alloc | apply pw_below_drewN | apply below_drew1 | refine below_set ?_ GE131.out | refine below_set ?_ GE144.out) | exact HB.out)⟩
        · replace c19 := Bool.eq_false_iff.mpr c19
          subst c19
          have H1 : (spillwaylaw20_LaneWhole.l0 kj4 t133 (wrap64 (a0_4)) (l0_0.length : Int) 0 l0_0 l0_1 a0_2 a0_3 a0_4 t134 t135 t136 t137 t138 t139 t140 t141 t142) = some r := by rw [if_neg (show ¬ (false = true) by decide)] at H; exact H
          clear H
          have H := H1
          clear H1
          have H' := Aside0.mk H
          clear H
          have hnb23 := NB131_144.out
          have hnc23 := NB144_131.out
          have hcz24_0 : wc.cell? ⟨gb131, 0, none⟩ = some (.slice A0_0 l0_0.length c0_0) := (blk_cell BK131.out 0).trans rfl
          have hcz24_1 : wc.cell? ⟨gb131, 1, none⟩ = some (.slice A0_1 l0_1.length c0_1) := (blk_cell BK131.out 1).trans rfl
          have hcz24_2 : wc.cell? ⟨gb131, 2, none⟩ = some (.int .i64 a0_2) := (blk_cell BK131.out 2).trans rfl
          have hcz24_3 : wc.cell? ⟨gb131, 3, none⟩ = some (.int .i64 a0_3) := (blk_cell BK131.out 3).trans rfl
          have hcz24_4 : wc.cell? ⟨gb131, 4, none⟩ = some (.int .i32 a0_4) := (blk_cell BK131.out 4).trans rfl
          have hfz24_0 := blk_frozen BK131.out 0
          have hfz24_1 := blk_frozen BK131.out 1
          have hfz24_2 := blk_frozen BK131.out 2
          have hfz24_3 := blk_frozen BK131.out 3
          have hfz24_4 := blk_frozen BK131.out 4
          go_wp2
          repeat (go_quiet (fail); try go_wp2)
          go_loopg [6, 60] kj4 (fun kq v6 v60 w' => ∃ (x6_2 : Int) (x60_2 : Int), v6 = .int .i64 x6_2 ∧ v60 = .int .i64 x60_2 ∧ Aside0 (spillwaylaw20_LaneWhole.l0 kq t133 x6_2 (l0_0.length : Int) x60_2 l0_0 l0_1 a0_2 a0_3 a0_4 t134 t135 t136 t137 t138 t139 t140 t141 t142 = some r) ∧ Aside0 (kq ≤ kj4) ∧ Aside0 (w'.heap[gb131]? = some (.cells #[(.slice A0_0 l0_0.length c0_0), (.slice A0_1 l0_1.length c0_1), .int .i64 a0_2, .int .i64 a0_3, .int .i32 a0_4] 70 (0, 0))) ∧ Aside0 (w'.heap[gb144]? = some (.cells #[.int .i64 t134, .int .i64 t135, .int .i64 t136, .int .i64 t137, .int .i64 t138, .int .i64 t139, .int .i64 t140, .int .i64 t141, .int .i64 t142] 76 (0, 0))) ∧ Aside0 (Below w.heap.size w w'))
          case atStart => exact ⟨(wrap64 (a0_4)), (0), (by first | rfl | (simp; done) | (simp [*]; done)), (by first | rfl | (simp; done) | (simp [*]; done)), H', ⟨Nat.le_refl _⟩, ⟨by (with_reducible repeat (first | refine blk_drewN ?_ _ | refine blk_drew ?_ | refine blk_alloc ?_ _)); exact BK131.out⟩, ⟨by (with_reducible repeat (first | refine blk_drewN ?_ _ | refine blk_drew ?_ | refine blk_alloc ?_ _)); exact BK144.out⟩, ⟨by repeat (first | (with_reducible first | exact HB.out | apply below_alloc | apply pw_below_drewN | apply below_drew1 | refine below_set ?_ GE131.out | refine below_set ?_ GE144.out) | exact HB.out)⟩⟩
          case round =>
            clear H'
            try clear c1
            try clear c2
            try clear p2
            try clear c3
            try clear p6
            try clear c11
            try clear c13
            try clear c13b0
            try clear c13b1
            try clear c14
            try clear c14b0
            try clear c14b1
            try clear c14b2
            try clear c15
            try clear c17
            try clear c19
            try clear c20
            try clear c20b0
            try clear c20b1
            try clear c21
            try clear c23
            try clear hcz12_0
            try clear hcz12_1
            try clear hcz12_2
            try clear hcz12_3
            try clear hcz12_4
            try clear hcz12_5
            try clear hcz12_6
            try clear hcz12_7
            try clear hcz12_8
            try clear hcz16_0
            try clear hcz16_1
            try clear hcz16_2
            try clear hcz16_3
            try clear hcz16_4
            try clear hcz18_0
            try clear hcz18_1
            try clear hcz18_2
            try clear hcz18_3
            try clear hcz18_4
            try clear hcz22_0
            try clear hcz22_1
            try clear hcz22_2
            try clear hcz22_3
            try clear hcz22_4
            try clear hcz24_0
            try clear hcz24_1
            try clear hcz24_2
            try clear hcz24_3
            try clear hcz24_4
            try clear hcz8_0
            try clear hcz8_1
            try clear hcz8_2
            try clear hcz8_3
            try clear hcz8_4
            try clear hfz12_0
            try clear hfz12_1
            try clear hfz12_2
            try clear hfz12_3
            try clear hfz12_4
            try clear hfz12_5
            try clear hfz12_6
            try clear hfz12_7
            try clear hfz12_8
            try clear hfz16_0
            try clear hfz16_1
            try clear hfz16_2
            try clear hfz16_3
            try clear hfz16_4
            try clear hfz18_0
            try clear hfz18_1
            try clear hfz18_2
            try clear hfz18_3
            try clear hfz18_4
            try clear hfz22_0
            try clear hfz22_1
            try clear hfz22_2
            try clear hfz22_3
            try clear hfz22_4
            try clear hfz24_0
            try clear hfz24_1
            try clear hfz24_2
            try clear hfz24_3
            try clear hfz24_4
            try clear hfz8_0
            try clear hfz8_1
            try clear hfz8_2
            try clear hfz8_3
            try clear hfz8_4
            try clear p2
            obtain ⟨x6_2, x60_2, rfl, rfl, HA, HK2, BK131, BK144, HB⟩ := hrel
            cases gk with
            | zero => exact absurd HA.out (by simp [spillwaylaw20_LaneWhole.l0])
            | succ k2 =>
              have H := HA.out
              clear HA
              simp only [spillwaylaw20_LaneWhole.l0] at H
              by_cases c25 : x60_2 < (l0_0.length : Int)
              · rw [if_pos c25] at H
                have c25b0 : decide (x60_2 < (l0_0.length : Int)) = true := decide_eq_true c25
                clear c25
                by_cases c26 : 0 ≤ x60_2
                · rw [if_pos c26] at H
                  have c26b0 : decide (0 ≤ x60_2) = true := decide_eq_true c26
                  clear c26
                  by_cases c27 : x60_2 < (l0_0.length : Int)
                  · rw [if_pos c27] at H
                    have c27b0 : decide (x60_2 < (l0_0.length : Int)) = true := decide_eq_true c27
                    clear c27
                    by_cases c28 : x60_2 < (l0_1.length : Int)
                    · rw [if_pos c28] at H
                      have c28b0 : decide (x60_2 < (l0_1.length : Int)) = true := decide_eq_true c28
                      clear c28
                      have H' := Aside0.mk H
                      clear H
                      have hnb29 := NB131_144.out
                      have hnc29 := NB144_131.out
                      have hcz30_0 : wr.cell? ⟨gb131, 0, none⟩ = some (.slice A0_0 l0_0.length c0_0) := (blk_cell BK131.out 0).trans rfl
                      have hcz30_1 : wr.cell? ⟨gb131, 1, none⟩ = some (.slice A0_1 l0_1.length c0_1) := (blk_cell BK131.out 1).trans rfl
                      have hcz30_2 : wr.cell? ⟨gb131, 2, none⟩ = some (.int .i64 a0_2) := (blk_cell BK131.out 2).trans rfl
                      have hcz30_3 : wr.cell? ⟨gb131, 3, none⟩ = some (.int .i64 a0_3) := (blk_cell BK131.out 3).trans rfl
                      have hcz30_4 : wr.cell? ⟨gb131, 4, none⟩ = some (.int .i32 a0_4) := (blk_cell BK131.out 4).trans rfl
                      have hfz30_0 := blk_frozen BK131.out 0
                      have hfz30_1 := blk_frozen BK131.out 1
                      have hfz30_2 := blk_frozen BK131.out 2
                      have hfz30_3 := blk_frozen BK131.out 3
                      have hfz30_4 := blk_frozen BK131.out 4
                      have p145 : 0 ≤ (x60_2 : Int) := of_decide_eq_true (by first | (with_reducible assumption) | assumption)
                      have q145 : x60_2 < (l0_0.length : Int) := of_decide_eq_true (by first | (with_reducible assumption) | assumption)
                      obtain ⟨ad145, e145, hx145_0⟩ := Kd.at_int HR0_0.out x60_2 p145 q145
                      cases e145
                      replace hx145_0 := (HB.out.cell (World.block_lt_of_cell? w _ hx145_0)).trans hx145_0
                      replace p145 := eq_true p145
                      replace q145 := eq_true q145
                      have p146 : 0 ≤ (x60_2 : Int) := of_decide_eq_true (by first | (with_reducible assumption) | assumption)
                      have q146 : x60_2 < (l0_1.length : Int) := of_decide_eq_true (by first | (with_reducible assumption) | assumption)
                      obtain ⟨ad146, e146, hx146_0⟩ := Kd.at_int HR0_1.out x60_2 p146 q146
                      cases e146
                      replace hx146_0 := (HB.out.cell (World.block_lt_of_cell? w _ hx146_0)).trans hx146_0
                      replace p146 := eq_true p146
                      replace q146 := eq_true q146
                      go_wp2
                      repeat (go_quiet (fail); try go_wp2)
                      go_roundg k2
                      case measure => have := HJ4.out; have := HK2.out; omega
                      case rel => exact ⟨(wrap64 (x6_2 + (wrap64 ((wrap64 (rd l0_0 x60_2)) * (wrap64 (rd l0_1 x60_2)))))), (wrap64 (x60_2 + 1)), (by first | rfl | (simp; done) | (simp [*]; done)), (by first | rfl | (simp; done) | (simp [*]; done)), H', ⟨by have := HJ4.out; have := HK2.out; omega⟩, ⟨by (with_reducible repeat (first | refine blk_drewN ?_ _ | refine blk_drew ?_ | refine blk_alloc ?_ _)); exact BK131.out⟩, ⟨by (with_reducible repeat (first | refine blk_drewN ?_ _ | refine blk_drew ?_ | refine blk_alloc ?_ _)); exact BK144.out⟩, ⟨by repeat (first | (with_reducible first | exact HB.out | apply below_alloc | apply pw_below_drewN | apply below_drew1 | refine below_set ?_ GE131.out | refine below_set ?_ GE144.out) | exact HB.out)⟩⟩
                    · rw [if_neg c28] at H
                      exact absurd H (by simp)
                  · rw [if_neg c27] at H
                    exact absurd H (by simp)
                · rw [if_neg c26] at H
                  exact absurd H (by simp)
              · rw [if_neg c25] at H
                have c25b0 : decide (x60_2 < (l0_0.length : Int)) = false := decide_eq_false c25
                clear c25
                by_cases c31 : a0_2 = 32
                · rw [if_pos c31] at H
                  have c31b0 : (a0_2 == 32) = true := beq_iff_eq.mpr c31
                  have c31b1 : (a0_2 != 32) = false := bne_eq_false_iff_eq.mpr c31
                  clear c31
                  by_cases c32 : (Int.tmod (wrap64 (x6_2 - (wrap64 (t133)))) 4294967296) = 0
                  · rw [if_pos c32] at H
                    have c32b0 : ((Int.tmod (wrap64 (x6_2 - (wrap64 (t133)))) 4294967296) == 0) = true := beq_iff_eq.mpr c32
                    have c32b1 : ((Int.tmod (wrap64 (x6_2 - (wrap64 (t133)))) 4294967296) != 0) = false := bne_eq_false_iff_eq.mpr c32
                    clear c32
                    by_cases c33 : t138 = 0
                    · rw [if_pos c33] at H
                      have c33b0 : (t138 == 0) = true := beq_iff_eq.mpr c33
                      have c33b1 : (t138 != 0) = false := bne_eq_false_iff_eq.mpr c33
                      clear c33
                      by_cases c34 : x6_2 = (wrap64 (t133))
                      · rw [if_pos c34] at H
                        have c34b0 : (x6_2 == (wrap64 (t133))) = true := beq_iff_eq.mpr c34
                        have c34b1 : (x6_2 != (wrap64 (t133))) = false := bne_eq_false_iff_eq.mpr c34
                        clear c34
                        by_cases c35 : t138 ≥ 0
                        · rw [if_pos c35] at H
                          have c35b0 : decide (0 ≤ t138) = true := decide_eq_true c35
                          clear c35
                          obtain rfl := Option.some.inj H
                          have hnb36 := NB131_144.out
                          have hnc36 := NB144_131.out
                          have hcz37_0 : wr.cell? ⟨gb131, 0, none⟩ = some (.slice A0_0 l0_0.length c0_0) := (blk_cell BK131.out 0).trans rfl
                          have hcz37_1 : wr.cell? ⟨gb131, 1, none⟩ = some (.slice A0_1 l0_1.length c0_1) := (blk_cell BK131.out 1).trans rfl
                          have hcz37_2 : wr.cell? ⟨gb131, 2, none⟩ = some (.int .i64 a0_2) := (blk_cell BK131.out 2).trans rfl
                          have hcz37_3 : wr.cell? ⟨gb131, 3, none⟩ = some (.int .i64 a0_3) := (blk_cell BK131.out 3).trans rfl
                          have hcz37_4 : wr.cell? ⟨gb131, 4, none⟩ = some (.int .i32 a0_4) := (blk_cell BK131.out 4).trans rfl
                          have hfz37_0 := blk_frozen BK131.out 0
                          have hfz37_1 := blk_frozen BK131.out 1
                          have hfz37_2 := blk_frozen BK131.out 2
                          have hfz37_3 := blk_frozen BK131.out 3
                          have hfz37_4 := blk_frozen BK131.out 4
                          have hcz38_0 : wr.cell? ⟨gb144, 0, none⟩ = some (.int .i64 t134) := (blk_cell BK144.out 0).trans rfl
                          have hcz38_1 : wr.cell? ⟨gb144, 1, none⟩ = some (.int .i64 t135) := (blk_cell BK144.out 1).trans rfl
                          have hcz38_2 : wr.cell? ⟨gb144, 2, none⟩ = some (.int .i64 t136) := (blk_cell BK144.out 2).trans rfl
                          have hcz38_3 : wr.cell? ⟨gb144, 3, none⟩ = some (.int .i64 t137) := (blk_cell BK144.out 3).trans rfl
                          have hcz38_4 : wr.cell? ⟨gb144, 4, none⟩ = some (.int .i64 t138) := (blk_cell BK144.out 4).trans rfl
                          have hcz38_5 : wr.cell? ⟨gb144, 5, none⟩ = some (.int .i64 t139) := (blk_cell BK144.out 5).trans rfl
                          have hcz38_6 : wr.cell? ⟨gb144, 6, none⟩ = some (.int .i64 t140) := (blk_cell BK144.out 6).trans rfl
                          have hcz38_7 : wr.cell? ⟨gb144, 7, none⟩ = some (.int .i64 t141) := (blk_cell BK144.out 7).trans rfl
                          have hcz38_8 : wr.cell? ⟨gb144, 8, none⟩ = some (.int .i64 t142) := (blk_cell BK144.out 8).trans rfl
                          have hfz38_0 := blk_frozen BK144.out 0
                          have hfz38_1 := blk_frozen BK144.out 1
                          have hfz38_2 := blk_frozen BK144.out 2
                          have hfz38_3 := blk_frozen BK144.out 3
                          have hfz38_4 := blk_frozen BK144.out 4
                          have hfz38_5 := blk_frozen BK144.out 5
                          have hfz38_6 := blk_frozen BK144.out 6
                          have hfz38_7 := blk_frozen BK144.out 7
                          have hfz38_8 := blk_frozen BK144.out 8
                          go_wp2
                          repeat (go_quiet (fail); try go_wp2)
                          go_ret
                          exact ⟨by first | rfl | (simp [errW_none, errW_some] <;> rfl) | (simp [*, errW_none, errW_some] <;> rfl), by repeat (first | (with_reducible first | exact HB.out | apply below_alloc | apply pw_below_drewN | apply below_drew1 | refine below_set ?_ GE131.out | refine below_set ?_ GE144.out) | exact HB.out)⟩
                        · rw [if_neg c35] at H
                          have c35b0 : decide (0 ≤ t138) = false := decide_eq_false c35
                          clear c35
                          exact absurd ((Option.some.inj H).trans HRT.out) Bool.false_ne_true
                      · rw [if_neg c34] at H
                        have c34b0 : (x6_2 == (wrap64 (t133))) = false := beq_eq_false_iff_ne.mpr c34
                        have c34b1 : (x6_2 != (wrap64 (t133))) = true := bne_iff_ne.mpr c34
                        exact absurd ((Option.some.inj H).trans HRT.out) Bool.false_ne_true
                    · rw [if_neg c33] at H
                      have c33b0 : (t138 == 0) = false := beq_eq_false_iff_ne.mpr c33
                      have c33b1 : (t138 != 0) = true := bne_iff_ne.mpr c33
                      by_cases c39 : t138 ≥ 0
                      · rw [if_pos c39] at H
                        have c39b0 : decide (0 ≤ t138) = true := decide_eq_true c39
                        clear c39
                        obtain rfl := Option.some.inj H
                        have hnb40 := NB131_144.out
                        have hnc40 := NB144_131.out
                        have hcz41_0 : wr.cell? ⟨gb131, 0, none⟩ = some (.slice A0_0 l0_0.length c0_0) := (blk_cell BK131.out 0).trans rfl
                        have hcz41_1 : wr.cell? ⟨gb131, 1, none⟩ = some (.slice A0_1 l0_1.length c0_1) := (blk_cell BK131.out 1).trans rfl
                        have hcz41_2 : wr.cell? ⟨gb131, 2, none⟩ = some (.int .i64 a0_2) := (blk_cell BK131.out 2).trans rfl
                        have hcz41_3 : wr.cell? ⟨gb131, 3, none⟩ = some (.int .i64 a0_3) := (blk_cell BK131.out 3).trans rfl
                        have hcz41_4 : wr.cell? ⟨gb131, 4, none⟩ = some (.int .i32 a0_4) := (blk_cell BK131.out 4).trans rfl
                        have hfz41_0 := blk_frozen BK131.out 0
                        have hfz41_1 := blk_frozen BK131.out 1
                        have hfz41_2 := blk_frozen BK131.out 2
                        have hfz41_3 := blk_frozen BK131.out 3
                        have hfz41_4 := blk_frozen BK131.out 4
                        have hcz42_0 : wr.cell? ⟨gb144, 0, none⟩ = some (.int .i64 t134) := (blk_cell BK144.out 0).trans rfl
                        have hcz42_1 : wr.cell? ⟨gb144, 1, none⟩ = some (.int .i64 t135) := (blk_cell BK144.out 1).trans rfl
                        have hcz42_2 : wr.cell? ⟨gb144, 2, none⟩ = some (.int .i64 t136) := (blk_cell BK144.out 2).trans rfl
                        have hcz42_3 : wr.cell? ⟨gb144, 3, none⟩ = some (.int .i64 t137) := (blk_cell BK144.out 3).trans rfl
                        have hcz42_4 : wr.cell? ⟨gb144, 4, none⟩ = some (.int .i64 t138) := (blk_cell BK144.out 4).trans rfl
                        have hcz42_5 : wr.cell? ⟨gb144, 5, none⟩ = some (.int .i64 t139) := (blk_cell BK144.out 5).trans rfl
                        have hcz42_6 : wr.cell? ⟨gb144, 6, none⟩ = some (.int .i64 t140) := (blk_cell BK144.out 6).trans rfl
                        have hcz42_7 : wr.cell? ⟨gb144, 7, none⟩ = some (.int .i64 t141) := (blk_cell BK144.out 7).trans rfl
                        have hcz42_8 : wr.cell? ⟨gb144, 8, none⟩ = some (.int .i64 t142) := (blk_cell BK144.out 8).trans rfl
                        have hfz42_0 := blk_frozen BK144.out 0
                        have hfz42_1 := blk_frozen BK144.out 1
                        have hfz42_2 := blk_frozen BK144.out 2
                        have hfz42_3 := blk_frozen BK144.out 3
                        have hfz42_4 := blk_frozen BK144.out 4
                        have hfz42_5 := blk_frozen BK144.out 5
                        have hfz42_6 := blk_frozen BK144.out 6
                        have hfz42_7 := blk_frozen BK144.out 7
                        have hfz42_8 := blk_frozen BK144.out 8
                        go_wp2
                        repeat (go_quiet (fail); try go_wp2)
                        go_ret
                        exact ⟨by first | rfl | (simp [errW_none, errW_some] <;> rfl) | (simp [*, errW_none, errW_some] <;> rfl), by repeat (first | (with_reducible first | exact HB.out | apply below_alloc | apply pw_below_drewN | apply below_drew1 | refine below_set ?_ GE131.out | refine below_set ?_ GE144.out) | exact HB.out)⟩
                      · rw [if_neg c39] at H
                        have c39b0 : decide (0 ≤ t138) = false := decide_eq_false c39
                        clear c39
                        exact absurd ((Option.some.inj H).trans HRT.out) Bool.false_ne_true
                  · rw [if_neg c32] at H
                    have c32b0 : ((Int.tmod (wrap64 (x6_2 - (wrap64 (t133)))) 4294967296) == 0) = false := beq_eq_false_iff_ne.mpr c32
                    have c32b1 : ((Int.tmod (wrap64 (x6_2 - (wrap64 (t133)))) 4294967296) != 0) = true := bne_iff_ne.mpr c32
                    exact absurd ((Option.some.inj H).trans HRT.out) Bool.false_ne_true
                · rw [if_neg c31] at H
                  have c31b0 : (a0_2 == 32) = false := beq_eq_false_iff_ne.mpr c31
                  have c31b1 : (a0_2 != 32) = true := bne_iff_ne.mpr c31
                  by_cases c43 : (Int.tmod (wrap64 (x6_2 - (wrap64 (t133)))) 65536) = 0
                  · rw [if_pos c43] at H
                    have c43b0 : ((Int.tmod (wrap64 (x6_2 - (wrap64 (t133)))) 65536) == 0) = true := beq_iff_eq.mpr c43
                    have c43b1 : ((Int.tmod (wrap64 (x6_2 - (wrap64 (t133)))) 65536) != 0) = false := bne_eq_false_iff_eq.mpr c43
                    clear c43
                    by_cases c44 : t138 = 0
                    · rw [if_pos c44] at H
                      have c44b0 : (t138 == 0) = true := beq_iff_eq.mpr c44
                      have c44b1 : (t138 != 0) = false := bne_eq_false_iff_eq.mpr c44
                      clear c44
                      by_cases c45 : x6_2 = (wrap64 (t133))
                      · rw [if_pos c45] at H
                        have c45b0 : (x6_2 == (wrap64 (t133))) = true := beq_iff_eq.mpr c45
                        have c45b1 : (x6_2 != (wrap64 (t133))) = false := bne_eq_false_iff_eq.mpr c45
                        clear c45
                        by_cases c46 : t138 ≥ 0
                        · rw [if_pos c46] at H
                          have c46b0 : decide (0 ≤ t138) = true := decide_eq_true c46
                          clear c46
                          obtain rfl := Option.some.inj H
                          have hnb47 := NB131_144.out
                          have hnc47 := NB144_131.out
                          have hcz48_0 : wr.cell? ⟨gb131, 0, none⟩ = some (.slice A0_0 l0_0.length c0_0) := (blk_cell BK131.out 0).trans rfl
                          have hcz48_1 : wr.cell? ⟨gb131, 1, none⟩ = some (.slice A0_1 l0_1.length c0_1) := (blk_cell BK131.out 1).trans rfl
                          have hcz48_2 : wr.cell? ⟨gb131, 2, none⟩ = some (.int .i64 a0_2) := (blk_cell BK131.out 2).trans rfl
                          have hcz48_3 : wr.cell? ⟨gb131, 3, none⟩ = some (.int .i64 a0_3) := (blk_cell BK131.out 3).trans rfl
                          have hcz48_4 : wr.cell? ⟨gb131, 4, none⟩ = some (.int .i32 a0_4) := (blk_cell BK131.out 4).trans rfl
                          have hfz48_0 := blk_frozen BK131.out 0
                          have hfz48_1 := blk_frozen BK131.out 1
                          have hfz48_2 := blk_frozen BK131.out 2
                          have hfz48_3 := blk_frozen BK131.out 3
                          have hfz48_4 := blk_frozen BK131.out 4
                          have hcz49_0 : wr.cell? ⟨gb144, 0, none⟩ = some (.int .i64 t134) := (blk_cell BK144.out 0).trans rfl
                          have hcz49_1 : wr.cell? ⟨gb144, 1, none⟩ = some (.int .i64 t135) := (blk_cell BK144.out 1).trans rfl
                          have hcz49_2 : wr.cell? ⟨gb144, 2, none⟩ = some (.int .i64 t136) := (blk_cell BK144.out 2).trans rfl
                          have hcz49_3 : wr.cell? ⟨gb144, 3, none⟩ = some (.int .i64 t137) := (blk_cell BK144.out 3).trans rfl
                          have hcz49_4 : wr.cell? ⟨gb144, 4, none⟩ = some (.int .i64 t138) := (blk_cell BK144.out 4).trans rfl
                          have hcz49_5 : wr.cell? ⟨gb144, 5, none⟩ = some (.int .i64 t139) := (blk_cell BK144.out 5).trans rfl
                          have hcz49_6 : wr.cell? ⟨gb144, 6, none⟩ = some (.int .i64 t140) := (blk_cell BK144.out 6).trans rfl
                          have hcz49_7 : wr.cell? ⟨gb144, 7, none⟩ = some (.int .i64 t141) := (blk_cell BK144.out 7).trans rfl
                          have hcz49_8 : wr.cell? ⟨gb144, 8, none⟩ = some (.int .i64 t142) := (blk_cell BK144.out 8).trans rfl
                          have hfz49_0 := blk_frozen BK144.out 0
                          have hfz49_1 := blk_frozen BK144.out 1
                          have hfz49_2 := blk_frozen BK144.out 2
                          have hfz49_3 := blk_frozen BK144.out 3
                          have hfz49_4 := blk_frozen BK144.out 4
                          have hfz49_5 := blk_frozen BK144.out 5
                          have hfz49_6 := blk_frozen BK144.out 6
                          have hfz49_7 := blk_frozen BK144.out 7
                          have hfz49_8 := blk_frozen BK144.out 8
                          go_wp2
                          repeat (go_quiet (fail); try go_wp2)
                          go_ret
                          exact ⟨by first | rfl | (simp [errW_none, errW_some] <;> rfl) | (simp [*, errW_none, errW_some] <;> rfl), by repeat (first | (with_reducible first | exact HB.out | apply below_alloc | apply pw_below_drewN | apply below_drew1 | refine below_set ?_ GE131.out | refine below_set ?_ GE144.out) | exact HB.out)⟩
                        · rw [if_neg c46] at H
                          have c46b0 : decide (0 ≤ t138) = false := decide_eq_false c46
                          clear c46
                          exact absurd ((Option.some.inj H).trans HRT.out) Bool.false_ne_true
                      · rw [if_neg c45] at H
                        have c45b0 : (x6_2 == (wrap64 (t133))) = false := beq_eq_false_iff_ne.mpr c45
                        have c45b1 : (x6_2 != (wrap64 (t133))) = true := bne_iff_ne.mpr c45
                        exact absurd ((Option.some.inj H).trans HRT.out) Bool.false_ne_true
                    · rw [if_neg c44] at H
                      have c44b0 : (t138 == 0) = false := beq_eq_false_iff_ne.mpr c44
                      have c44b1 : (t138 != 0) = true := bne_iff_ne.mpr c44
                      by_cases c50 : t138 ≥ 0
                      · rw [if_pos c50] at H
                        have c50b0 : decide (0 ≤ t138) = true := decide_eq_true c50
                        clear c50
                        obtain rfl := Option.some.inj H
                        have hnb51 := NB131_144.out
                        have hnc51 := NB144_131.out
                        have hcz52_0 : wr.cell? ⟨gb131, 0, none⟩ = some (.slice A0_0 l0_0.length c0_0) := (blk_cell BK131.out 0).trans rfl
                        have hcz52_1 : wr.cell? ⟨gb131, 1, none⟩ = some (.slice A0_1 l0_1.length c0_1) := (blk_cell BK131.out 1).trans rfl
                        have hcz52_2 : wr.cell? ⟨gb131, 2, none⟩ = some (.int .i64 a0_2) := (blk_cell BK131.out 2).trans rfl
                        have hcz52_3 : wr.cell? ⟨gb131, 3, none⟩ = some (.int .i64 a0_3) := (blk_cell BK131.out 3).trans rfl
                        have hcz52_4 : wr.cell? ⟨gb131, 4, none⟩ = some (.int .i32 a0_4) := (blk_cell BK131.out 4).trans rfl
                        have hfz52_0 := blk_frozen BK131.out 0
                        have hfz52_1 := blk_frozen BK131.out 1
                        have hfz52_2 := blk_frozen BK131.out 2
                        have hfz52_3 := blk_frozen BK131.out 3
                        have hfz52_4 := blk_frozen BK131.out 4
                        have hcz53_0 : wr.cell? ⟨gb144, 0, none⟩ = some (.int .i64 t134) := (blk_cell BK144.out 0).trans rfl
                        have hcz53_1 : wr.cell? ⟨gb144, 1, none⟩ = some (.int .i64 t135) := (blk_cell BK144.out 1).trans rfl
                        have hcz53_2 : wr.cell? ⟨gb144, 2, none⟩ = some (.int .i64 t136) := (blk_cell BK144.out 2).trans rfl
                        have hcz53_3 : wr.cell? ⟨gb144, 3, none⟩ = some (.int .i64 t137) := (blk_cell BK144.out 3).trans rfl
                        have hcz53_4 : wr.cell? ⟨gb144, 4, none⟩ = some (.int .i64 t138) := (blk_cell BK144.out 4).trans rfl
                        have hcz53_5 : wr.cell? ⟨gb144, 5, none⟩ = some (.int .i64 t139) := (blk_cell BK144.out 5).trans rfl
                        have hcz53_6 : wr.cell? ⟨gb144, 6, none⟩ = some (.int .i64 t140) := (blk_cell BK144.out 6).trans rfl
                        have hcz53_7 : wr.cell? ⟨gb144, 7, none⟩ = some (.int .i64 t141) := (blk_cell BK144.out 7).trans rfl
                        have hcz53_8 : wr.cell? ⟨gb144, 8, none⟩ = some (.int .i64 t142) := (blk_cell BK144.out 8).trans rfl
                        have hfz53_0 := blk_frozen BK144.out 0
                        have hfz53_1 := blk_frozen BK144.out 1
                        have hfz53_2 := blk_frozen BK144.out 2
                        have hfz53_3 := blk_frozen BK144.out 3
                        have hfz53_4 := blk_frozen BK144.out 4
                        have hfz53_5 := blk_frozen BK144.out 5
                        have hfz53_6 := blk_frozen BK144.out 6
                        have hfz53_7 := blk_frozen BK144.out 7
                        have hfz53_8 := blk_frozen BK144.out 8
                        go_wp2
                        repeat (go_quiet (fail); try go_wp2)
                        go_ret
                        exact ⟨by first | rfl | (simp [errW_none, errW_some] <;> rfl) | (simp [*, errW_none, errW_some] <;> rfl), by repeat (first | (with_reducible first | exact HB.out | apply below_alloc | apply pw_below_drewN | apply below_drew1 | refine below_set ?_ GE131.out | refine below_set ?_ GE144.out) | exact HB.out)⟩
                      · rw [if_neg c50] at H
                        have c50b0 : decide (0 ≤ t138) = false := decide_eq_false c50
                        clear c50
                        exact absurd ((Option.some.inj H).trans HRT.out) Bool.false_ne_true
                  · rw [if_neg c43] at H
                    have c43b0 : ((Int.tmod (wrap64 (x6_2 - (wrap64 (t133)))) 65536) == 0) = false := beq_eq_false_iff_ne.mpr c43
                    have c43b1 : ((Int.tmod (wrap64 (x6_2 - (wrap64 (t133)))) 65536) != 0) = true := bne_iff_ne.mpr c43
                    exact absurd ((Option.some.inj H).trans HRT.out) Bool.false_ne_true
  · replace c3 := Bool.eq_false_iff.mpr c3
    subst c3
    have H1 : (some false) = some r := by rw [if_neg (show ¬ (false = true) by decide)] at H; exact H
    clear H
    have H := H1
    clear H1
    exact absurd ((Option.some.inj H).trans HRT.out) Bool.false_ne_true

end Go.Proofs.Ytnbhimgojnclbaa.CLeWhole
