-- PRINTED by print.py (a twelfth state) out of the translation. Not trusted: Lean checks it.
import Derived.Test.YtnbhimgojnclbaaCWowTapsx0
import Derived.Test.YtnbhimgojnclbaaCWowTapsx2
namespace Go.Proofs.Ytnbhimgojnclbaa.CWowTaps
open Go.RowKit Go.Proofs.YtnbhimgojnclbaaW.PrintWords Go.Proofs.YtnbhimgojnclbaaW.PrintLast Go.Proofs.YtnbhimgojnclbaaW.PrintMore
attribute [local go_sem] max2_int min2_int max_two min_two max_three min_three max_four min_four   -- for this text's walks alone
set_option linter.unusedVariables false
set_option linter.unusedSimpArgs false

/-! ### spillwayref06_Taps: function 26 -/
mutual
def spillwayref06_Taps.l0 : Nat → Int → Int → List Int → Int → Int → Int → Int → Int → Int → Int → Int → Int → Int → Int → Int → Option (List Int)
  | 0, _, _, _, _, _, _, _, _, _, _, _, _, _, _, _ => none
  | k + 1, x10, x11, x12, x13, x151000, x151001, x151002, x152000, x152001, x152002, x152003, x152004, x152005, x152006, x152007 => if x13 < x152000 then (spillwayref06_Taps.l1 k x10 x11 x12 x13 0 x151000 x151001 x151002 x152000 x152001 x152002 x152003 x152004 x152005 x152006 x152007) else (some x12)
def spillwayref06_Taps.l1 : Nat → Int → Int → List Int → Int → Int → Int → Int → Int → Int → Int → Int → Int → Int → Int → Int → Int → Option (List Int)
  | 0, _, _, _, _, _, _, _, _, _, _, _, _, _, _, _, _ => none
  | k + 1, x10, x11, x12, x13, x14, x151000, x151001, x151002, x152000, x152001, x152002, x152003, x152004, x152005, x152006, x152007 => if x14 < x152001 then (if (wrap64 ((wrap64 ((wrap64 (x10 * x152002)) - x152004)) + x13)) < 0 then (if x12.length < 17592186044416 then (spillwayref06_Taps.l1 k x10 x11 (x12 ++ [(-1)]) x13 (wrap64 (x14 + 1)) x151000 x151001 x151002 x152000 x152001 x152002 x152003 x152004 x152005 x152006 x152007) else (none)) else (if (wrap64 ((wrap64 ((wrap64 (x10 * x152002)) - x152004)) + x13)) ≥ x151000 then (if x12.length < 17592186044416 then (spillwayref06_Taps.l1 k x10 x11 (x12 ++ [(-1)]) x13 (wrap64 (x14 + 1)) x151000 x151001 x151002 x152000 x152001 x152002 x152003 x152004 x152005 x152006 x152007) else (none)) else (if (wrap64 ((wrap64 ((wrap64 (x11 * x152003)) - x152005)) + x14)) < 0 then (if x12.length < 17592186044416 then (spillwayref06_Taps.l1 k x10 x11 (x12 ++ [(-1)]) x13 (wrap64 (x14 + 1)) x151000 x151001 x151002 x152000 x152001 x152002 x152003 x152004 x152005 x152006 x152007) else (none)) else (if (wrap64 ((wrap64 ((wrap64 (x11 * x152003)) - x152005)) + x14)) ≥ x151001 then (if x12.length < 17592186044416 then (spillwayref06_Taps.l1 k x10 x11 (x12 ++ [(-1)]) x13 (wrap64 (x14 + 1)) x151000 x151001 x151002 x152000 x152001 x152002 x152003 x152004 x152005 x152006 x152007) else (none)) else (if x12.length < 17592186044416 then (spillwayref06_Taps.l1 k x10 x11 (x12 ++ [wrap64 ((wrap64 ((wrap64 ((wrap64 ((wrap64 (x10 * x152002)) - x152004)) + x13)) * x151001)) + (wrap64 ((wrap64 ((wrap64 (x11 * x152003)) - x152005)) + x14)))]) x13 (wrap64 (x14 + 1)) x151000 x151001 x151002 x152000 x152001 x152002 x152003 x152004 x152005 x152006 x152007) else (none)))))) else (spillwayref06_Taps.l0 k x10 x11 x12 (wrap64 (x13 + 1)) x151000 x151001 x151002 x152000 x152001 x152002 x152003 x152004 x152005 x152006 x152007)
end
def spillwayref06_Taps.f (k : Nat) (a0_0 : Int) (a0_1 : Int) (a0_2 : Int) (a1_0 : Int) (a1_1 : Int) (a1_2 : Int) (a1_3 : Int) (a1_4 : Int) (a1_5 : Int) (a1_6 : Int) (a1_7 : Int) (a2 : Int) : Option (List Int) := (spillwayref06_Out.f k a0_0 a0_1 a0_2 a1_0 a1_1 a1_2 a1_3 a1_4 a1_5 a1_6 a1_7).bind fun bt152 => (if bt152.2.1 = 0 then (none) else (spillwayref06_Taps.l0 k (wrap64 (Int.tdiv a2 bt152.2.1)) (Int.tmod a2 bt152.2.1) ([] : List Int) 0 a0_0 a0_1 a0_2 a1_0 a1_1 a1_2 a1_3 a1_4 a1_5 a1_6 a1_7))
theorem spillwayref06_Taps.mono_l : ∀ k, (∀ y0 y1 y2 y3 y4 y5 y6 y7 y8 y9 y10 y11 y12 y13 y14, LeO (spillwayref06_Taps.l0 k y0 y1 y2 y3 y4 y5 y6 y7 y8 y9 y10 y11 y12 y13 y14) (spillwayref06_Taps.l0 (k + 1) y0 y1 y2 y3 y4 y5 y6 y7 y8 y9 y10 y11 y12 y13 y14)) ∧ (∀ y0 y1 y2 y3 y4 y5 y6 y7 y8 y9 y10 y11 y12 y13 y14 y15, LeO (spillwayref06_Taps.l1 k y0 y1 y2 y3 y4 y5 y6 y7 y8 y9 y10 y11 y12 y13 y14 y15) (spillwayref06_Taps.l1 (k + 1) y0 y1 y2 y3 y4 y5 y6 y7 y8 y9 y10 y11 y12 y13 y14 y15))
  | 0 => ⟨fun _ _ _ _ _ _ _ _ _ _ _ _ _ _ _ r h => by simp [spillwayref06_Taps.l0] at h, fun _ _ _ _ _ _ _ _ _ _ _ _ _ _ _ _ r h => by simp [spillwayref06_Taps.l1] at h⟩
  | k + 1 => by
    obtain ⟨ih0, ih1⟩ := spillwayref06_Taps.mono_l k
    refine ⟨?_, ?_⟩
    · intro y0 y1 y2 y3 y4 y5 y6 y7 y8 y9 y10 y11 y12 y13 y14
      unfold spillwayref06_Taps.l0
      repeat' first
      | (with_reducible exact ih0 _ _ _ _ _ _ _ _ _ _ _ _ _ _ _)
      | (with_reducible exact ih1 _ _ _ _ _ _ _ _ _ _ _ _ _ _ _ _)
      | (with_reducible exact spillwayref06_Out.mono _ _ _ _ _ _ _ _ _ _ _ _)
      | (with_reducible exact LeO.refl _)
      | (with_reducible exact LeO.none _)
      | (with_reducible refine LeO.ite ?_ ?_)
      | (with_reducible refine LeO.bind ?_ (fun _ => ?_))
      | exact ih0 _ _ _ _ _ _ _ _ _ _ _ _ _ _ _
      | exact ih1 _ _ _ _ _ _ _ _ _ _ _ _ _ _ _ _
      | exact spillwayref06_Out.mono _ _ _ _ _ _ _ _ _ _ _ _
      | exact LeO.none _
      | refine LeO.ite ?_ ?_
      | refine LeO.bind ?_ (fun _ => ?_)
    · intro y0 y1 y2 y3 y4 y5 y6 y7 y8 y9 y10 y11 y12 y13 y14 y15
      unfold spillwayref06_Taps.l1
      repeat' first
      | (with_reducible exact ih0 _ _ _ _ _ _ _ _ _ _ _ _ _ _ _)
      | (with_reducible exact ih1 _ _ _ _ _ _ _ _ _ _ _ _ _ _ _ _)
      | (with_reducible exact spillwayref06_Out.mono _ _ _ _ _ _ _ _ _ _ _ _)
      | (with_reducible exact LeO.refl _)
      | (with_reducible exact LeO.none _)
      | (with_reducible refine LeO.ite ?_ ?_)
      | (with_reducible refine LeO.bind ?_ (fun _ => ?_))
      | exact ih0 _ _ _ _ _ _ _ _ _ _ _ _ _ _ _
      | exact ih1 _ _ _ _ _ _ _ _ _ _ _ _ _ _ _ _
      | exact spillwayref06_Out.mono _ _ _ _ _ _ _ _ _ _ _ _
      | exact LeO.none _
      | refine LeO.ite ?_ ?_
      | refine LeO.bind ?_ (fun _ => ?_)
theorem spillwayref06_Taps.mono : ∀ a0 a1 a2 a3 a4 a5 a6 a7 a8 a9 a10 a11 k, LeO (spillwayref06_Taps.f k a0 a1 a2 a3 a4 a5 a6 a7 a8 a9 a10 a11) (spillwayref06_Taps.f (k + 1) a0 a1 a2 a3 a4 a5 a6 a7 a8 a9 a10 a11) := by
  intro a0 a1 a2 a3 a4 a5 a6 a7 a8 a9 a10 a11 k
  obtain ⟨ih0, ih1⟩ := spillwayref06_Taps.mono_l k
  unfold spillwayref06_Taps.f
  repeat' first
      | (with_reducible exact ih0 _ _ _ _ _ _ _ _ _ _ _ _ _ _ _)
      | (with_reducible exact ih1 _ _ _ _ _ _ _ _ _ _ _ _ _ _ _ _)
      | (with_reducible exact spillwayref06_Out.mono _ _ _ _ _ _ _ _ _ _ _ _)
      | (with_reducible exact LeO.refl _)
      | (with_reducible exact LeO.none _)
      | (with_reducible refine LeO.ite ?_ ?_)
      | (with_reducible refine LeO.bind ?_ (fun _ => ?_))
      | exact ih0 _ _ _ _ _ _ _ _ _ _ _ _ _ _ _
      | exact ih1 _ _ _ _ _ _ _ _ _ _ _ _ _ _ _ _
      | exact spillwayref06_Out.mono _ _ _ _ _ _ _ _ _ _ _ _
      | exact LeO.none _
      | refine LeO.ite ?_ ?_
      | refine LeO.bind ?_ (fun _ => ?_)
set_option maxHeartbeats 8000000 in
set_option maxRecDepth 100000 in
theorem spillwayref06_Taps.calls (k : Nat) (a0_0 : Int) (a0_1 : Int) (a0_2 : Int) (a1_0 : Int) (a1_1 : Int) (a1_2 : Int) (a1_3 : Int) (a1_4 : Int) (a1_5 : Int) (a1_6 : Int) (a1_7 : Int) (a2 : Int) (r : List Int) (w : World) (h : spillwayref06_Taps.f k a0_0 a0_1 a0_2 a1_0 a1_1 a1_2 a1_3 a1_4 a1_5 a1_6 a1_7 a2 = some r) :
    Calls Try.prog 26 #[.agg #[.int .i64 a0_0, .int .i64 a0_1, .int .i64 a0_2], .agg #[.int .i64 a1_0, .int .i64 a1_1, .int .i64 a1_2, .int .i64 a1_3, .int .i64 a1_4, .int .i64 a1_5, .int .i64 a1_6, .int .i64 a1_7], .int .i64 a2] w fun e w' => ∃ v0_ : Value, e = .returned (v0_) ∧ Kd.R (Kd.int .i64) 3 w' w.heap.size (fun _ => True) v0_ r ∧ Below w.heap.size w w' := by
  have hu23 := Try.underlying23
  have hu25 := Try.underlying25
  have HB := Aside0.mk (Below.refl w.heap.size w)
  have H : ((spillwayref06_Out.f k a0_0 a0_1 a0_2 a1_0 a1_1 a1_2 a1_3 a1_4 a1_5 a1_6 a1_7).bind fun bt152 => (if bt152.2.1 = 0 then (none) else (spillwayref06_Taps.l0 k (wrap64 (Int.tdiv a2 bt152.2.1)) (Int.tmod a2 bt152.2.1) ([] : List Int) 0 a0_0 a0_1 a0_2 a1_0 a1_1 a1_2 a1_3 a1_4 a1_5 a1_6 a1_7))) = some r := h
  clear h
  replace H := Option.bind_eq_some_iff.mp H
  obtain ⟨⟨t152, t153, t154⟩, A40, H⟩ := H
  replace H : (if t153 = 0 then (none) else (spillwayref06_Taps.l0 k (wrap64 (Int.tdiv a2 t153)) (Int.tmod a2 t153) ([] : List Int) 0 a0_0 a0_1 a0_2 a1_0 a1_1 a1_2 a1_3 a1_4 a1_5 a1_6 a1_7)) = some r := H
  have A4 := Aside0.mk A40
  clear A40
  by_cases c5 : t153 = 0
  · rw [if_pos c5] at H
    exact absurd H (by simp)
  · rw [if_neg c5] at H
    have c5b0 : (t153 == 0) = false := beq_eq_false_iff_ne.mpr c5
    have c5b1 : (t153 != 0) = true := bne_iff_ne.mpr c5
    have H' := Aside0.mk H
    clear H
    go_enter Try.func26, Try.ntmps26
    go_wp2_with (first | ((with_reducible refine gate_dst (N := 3) rfl ?_); refine box_event ?hg (N := 3) ?hd (cs := #[.int .i64 a0_0, .int .i64 a0_1, .int .i64 a0_2]) (t := 23) ?hr ?_; (case hd => rfl); (case hg => rfl); (case hr => first | (go_simp; done) | (go_simp; rfl)); intro gb150 hg w6 hbox hb; have n0_ := Aside0.mk (below_step (by repeat (first | (with_reducible first | exact HB.out | apply below_alloc | apply pw_below_drewN | apply below_drew1) | exact HB.out)) hb); have n1_ := Aside0.mk (hbox); have n2_ := Aside0.mk ((by rw [hg]; exact (below_size (by repeat (first | (with_reducible first | exact HB.out | apply below_alloc | apply pw_below_drewN | apply below_drew1) | exact HB.out))) : w.heap.size ≤ gb150)); have n3_ := Aside0.mk ((by rw [hg]; exact (below_size (by repeat (first | (with_reducible first | exact HB.out | apply below_alloc | apply pw_below_drewN | apply below_drew1) | exact HB.out))) : w.heap.size ≤ gb150)); clear HB; have HB := n0_; have BK150 := n1_; have GW150 := n2_; have GE150 := n3_; clear n0_ n1_ n2_ n3_; clear hb hbox hg) | ((with_reducible refine gate_dst (N := 4) rfl ?_); refine box_event ?hg (N := 4) ?hd (cs := #[.int .i64 a1_0, .int .i64 a1_1, .int .i64 a1_2, .int .i64 a1_3, .int .i64 a1_4, .int .i64 a1_5, .int .i64 a1_6, .int .i64 a1_7]) (t := 25) ?hr ?_; (case hd => rfl); (case hg => rfl); (case hr => first | (go_simp; done) | (go_simp; rfl)); intro gb151 hg w7 hbox hb; have n0_ := Aside0.mk (blk_below (g := gb150) (o := .cells #[.int .i64 a0_0, .int .i64 a0_1, .int .i64 a0_2] 23 (0, 0)) (by (with_reducible repeat (first | refine blk_drewN ?_ _ | refine blk_drew ?_ | refine blk_alloc ?_ _)); exact BK150.out) hb); have n1_ := Aside0.mk (below_step (by repeat (first | (with_reducible first | exact HB.out | apply below_alloc | apply pw_below_drewN | apply below_drew1 | refine below_set ?_ GE150.out) | exact HB.out)) hb); have n2_ := Aside0.mk (hbox); have n3_ := Aside0.mk ((by rw [hg]; exact (below_size (by repeat (first | (with_reducible first | exact HB.out | apply below_alloc | apply pw_below_drewN | apply below_drew1 | refine below_set ?_ GE150.out) | exact HB.out))) : w.heap.size ≤ gb151)); have n4_ := Aside0.mk ((by rw [hg]; exact (below_size (by repeat (first | (with_reducible first | exact HB.out | apply below_alloc | apply pw_below_drewN | apply below_drew1 | refine below_set ?_ GE150.out) | exact HB.out))) : w.heap.size ≤ gb151)); have n5_ := Aside0.mk ((by rw [hg]; exact Nat.ne_of_lt (blk_lt (g := gb150) (o := .cells #[.int .i64 a0_0, .int .i64 a0_1, .int .i64 a0_2] 23 (0, 0)) (by (with_reducible repeat (first | refine blk_drewN ?_ _ | refine blk_drew ?_ | refine blk_alloc ?_ _)); exact BK150.out)) : gb150 ≠ gb151)); have n6_ := Aside0.mk ((by rw [hg]; exact Nat.ne_of_gt (blk_lt (g := gb150) (o := .cells #[.int .i64 a0_0, .int .i64 a0_1, .int .i64 a0_2] 23 (0, 0)) (by (with_reducible repeat (first | refine blk_drewN ?_ _ | refine blk_drew ?_ | refine blk_alloc ?_ _)); exact BK150.out)) : gb151 ≠ gb150)); clear BK150; clear HB; have BK150 := n0_; have HB := n1_; have BK151 := n2_; have GW151 := n3_; have GE151 := n4_; have NB150_151 := n5_; have NB151_150 := n6_; clear n0_ n1_ n2_ n3_ n4_ n5_ n6_; clear hb hbox hg; have hnb8 := NB150_151.out; have hnc8 := NB151_150.out; have hcz9_0 : w7.cell? ⟨gb150, 0, none⟩ = some (.int .i64 a0_0) := (blk_cell BK150.out 0).trans rfl; have hcz9_1 : w7.cell? ⟨gb150, 1, none⟩ = some (.int .i64 a0_1) := (blk_cell BK150.out 1).trans rfl; have hcz9_2 : w7.cell? ⟨gb150, 2, none⟩ = some (.int .i64 a0_2) := (blk_cell BK150.out 2).trans rfl; have hfz9_0 := blk_frozen BK150.out 0; have hfz9_1 := blk_frozen BK150.out 1; have hfz9_2 := blk_frozen BK150.out 2; have hcz10_0 : w7.cell? ⟨gb151, 0, none⟩ = some (.int .i64 a1_0) := (blk_cell BK151.out 0).trans rfl; have hcz10_1 : w7.cell? ⟨gb151, 1, none⟩ = some (.int .i64 a1_1) := (blk_cell BK151.out 1).trans rfl; have hcz10_2 : w7.cell? ⟨gb151, 2, none⟩ = some (.int .i64 a1_2) := (blk_cell BK151.out 2).trans rfl; have hcz10_3 : w7.cell? ⟨gb151, 3, none⟩ = some (.int .i64 a1_3) := (blk_cell BK151.out 3).trans rfl; have hcz10_4 : w7.cell? ⟨gb151, 4, none⟩ = some (.int .i64 a1_4) := (blk_cell BK151.out 4).trans rfl; have hcz10_5 : w7.cell? ⟨gb151, 5, none⟩ = some (.int .i64 a1_5) := (blk_cell BK151.out 5).trans rfl; have hcz10_6 : w7.cell? ⟨gb151, 6, none⟩ = some (.int .i64 a1_6) := (blk_cell BK151.out 6).trans rfl; have hcz10_7 : w7.cell? ⟨gb151, 7, none⟩ = some (.int .i64 a1_7) := (blk_cell BK151.out 7).trans rfl; have hfz10_0 := blk_frozen BK151.out 0; have hfz10_1 := blk_frozen BK151.out 1; have hfz10_2 := blk_frozen BK151.out 2; have hfz10_3 := blk_frozen BK151.out 3; have hfz10_4 := blk_frozen BK151.out 4; have hfz10_5 := blk_frozen BK151.out 5; have hfz10_6 := blk_frozen BK151.out 6; have hfz10_7 := blk_frozen BK151.out 7) | (go_at_call 15; (with_reducible refine (spillwayref06_Out.calls k a0_0 a0_1 a0_2 a1_0 a1_1 a1_2 a1_3 a1_4 a1_5 a1_6 a1_7 t152 t153 t154 _ A4.out).mono ?_); rintro e w11 ⟨rfl, hb⟩; have n0_ := Aside0.mk (blk_below (g := gb150) (o := .cells #[.int .i64 a0_0, .int .i64 a0_1, .int .i64 a0_2] 23 (0, 0)) (by (with_reducible repeat (first | refine blk_drewN ?_ _ | refine blk_drew ?_ | refine blk_alloc ?_ _)); exact BK150.out) hb); have n1_ := Aside0.mk (blk_below (g := gb151) (o := .cells #[.int .i64 a1_0, .int .i64 a1_1, .int .i64 a1_2, .int .i64 a1_3, .int .i64 a1_4, .int .i64 a1_5, .int .i64 a1_6, .int .i64 a1_7] 25 (0, 0)) (by (with_reducible repeat (first | refine blk_drewN ?_ _ | refine blk_drew ?_ | refine blk_alloc ?_ _)); exact BK151.out) hb); have n2_ := Aside0.mk (below_step (by repeat (first | (with_reducible first | exact HB.out | apply below_alloc | apply pw_below_drewN | apply below_drew1 | refine below_set ?_ GE150.out | refine below_set ?_ GE151.out) | exact HB.out)) hb); clear BK150; clear BK151; clear HB; have BK150 := n0_; have BK151 := n1_; have HB := n2_; clear n0_ n1_ n2_; (try clear hb); (try clear hb2); (try clear hk); (try clear hi)))
    repeat (go_quiet (first | ((with_reducible refine gate_dst (N := 3) rfl ?_); refine box_event ?hg (N := 3) ?hd (cs := #[.int .i64 a0_0, .int .i64 a0_1, .int .i64 a0_2]) (t := 23) ?hr ?_; (case hd => rfl); (case hg => rfl); (case hr => first | (go_simp; done) | (go_simp; rfl)); intro gb150 hg w6 hbox hb; have n0_ := Aside0.mk (below_step (by repeat (first | (with_reducible first | exact HB.out | apply below_alloc | apply pw_below_drewN | apply below_drew1) | exact HB.out)) hb); have n1_ := Aside0.mk (hbox); have n2_ := Aside0.mk ((by rw [hg]; exact (below_size (by repeat (first | (with_reducible first | exact HB.out | apply below_alloc | apply pw_below_drewN | apply below_drew1) | exact HB.out))) : w.heap.size ≤ gb150)); have n3_ := Aside0.mk ((by rw [hg]; exact (below_size (by repeat (first | (with_reducible first | exact HB.out | apply below_alloc | apply pw_below_drewN | apply below_drew1) | exact HB.out))) : w.heap.size ≤ gb150)); clear HB; have HB := n0_; have BK150 := n1_; have GW150 := n2_; have GE150 := n3_; clear n0_ n1_ n2_ n3_; clear hb hbox hg) | ((with_reducible refine gate_dst (N := 4) rfl ?_); refine box_event ?hg (N := 4) ?hd (cs := #[.int .i64 a1_0, .int .i64 a1_1, .int .i64 a1_2, .int .i64 a1_3, .int .i64 a1_4, .int .i64 a1_5, .int .i64 a1_6, .int .i64 a1_7]) (t := 25) ?hr ?_; (case hd => rfl); (case hg => rfl); (case hr => first | (go_simp; done) | (go_simp; rfl)); intro gb151 hg w7 hbox hb; have n0_ := Aside0.mk (blk_below (g := gb150) (o := .cells #[.int .i64 a0_0, .int .i64 a0_1, .int .i64 a0_2] 23 (0, 0)) (by (with_reducible repeat (first | refine blk_drewN ?_ _ | refine blk_drew ?_ | refine blk_alloc ?_ _)); exact BK150.out) hb); have n1_ := Aside0.mk (below_step (by repeat (first | (with_reducible first | exact HB.out | apply below_alloc | apply pw_below_drewN | apply below_drew1 | refine below_set ?_ GE150.out) | exact HB.out)) hb); have n2_ := Aside0.mk (hbox); have n3_ := Aside0.mk ((by rw [hg]; exact (below_size (by repeat (first | (with_reducible first | exact HB.out | apply below_alloc | apply pw_below_drewN | apply below_drew1 | refine below_set ?_ GE150.out) | exact HB.out))) : w.heap.size ≤ gb151)); have n4_ := Aside0.mk ((by rw [hg]; exact (below_size (by repeat (first | (with_reducible first | exact HB.out | apply below_alloc | apply pw_below_drewN | apply below_drew1 | refine below_set ?_ GE150.out) | exact HB.out))) : w.heap.size ≤ gb151)); have n5_ := Aside0.mk ((by rw [hg]; exact Nat.ne_of_lt (blk_lt (g := gb150) (o := .cells #[.int .i64 a0_0, .int .i64 a0_1, .int .i64 a0_2] 23 (0, 0)) (by (with_reducible repeat (first | refine blk_drewN ?_ _ | refine blk_drew ?_ | refine blk_alloc ?_ _)); exact BK150.out)) : gb150 ≠ gb151)); have n6_ := Aside0.mk ((by rw [hg]; exact Nat.ne_of_gt (blk_lt (g := gb150) (o := .cells #[.int .i64 a0_0, .int .i64 a0_1, .int .i64 a0_2] 23 (0, 0)) (by (with_reducible repeat (first | refine blk_drewN ?_ _ | refine blk_drew ?_ | refine blk_alloc ?_ _)); exact BK150.out)) : gb151 ≠ gb150)); clear BK150; clear HB; have BK150 := n0_; have HB := n1_; have BK151 := n2_; have GW151 := n3_; have GE151 := n4_; have NB150_151 := n5_; have NB151_150 := n6_; clear n0_ n1_ n2_ n3_ n4_ n5_ n6_; clear hb hbox hg; have hnb8 := NB150_151.out; have hnc8 := NB151_150.out; have hcz9_0 : w7.cell? ⟨gb150, 0, none⟩ = some (.int .i64 a0_0) := (blk_cell BK150.out 0).trans rfl; have hcz9_1 : w7.cell? ⟨gb150, 1, none⟩ = some (.int .i64 a0_1) := (blk_cell BK150.out 1).trans rfl; have hcz9_2 : w7.cell? ⟨gb150, 2, none⟩ = some (.int .i64 a0_2) := (blk_cell BK150.out 2).trans rfl; have hfz9_0 := blk_frozen BK150.out 0; have hfz9_1 := blk_frozen BK150.out 1; have hfz9_2 := blk_frozen BK150.out 2; have hcz10_0 : w7.cell? ⟨gb151, 0, none⟩ = some (.int .i64 a1_0) := (blk_cell BK151.out 0).trans rfl; have hcz10_1 : w7.cell? ⟨gb151, 1, none⟩ = some (.int .i64 a1_1) := (blk_cell BK151.out 1).trans rfl; have hcz10_2 : w7.cell? ⟨gb151, 2, none⟩ = some (.int .i64 a1_2) := (blk_cell BK151.out 2).trans rfl; have hcz10_3 : w7.cell? ⟨gb151, 3, none⟩ = some (.int .i64 a1_3) := (blk_cell BK151.out 3).trans rfl; have hcz10_4 : w7.cell? ⟨gb151, 4, none⟩ = some (.int .i64 a1_4) := (blk_cell BK151.out 4).trans rfl; have hcz10_5 : w7.cell? ⟨gb151, 5, none⟩ = some (.int .i64 a1_5) := (blk_cell BK151.out 5).trans rfl; have hcz10_6 : w7.cell? ⟨gb151, 6, none⟩ = some (.int .i64 a1_6) := (blk_cell BK151.out 6).trans rfl; have hcz10_7 : w7.cell? ⟨gb151, 7, none⟩ = some (.int .i64 a1_7) := (blk_cell BK151.out 7).trans rfl; have hfz10_0 := blk_frozen BK151.out 0; have hfz10_1 := blk_frozen BK151.out 1; have hfz10_2 := blk_frozen BK151.out 2; have hfz10_3 := blk_frozen BK151.out 3; have hfz10_4 := blk_frozen BK151.out 4; have hfz10_5 := blk_frozen BK151.out 5; have hfz10_6 := blk_frozen BK151.out 6; have hfz10_7 := blk_frozen BK151.out 7) | (go_at_call 15; (with_reducible refine (spillwayref06_Out.calls k a0_0 a0_1 a0_2 a1_0 a1_1 a1_2 a1_3 a1_4 a1_5 a1_6 a1_7 t152 t153 t154 _ A4.out).mono ?_); rintro e w11 ⟨rfl, hb⟩; have n0_ := Aside0.mk (blk_below (g := gb150) (o := .cells #[.int .i64 a0_0, .int .i64 a0_1, .int .i64 a0_2] 23 (0, 0)) (by (with_reducible repeat (first | refine blk_drewN ?_ _ | refine blk_drew ?_ | refine blk_alloc ?_ _)); exact BK150.out) hb); have n1_ := Aside0.mk (blk_below (g := gb151) (o := .cells #[.int .i64 a1_0, .int .i64 a1_1, .int .i64 a1_2, .int .i64 a1_3, .int .i64 a1_4, .int .i64 a1_5, .int .i64 a1_6, .int .i64 a1_7] 25 (0, 0)) (by (with_reducible repeat (first | refine blk_drewN ?_ _ | refine blk_drew ?_ | refine blk_alloc ?_ _)); exact BK151.out) hb); have n2_ := Aside0.mk (below_step (by repeat (first | (with_reducible first | exact HB.out | apply below_alloc | apply pw_below_drewN | apply below_drew1 | refine below_set ?_ GE150.out | refine below_set ?_ GE151.out) | exact HB.out)) hb); clear BK150; clear BK151; clear HB; have BK150 := n0_; have BK151 := n1_; have HB := n2_; clear n0_ n1_ n2_; (try clear hb); (try clear hb2); (try clear hk); (try clear hi))); try go_wp2_with (first | ((with_reducible refine gate_dst (N := 3) rfl ?_); refine box_event ?hg (N := 3) ?hd (cs := #[.int .i64 a0_0, .int .i64 a0_1, .int .i64 a0_2]) (t := 23) ?hr ?_; (case hd => rfl); (case hg => rfl); (case hr => first | (go_simp; done) | (go_simp; rfl)); intro gb150 hg w6 hbox hb; have n0_ := Aside0.mk (below_step (by repeat (first | (with_reducible first | exact HB.out | apply below_alloc | apply pw_below_drewN | apply below_drew1) | exact HB.out)) hb); have n1_ := Aside0.mk (hbox); have n2_ := Aside0.mk ((by rw [hg]; exact (below_size (by repeat (first | (with_reducible first | exact HB.out | apply below_alloc | apply pw_below_drewN | apply below_drew1) | exact HB.out))) : w.heap.size ≤ gb150)); have n3_ := Aside0.mk ((by rw [hg]; exact (below_size (by repeat (first | (with_reducible first | exact HB.out | apply below_alloc | apply pw_below_drewN | apply below_drew1) | exact HB.out))) : w.heap.size ≤ gb150)); clear HB; have HB := n0_; have BK150 := n1_; have GW150 := n2_; have GE150 := n3_; clear n0_ n1_ n2_ n3_; clear hb hbox hg) | ((with_reducible refine gate_dst (N := 4) rfl ?_); refine box_event ?hg (N := 4) ?hd (cs := #[.int .i64 a1_0, .int .i64 a1_1, .int .i64 a1_2, .int .i64 a1_3, .int .i64 a1_4, .int .i64 a1_5, .int .i64 a1_6, .int .i64 a1_7]) (t := 25) ?hr ?_; (case hd => rfl); (case hg => rfl); (case hr => first | (go_simp; done) | (go_simp; rfl)); intro gb151 hg w7 hbox hb; have n0_ := Aside0.mk (blk_below (g := gb150) (o := .cells #[.int .i64 a0_0, .int .i64 a0_1, .int .i64 a0_2] 23 (0, 0)) (by (with_reducible repeat (first | refine blk_drewN ?_ _ | refine blk_drew ?_ | refine blk_alloc ?_ _)); exact BK150.out) hb); have n1_ := Aside0.mk (below_step (by repeat (first | (with_reducible first | exact HB.out | apply below_alloc | apply pw_below_drewN | apply below_drew1 | refine below_set ?_ GE150.out) | exact HB.out)) hb); have n2_ := Aside0.mk (hbox); have n3_ := Aside0.mk ((by rw [hg]; exact (below_size (by repeat (first | (with_reducible first | exact HB.out | apply below_alloc | apply pw_below_drewN | apply below_drew1 | refine below_set ?_ GE150.out) | exact HB.out))) : w.heap.size ≤ gb151)); have n4_ := Aside0.mk ((by rw [hg]; exact (below_size (by repeat (first | (with_reducible first | exact HB.out | apply below_alloc | apply pw_below_drewN | apply below_drew1 | refine below_set ?_ GE150.out) | exact HB.out))) : w.heap.size ≤ gb151)); have n5_ := Aside0.mk ((by rw [hg]; exact Nat.ne_of_lt (blk_lt (g := gb150) (o := .cells #[.int .i64 a0_0, .int .i64 a0_1, .int .i64 a0_2] 23 (0, 0)) (by (with_reducible repeat (first | refine blk_drewN ?_ _ | refine blk_drew ?_ | refine blk_alloc ?_ _)); exact BK150.out)) : gb150 ≠ gb151)); have n6_ := Aside0.mk ((by rw [hg]; exact Nat.ne_of_gt (blk_lt (g := gb150) (o := .cells #[.int .i64 a0_0, .int .i64 a0_1, .int .i64 a0_2] 23 (0, 0)) (by (with_reducible repeat (first | refine blk_drewN ?_ _ | refine blk_drew ?_ | refine blk_alloc ?_ _)); exact BK150.out)) : gb151 ≠ gb150)); clear BK150; clear HB; have BK150 := n0_; have HB := n1_; have BK151 := n2_; have GW151 := n3_; have GE151 := n4_; have NB150_151 := n5_; have NB151_150 := n6_; clear n0_ n1_ n2_ n3_ n4_ n5_ n6_; clear hb hbox hg; have hnb8 := NB150_151.out; have hnc8 := NB151_150.out; have hcz9_0 : w7.cell? ⟨gb150, 0, none⟩ = some (.int .i64 a0_0) := (blk_cell BK150.out 0).trans rfl; have hcz9_1 : w7.cell? ⟨gb150, 1, none⟩ = some (.int .i64 a0_1) := (blk_cell BK150.out 1).trans rfl; have hcz9_2 : w7.cell? ⟨gb150, 2, none⟩ = some (.int .i64 a0_2) := (blk_cell BK150.out 2).trans rfl; have hfz9_0 := blk_frozen BK150.out 0; have hfz9_1 := blk_frozen BK150.out 1; have hfz9_2 := blk_frozen BK150.out 2; have hcz10_0 : w7.cell? ⟨gb151, 0, none⟩ = some (.int .i64 a1_0) := (blk_cell BK151.out 0).trans rfl; have hcz10_1 : w7.cell? ⟨gb151, 1, none⟩ = some (.int .i64 a1_1) := (blk_cell BK151.out 1).trans rfl; have hcz10_2 : w7.cell? ⟨gb151, 2, none⟩ = some (.int .i64 a1_2) := (blk_cell BK151.out 2).trans rfl; have hcz10_3 : w7.cell? ⟨gb151, 3, none⟩ = some (.int .i64 a1_3) := (blk_cell BK151.out 3).trans rfl; have hcz10_4 : w7.cell? ⟨gb151, 4, none⟩ = some (.int .i64 a1_4) := (blk_cell BK151.out 4).trans rfl; have hcz10_5 : w7.cell? ⟨gb151, 5, none⟩ = some (.int .i64 a1_5) := (blk_cell BK151.out 5).trans rfl; have hcz10_6 : w7.cell? ⟨gb151, 6, none⟩ = some (.int .i64 a1_6) := (blk_cell BK151.out 6).trans rfl; have hcz10_7 : w7.cell? ⟨gb151, 7, none⟩ = some (.int .i64 a1_7) := (blk_cell BK151.out 7).trans rfl; have hfz10_0 := blk_frozen BK151.out 0; have hfz10_1 := blk_frozen BK151.out 1; have hfz10_2 := blk_frozen BK151.out 2; have hfz10_3 := blk_frozen BK151.out 3; have hfz10_4 := blk_frozen BK151.out 4; have hfz10_5 := blk_frozen BK151.out 5; have hfz10_6 := blk_frozen BK151.out 6; have hfz10_7 := blk_frozen BK151.out 7) | (go_at_call 15; (with_reducible refine (spillwayref06_Out.calls k a0_0 a0_1 a0_2 a1_0 a1_1 a1_2 a1_3 a1_4 a1_5 a1_6 a1_7 t152 t153 t154 _ A4.out).mono ?_); rintro e w11 ⟨rfl, hb⟩; have n0_ := Aside0.mk (blk_below (g := gb150) (o := .cells #[.int .i64 a0_0, .int .i64 a0_1, .int .i64 a0_2] 23 (0, 0)) (by (with_reducible repeat (first | refine blk_drewN ?_ _ | refine blk_drew ?_ | refine blk_alloc ?_ _)); exact BK150.out) hb); have n1_ := Aside0.mk (blk_below (g := gb151) (o := .cells #[.int .i64 a1_0, .int .i64 a1_1, .int .i64 a1_2, .int .i64 a1_3, .int .i64 a1_4, .int .i64 a1_5, .int .i64 a1_6, .int .i64 a1_7] 25 (0, 0)) (by (with_reducible repeat (first | refine blk_drewN ?_ _ | refine blk_drew ?_ | refine blk_alloc ?_ _)); exact BK151.out) hb); have n2_ := Aside0.mk (below_step (by repeat (first | (with_reducible first | exact HB.out | apply below_alloc | apply pw_below_drewN | apply below_drew1 | refine below_set ?_ GE150.out | refine below_set ?_ GE151.out) | exact HB.out)) hb); clear BK150; clear BK151; clear HB; have BK150 := n0_; have BK151 := n1_; have HB := n2_; clear n0_ n1_ n2_; (try clear hb); (try clear hb2); (try clear hk); (try clear hi))))
    go_loopg [12, 13] k (fun kq v12 v13 w' => ∃ (x12_1 : List Int) (x13_1 : Int), v13 = .int .i64 x13_1 ∧ Aside0 (spillwayref06_Taps.l0 kq (wrap64 (Int.tdiv a2 t153)) (Int.tmod a2 t153) x12_1 x13_1 a0_0 a0_1 a0_2 a1_0 a1_1 a1_2 a1_3 a1_4 a1_5 a1_6 a1_7 = some r) ∧ Aside0 (kq ≤ k) ∧ Aside0 (Kd.R (Kd.int .i64) 3 w' w.heap.size (fun _ => True) v12 x12_1) ∧ Aside0 (w'.heap[gb150]? = some (.cells #[.int .i64 a0_0, .int .i64 a0_1, .int .i64 a0_2] 23 (0, 0))) ∧ Aside0 (w'.heap[gb151]? = some (.cells #[.int .i64 a1_0, .int .i64 a1_1, .int .i64 a1_2, .int .i64 a1_3, .int .i64 a1_4, .int .i64 a1_5, .int .i64 a1_6, .int .i64 a1_7] 25 (0, 0))) ∧ Aside0 (Below w.heap.size w w'))
    case atStart => exact ⟨(([] : List Int)), (0), (by first | rfl | (simp; done) | (simp [*]; done)), H', ⟨Nat.le_refl _⟩, ⟨by first | exact Kd.R_nil _ _ _ _ _ | exact Kd.N_nil _ _ _ _ _ | exact Kd.V_nil _ _ _ _ _ | exact Kd.Q_nil _ _ _ _ _ | exact Kd.S_nil _ _ _ _ _⟩, ⟨by (with_reducible repeat (first | refine blk_drewN ?_ _ | refine blk_drew ?_ | refine blk_alloc ?_ _)); exact BK150.out⟩, ⟨by (with_reducible repeat (first | refine blk_drewN ?_ _ | refine blk_drew ?_ | refine blk_alloc ?_ _)); exact BK151.out⟩, ⟨by repeat (first | (with_reducible first | exact HB.out | apply below_alloc | apply pw_below_drewN | apply below_drew1 | refine below_set ?_ GE150.out | refine below_set ?_ GE151.out) | exact HB.out)⟩⟩
    case round =>
      clear H'
      try clear c2
      try clear p2
      try clear c5
      try clear c5b0
      try clear c5b1
      try clear p6
      try clear c8
      try clear hcz10_0
      try clear hcz10_1
      try clear hcz10_2
      try clear hcz10_3
      try clear hcz10_4
      try clear hcz10_5
      try clear hcz10_6
      try clear hcz10_7
      try clear hcz9_0
      try clear hcz9_1
      try clear hcz9_2
      try clear hfz10_0
      try clear hfz10_1
      try clear hfz10_2
      try clear hfz10_3
      try clear hfz10_4
      try clear hfz10_5
      try clear hfz10_6
      try clear hfz10_7
      try clear hfz9_0
      try clear hfz9_1
      try clear hfz9_2
      obtain ⟨x12_1, x13_1, rfl, HA, HK1, HO_12, BK150, BK151, HB⟩ := hrel
      cases gk with
      | zero => exact absurd HA.out (by simp [spillwayref06_Taps.l0])
      | succ k1 =>
        have H := HA.out
        clear HA
        simp only [spillwayref06_Taps.l0] at H
        by_cases c12 : x13_1 < a1_0
        · rw [if_pos c12] at H
          have c12b0 : decide (x13_1 < a1_0) = true := decide_eq_true c12
          clear c12
          have H' := Aside0.mk H
          clear H
          have hnb13 := NB151_150.out
          have hnc13 := NB150_151.out
          have hcz14_0 : wr.cell? ⟨gb151, 0, none⟩ = some (.int .i64 a1_0) := (blk_cell BK151.out 0).trans rfl
          have hcz14_1 : wr.cell? ⟨gb151, 1, none⟩ = some (.int .i64 a1_1) := (blk_cell BK151.out 1).trans rfl
          have hcz14_2 : wr.cell? ⟨gb151, 2, none⟩ = some (.int .i64 a1_2) := (blk_cell BK151.out 2).trans rfl
          have hcz14_3 : wr.cell? ⟨gb151, 3, none⟩ = some (.int .i64 a1_3) := (blk_cell BK151.out 3).trans rfl
          have hcz14_4 : wr.cell? ⟨gb151, 4, none⟩ = some (.int .i64 a1_4) := (blk_cell BK151.out 4).trans rfl
          have hcz14_5 : wr.cell? ⟨gb151, 5, none⟩ = some (.int .i64 a1_5) := (blk_cell BK151.out 5).trans rfl
          have hcz14_6 : wr.cell? ⟨gb151, 6, none⟩ = some (.int .i64 a1_6) := (blk_cell BK151.out 6).trans rfl
          have hcz14_7 : wr.cell? ⟨gb151, 7, none⟩ = some (.int .i64 a1_7) := (blk_cell BK151.out 7).trans rfl
          have hfz14_0 := blk_frozen BK151.out 0
          have hfz14_1 := blk_frozen BK151.out 1
          have hfz14_2 := blk_frozen BK151.out 2
          have hfz14_3 := blk_frozen BK151.out 3
          have hfz14_4 := blk_frozen BK151.out 4
          have hfz14_5 := blk_frozen BK151.out 5
          have hfz14_6 := blk_frozen BK151.out 6
          have hfz14_7 := blk_frozen BK151.out 7
          go_wp2
          repeat (go_quiet (fail); try go_wp2)
          go_loopg [12, 14] k1 (fun kq v12 v14 w' => ∃ (x12_2 : List Int) (x14_2 : Int), v14 = .int .i64 x14_2 ∧ Aside0 (spillwayref06_Taps.l1 kq (wrap64 (Int.tdiv a2 t153)) (Int.tmod a2 t153) x12_2 x13_1 x14_2 a0_0 a0_1 a0_2 a1_0 a1_1 a1_2 a1_3 a1_4 a1_5 a1_6 a1_7 = some r) ∧ Aside0 (kq ≤ k1) ∧ Aside0 (Kd.R (Kd.int .i64) 3 w' w.heap.size (fun _ => True) v12 x12_2) ∧ Aside0 (w'.heap[gb150]? = some (.cells #[.int .i64 a0_0, .int .i64 a0_1, .int .i64 a0_2] 23 (0, 0))) ∧ Aside0 (w'.heap[gb151]? = some (.cells #[.int .i64 a1_0, .int .i64 a1_1, .int .i64 a1_2, .int .i64 a1_3, .int .i64 a1_4, .int .i64 a1_5, .int .i64 a1_6, .int .i64 a1_7] 25 (0, 0))) ∧ Aside0 (Below w.heap.size w w'))
          case atStart => exact ⟨(x12_1), (0), (by first | rfl | (simp; done) | (simp [*]; done)), H', ⟨Nat.le_refl _⟩, ⟨by (with_reducible repeat (first | apply Kd.R_alloc | apply Kd.R_drewN | apply Kd.R_drew)); exact HO_12.out⟩, ⟨by (with_reducible repeat (first | refine blk_drewN ?_ _ | refine blk_drew ?_ | refine blk_alloc ?_ _)); exact BK150.out⟩, ⟨by (with_reducible repeat (first | refine blk_drewN ?_ _ | refine blk_drew ?_ | refine blk_alloc ?_ _)); exact BK151.out⟩, ⟨by repeat (first | (with_reducible first | exact HB.out | apply below_alloc | apply pw_below_drewN | apply below_drew1 | refine below_set ?_ GE150.out | refine below_set ?_ GE151.out) | exact HB.out)⟩⟩
          case round =>
            clear H'
            try clear c1
            try clear c2
            try clear p2
            try clear c5
            try clear c5b0
            try clear c5b1
            try clear p6
            try clear c8
            try clear c12
            try clear c12b0
            try clear c13
            try clear hcz10_0
            try clear hcz10_1
            try clear hcz10_2
            try clear hcz10_3
            try clear hcz10_4
            try clear hcz10_5
            try clear hcz10_6
            try clear hcz10_7
            try clear hcz14_0
            try clear hcz14_1
            try clear hcz14_2
            try clear hcz14_3
            try clear hcz14_4
            try clear hcz14_5
            try clear hcz14_6
            try clear hcz14_7
            try clear hcz9_0
            try clear hcz9_1
            try clear hcz9_2
            try clear hfz10_0
            try clear hfz10_1
            try clear hfz10_2
            try clear hfz10_3
            try clear hfz10_4
            try clear hfz10_5
            try clear hfz10_6
            try clear hfz10_7
            try clear hfz14_0
            try clear hfz14_1
            try clear hfz14_2
            try clear hfz14_3
            try clear hfz14_4
            try clear hfz14_5
            try clear hfz14_6
            try clear hfz14_7
            try clear hfz9_0
            try clear hfz9_1
            try clear hfz9_2
            try clear p2
            try clear p6
            obtain ⟨x12_2, x14_2, rfl, HA, HK2, HO_12, BK150, BK151, HB⟩ := hrel
            cases gk with
            | zero => exact absurd HA.out (by simp [spillwayref06_Taps.l1])
            | succ k2 =>
              have H := HA.out
              clear HA
              simp only [spillwayref06_Taps.l1] at H
              by_cases c15 : x14_2 < a1_1
              · rw [if_pos c15] at H
                have c15b0 : decide (x14_2 < a1_1) = true := decide_eq_true c15
                clear c15
                by_cases c16 : (wrap64 ((wrap64 ((wrap64 ((wrap64 (Int.tdiv a2 t153)) * a1_2)) - a1_4)) + x13_1)) < 0
                · rw [if_pos c16] at H
                  have c16b0 : decide ((wrap64 ((wrap64 ((wrap64 ((wrap64 (Int.tdiv a2 t153)) * a1_2)) - a1_4)) + x13_1)) < 0) = true := decide_eq_true c16
                  clear c16
                  by_cases c17 : x12_2.length < 17592186044416
                  · rw [if_pos c17] at H
                    have LMc17 := Aside0.mk c17
                    clear c17
                    obtain ⟨y155, hy155⟩ : ∃ y_ : List Int, y_ = (x12_2 ++ [(-1)]) := ⟨_, rfl⟩
                    replace H : (spillwayref06_Taps.l1 k2 (wrap64 (Int.tdiv a2 t153)) (Int.tmod a2 t153) y155 x13_1 (wrap64 (x14_2 + 1)) a0_0 a0_1 a0_2 a1_0 a1_1 a1_2 a1_3 a1_4 a1_5 a1_6 a1_7) = some r := by first | (rw [hy155]; with_reducible exact H) | (have H2_ := (Option.bind_some _ _).symm.trans H; rw [hy155]; with_reducible exact H2_) | (have H2_ := (Option.bind_some _ _).symm.trans H; with_reducible exact H2_) | with_reducible exact H | (rw [hy155]; exact H) | exact H
                    have Ny155 := Aside0.mk hy155
                    clear hy155
                    have H' := Aside0.mk H
                    clear H
                    have hnb18 := NB151_150.out
                    have hnc18 := NB150_151.out
                    have hcz19_0 : wr.cell? ⟨gb151, 0, none⟩ = some (.int .i64 a1_0) := (blk_cell BK151.out 0).trans rfl
                    have hcz19_1 : wr.cell? ⟨gb151, 1, none⟩ = some (.int .i64 a1_1) := (blk_cell BK151.out 1).trans rfl
                    have hcz19_2 : wr.cell? ⟨gb151, 2, none⟩ = some (.int .i64 a1_2) := (blk_cell BK151.out 2).trans rfl
                    have hcz19_3 : wr.cell? ⟨gb151, 3, none⟩ = some (.int .i64 a1_3) := (blk_cell BK151.out 3).trans rfl
                    have hcz19_4 : wr.cell? ⟨gb151, 4, none⟩ = some (.int .i64 a1_4) := (blk_cell BK151.out 4).trans rfl
                    have hcz19_5 : wr.cell? ⟨gb151, 5, none⟩ = some (.int .i64 a1_5) := (blk_cell BK151.out 5).trans rfl
                    have hcz19_6 : wr.cell? ⟨gb151, 6, none⟩ = some (.int .i64 a1_6) := (blk_cell BK151.out 6).trans rfl
                    have hcz19_7 : wr.cell? ⟨gb151, 7, none⟩ = some (.int .i64 a1_7) := (blk_cell BK151.out 7).trans rfl
                    have hfz19_0 := blk_frozen BK151.out 0
                    have hfz19_1 := blk_frozen BK151.out 1
                    have hfz19_2 := blk_frozen BK151.out 2
                    have hfz19_3 := blk_frozen BK151.out 3
                    have hfz19_4 := blk_frozen BK151.out 4
                    have hfz19_5 := blk_frozen BK151.out 5
                    have hfz19_6 := blk_frozen BK151.out 6
                    have hfz19_7 := blk_frozen BK151.out 7
                    go_wp2_with (first | ((with_reducible refine gate_builtin (b := .append) (xs := #[.tmp 78, .tmp 79]) rfl ?_); at_builtin; refine Kd.R_append (Kd.int .i64) (w0 := w) w.heap.size rfl (.tmp 78) (.tmp 79) 34 3 (.int .i64 0) 8 rfl Try.underlying34 info3 rfl (by decide) (by omega) u12 x12_2 (-1) [.int .i64 (-1)] (fun _ => True) (fun _ => False) rfl rfl ?aP (fun _ hk => hk.elim) ?aF ?aO ?aB ?aS ?aL ?_; (case aP => exact rfl); (case aB => exact (by repeat (first | (with_reducible first | exact HB.out | apply below_alloc | apply pw_below_drewN | apply below_drew1 | refine below_set ?_ GE150.out | refine below_set ?_ GE151.out) | exact HB.out))); (case aF => exact (fun _ _ => trivial)); (case aO => exact (by (with_reducible repeat (first | apply Kd.R_alloc | apply Kd.R_drewN | apply Kd.R_drew)); exact HO_12.out)); (case aS => exact (below_size (by repeat (first | (with_reducible first | exact HB.out | apply below_alloc | apply pw_below_drewN | apply below_drew1 | refine below_set ?_ GE150.out | refine below_set ?_ GE151.out) | exact HB.out)))); (case aL => have := LMc17.out; omega); intro v156 w20 ho hb hg hat; rw [← Ny155.out] at ho; have n0_ := Aside0.mk (blk_grown (g := gb150) (o := .cells #[.int .i64 a0_0, .int .i64 a0_1, .int .i64 a0_2] 23 (0, 0)) (by (with_reducible repeat (first | refine blk_drewN ?_ _ | refine blk_drew ?_ | refine blk_alloc ?_ _)); exact BK150.out) hg (Kd.R_ne HO_12.out BK150.out (by decide))); have n1_ := Aside0.mk (blk_grown (g := gb151) (o := .cells #[.int .i64 a1_0, .int .i64 a1_1, .int .i64 a1_2, .int .i64 a1_3, .int .i64 a1_4, .int .i64 a1_5, .int .i64 a1_6, .int .i64 a1_7] 25 (0, 0)) (by (with_reducible repeat (first | refine blk_drewN ?_ _ | refine blk_drew ?_ | refine blk_alloc ?_ _)); exact BK151.out) hg (Kd.R_ne HO_12.out BK151.out (by decide))); have n2_ := Aside0.mk (hb); have n3_ := Aside0.mk (ho); clear BK150; clear BK151; clear HB; clear HO_12; have BK150 := n0_; have BK151 := n1_; have HB := n2_; have HO157 := n3_; clear n0_ n1_ n2_ n3_; clear ho hb hg hat))
                    repeat (go_quiet (first | ((with_reducible refine gate_builtin (b := .append) (xs := #[.tmp 78, .tmp 79]) rfl ?_); at_builtin; refine Kd.R_append (Kd.int .i64) (w0 := w) w.heap.size rfl (.tmp 78) (.tmp 79) 34 3 (.int .i64 0) 8 rfl Try.underlying34 info3 rfl (by decide) (by omega) u12 x12_2 (-1) [.int .i64 (-1)] (fun _ => True) (fun _ => False) rfl rfl ?aP (fun _ hk => hk.elim) ?aF ?aO ?aB ?aS ?aL ?_; (case aP => exact rfl); (case aB => exact (by repeat (first | (with_reducible first | exact HB.out | apply below_alloc | apply pw_below_drewN | apply below_drew1 | refine below_set ?_ GE150.out | refine below_set ?_ GE151.out) | exact HB.out))); (case aF => exact (fun _ _ => trivial)); (case aO => exact (by (with_reducible repeat (first | apply Kd.R_alloc | apply Kd.R_drewN | apply Kd.R_drew)); exact HO_12.out)); (case aS => exact (below_size (by repeat (first | (with_reducible first | exact HB.out | apply below_alloc | apply pw_below_drewN | apply below_drew1 | refine below_set ?_ GE150.out | refine below_set ?_ GE151.out) | exact HB.out)))); (case aL => have := LMc17.out; omega); intro v156 w20 ho hb hg hat; rw [← Ny155.out] at ho; have n0_ := Aside0.mk (blk_grown (g := gb150) (o := .cells #[.int .i64 a0_0, .int .i64 a0_1, .int .i64 a0_2] 23 (0, 0)) (by (with_reducible repeat (first | refine blk_drewN ?_ _ | refine blk_drew ?_ | refine blk_alloc ?_ _)); exact BK150.out) hg (Kd.R_ne HO_12.out BK150.out (by decide))); have n1_ := Aside0.mk (blk_grown (g := gb151) (o := .cells #[.int .i64 a1_0, .int .i64 a1_1, .int .i64 a1_2, .int .i64 a1_3, .int .i64 a1_4, .int .i64 a1_5, .int .i64 a1_6, .int .i64 a1_7] 25 (0, 0)) (by (with_reducible repeat (first | refine blk_drewN ?_ _ | refine blk_drew ?_ | refine blk_alloc ?_ _)); exact BK151.out) hg (Kd.R_ne HO_12.out BK151.out (by decide))); have n2_ := Aside0.mk (hb); have n3_ := Aside0.mk (ho); clear BK150; clear BK151; clear HB; clear HO_12; have BK150 := n0_; have BK151 := n1_; have HB := n2_; have HO157 := n3_; clear n0_ n1_ n2_ n3_; clear ho hb hg hat)); try go_wp2_with (first | ((with_reducible refine gate_builtin (b := .append) (xs := #[.tmp 78, .tmp 79]) rfl ?_); at_builtin; refine Kd.R_append (Kd.int .i64) (w0 := w) w.heap.size rfl (.tmp 78) (.tmp 79) 34 3 (.int .i64 0) 8 rfl Try.underlying34 info3 rfl (by decide) (by omega) u12 x12_2 (-1) [.int .i64 (-1)] (fun _ => True) (fun _ => False) rfl rfl ?aP (fun _ hk => hk.elim) ?aF ?aO ?aB ?aS ?aL ?_; (case aP => exact rfl); (case aB => exact (by repeat (first | (with_reducible first | exact HB.out | apply below_alloc | apply pw_below_drewN | apply below_drew1 | refine below_set ?_ GE150.out | refine below_set ?_ GE151.out) | exact HB.out))); (case aF => exact (fun _ _ => trivial)); (case aO => exact (by (with_reducible repeat (first | apply Kd.R_alloc | apply Kd.R_drewN | apply Kd.R_drew)); exact HO_12.out)); (case aS => exact (below_size (by repeat (first | (with_reducible first | exact HB.out | apply below_alloc | apply pw_below_drewN | apply below_drew1 | refine below_set ?_ GE150.out | refine below_set ?_ GE151.out) | exact HB.out)))); (case aL => have := LMc17.out; omega); intro v156 w20 ho hb hg hat; rw [← Ny155.out] at ho; have n0_ := Aside0.mk (blk_grown (g := gb150) (o := .cells #[.int .i64 a0_0, .int .i64 a0_1, .int .i64 a0_2] 23 (0, 0)) (by (with_reducible repeat (first | refine blk_drewN ?_ _ | refine blk_drew ?_ | refine blk_alloc ?_ _)); exact BK150.out) hg (Kd.R_ne HO_12.out BK150.out (by decide))); have n1_ := Aside0.mk (blk_grown (g := gb151) (o := .cells #[.int .i64 a1_0, .int .i64 a1_1, .int .i64 a1_2, .int .i64 a1_3, .int .i64 a1_4, .int .i64 a1_5, .int .i64 a1_6, .int .i64 a1_7] 25 (0, 0)) (by (with_reducible repeat (first | refine blk_drewN ?_ _ | refine blk_drew ?_ | refine blk_alloc ?_ _)); exact BK151.out) hg (Kd.R_ne HO_12.out BK151.out (by decide))); have n2_ := Aside0.mk (hb); have n3_ := Aside0.mk (ho); clear BK150; clear BK151; clear HB; clear HO_12; have BK150 := n0_; have BK151 := n1_; have HB := n2_; have HO157 := n3_; clear n0_ n1_ n2_ n3_; clear ho hb hg hat)))
                    go_roundg k2
                    case measure => have := HK1.out; have := HK2.out; omega
                    case rel => exact ⟨(y155), (wrap64 (x14_2 + 1)), (by first | rfl | (simp; done) | (simp [*]; done)), H', ⟨by have := HK1.out; have := HK2.out; omega⟩, ⟨by (with_reducible repeat (first | apply Kd.R_alloc | apply Kd.R_drewN | apply Kd.R_drew)); exact HO157.out⟩, ⟨by (with_reducible repeat (first | refine blk_drewN ?_ _ | refine blk_drew ?_ | refine blk_alloc ?_ _)); exact BK150.out⟩, ⟨by (with_reducible repeat (first | refine blk_drewN ?_ _ | refine blk_drew ?_ | refine blk_alloc ?_ _)); exact BK151.out⟩, ⟨by repeat (first | (with_reducible first | exact HB.out | apply below_alloc | apply pw_below_drewN | apply below_drew1 | refine below_set ?_ GE150.out | refine below_set ?_ GE151.out) | exact HB.out)⟩⟩
                  · rw [if_neg c17] at H
                    exact absurd H (by simp)
                · rw [if_neg c16] at H
                  have c16b0 : decide ((wrap64 ((wrap64 ((wrap64 ((wrap64 (Int.tdiv a2 t153)) * a1_2)) - a1_4)) + x13_1)) < 0) = false := decide_eq_false c16
                  clear c16
                  by_cases c21 : (wrap64 ((wrap64 ((wrap64 ((wrap64 (Int.tdiv a2 t153)) * a1_2)) - a1_4)) + x13_1)) ≥ a0_0
                  · rw [if_pos c21] at H
                    have c21b0 : decide (a0_0 ≤ (wrap64 ((wrap64 ((wrap64 ((wrap64 (Int.tdiv a2 t153)) * a1_2)) - a1_4)) + x13_1))) = true := decide_eq_true c21
                    clear c21
                    by_cases c22 : x12_2.length < 17592186044416
                    · rw [if_pos c22] at H
                      have LMc22 := Aside0.mk c22
                      clear c22
                      obtain ⟨y158, hy158⟩ : ∃ y_ : List Int, y_ = (x12_2 ++ [(-1)]) := ⟨_, rfl⟩
                      replace H : (spillwayref06_Taps.l1 k2 (wrap64 (Int.tdiv a2 t153)) (Int.tmod a2 t153) y158 x13_1 (wrap64 (x14_2 + 1)) a0_0 a0_1 a0_2 a1_0 a1_1 a1_2 a1_3 a1_4 a1_5 a1_6 a1_7) = some r := by first | (rw [hy158]; with_reducible exact H) | (have H2_ := (Option.bind_some _ _).symm.trans H; rw [hy158]; with_reducible exact H2_) | (have H2_ := (Option.bind_some _ _).symm.trans H; with_reducible exact H2_) | with_reducible exact H | (rw [hy158]; exact H) | exact H
                      have Ny158 := Aside0.mk hy158
                      clear hy158
                      have H' := Aside0.mk H
                      clear H
                      have hnb23 := NB151_150.out
                      have hnc23 := NB150_151.out
                      have hcz24_0 : wr.cell? ⟨gb151, 0, none⟩ = some (.int .i64 a1_0) := (blk_cell BK151.out 0).trans rfl
                      have hcz24_1 : wr.cell? ⟨gb151, 1, none⟩ = some (.int .i64 a1_1) := (blk_cell BK151.out 1).trans rfl
                      have hcz24_2 : wr.cell? ⟨gb151, 2, none⟩ = some (.int .i64 a1_2) := (blk_cell BK151.out 2).trans rfl
                      have hcz24_3 : wr.cell? ⟨gb151, 3, none⟩ = some (.int .i64 a1_3) := (blk_cell BK151.out 3).trans rfl
                      have hcz24_4 : wr.cell? ⟨gb151, 4, none⟩ = some (.int .i64 a1_4) := (blk_cell BK151.out 4).trans rfl
                      have hcz24_5 : wr.cell? ⟨gb151, 5, none⟩ = some (.int .i64 a1_5) := (blk_cell BK151.out 5).trans rfl
                      have hcz24_6 : wr.cell? ⟨gb151, 6, none⟩ = some (.int .i64 a1_6) := (blk_cell BK151.out 6).trans rfl
                      have hcz24_7 : wr.cell? ⟨gb151, 7, none⟩ = some (.int .i64 a1_7) := (blk_cell BK151.out 7).trans rfl
                      have hfz24_0 := blk_frozen BK151.out 0
                      have hfz24_1 := blk_frozen BK151.out 1
                      have hfz24_2 := blk_frozen BK151.out 2
                      have hfz24_3 := blk_frozen BK151.out 3
                      have hfz24_4 := blk_frozen BK151.out 4
                      have hfz24_5 := blk_frozen BK151.out 5
                      have hfz24_6 := blk_frozen BK151.out 6
                      have hfz24_7 := blk_frozen BK151.out 7
                      have hcz25_0 : wr.cell? ⟨gb150, 0, none⟩ = some (.int .i64 a0_0) := (blk_cell BK150.out 0).trans rfl
                      have hcz25_1 : wr.cell? ⟨gb150, 1, none⟩ = some (.int .i64 a0_1) := (blk_cell BK150.out 1).trans rfl
                      have hcz25_2 : wr.cell? ⟨gb150, 2, none⟩ = some (.int .i64 a0_2) := (blk_cell BK150.out 2).trans rfl
                      have hfz25_0 := blk_frozen BK150.out 0
                      have hfz25_1 := blk_frozen BK150.out 1
                      have hfz25_2 := blk_frozen BK150.out 2
                      go_wp2_with (first | ((with_reducible refine gate_builtin (b := .append) (xs := #[.tmp 78, .tmp 79]) rfl ?_); at_builtin; refine Kd.R_append (Kd.int .i64) (w0 := w) w.heap.size rfl (.tmp 78) (.tmp 79) 34 3 (.int .i64 0) 8 rfl Try.underlying34 info3 rfl (by decide) (by omega) u12 x12_2 (-1) [.int .i64 (-1)] (fun _ => True) (fun _ => False) rfl rfl ?aP (fun _ hk => hk.elim) ?aF ?aO ?aB ?aS ?aL ?_; (case aP => exact rfl); (case aB => exact (by repeat (first | (with_reducible first | exact HB.out | apply below_alloc | apply pw_below_drewN | apply below_drew1 | refine below_set ?_ GE150.out | refine below_set ?_ GE151.out) | exact HB.out))); (case aF => exact (fun _ _ => trivial)); (case aO => exact (by (with_reducible repeat (first | apply Kd.R_alloc | apply Kd.R_drewN | apply Kd.R_drew)); exact HO_12.out)); (case aS => exact (below_size (by repeat (first | (with_reducible first | exact HB.out | apply below_alloc | apply pw_below_drewN | apply below_drew1 | refine below_set ?_ GE150.out | refine below_set ?_ GE151.out) | exact HB.out)))); (case aL => have := LMc22.out; omega); intro v159 w26 ho hb hg hat; rw [← Ny158.out] at ho; have n0_ := Aside0.mk (blk_grown (g := gb150) (o := .cells #[.int .i64 a0_0, .int .i64 a0_1, .int .i64 a0_2] 23 (0, 0)) (by (with_reducible repeat (first | refine blk_drewN ?_ _ | refine blk_drew ?_ | refine blk_alloc ?_ _)); exact BK150.out) hg (Kd.R_ne HO_12.out BK150.out (by decide))); have n1_ := Aside0.mk (blk_grown (g := gb151) (o := .cells #[.int .i64 a1_0, .int .i64 a1_1, .int .i64 a1_2, .int .i64 a1_3, .int .i64 a1_4, .int .i64 a1_5, .int .i64 a1_6, .int .i64 a1_7] 25 (0, 0)) (by (with_reducible repeat (first | refine blk_drewN ?_ _ | refine blk_drew ?_ | refine blk_alloc ?_ _)); exact BK151.out) hg (Kd.R_ne HO_12.out BK151.out (by decide))); have n2_ := Aside0.mk (hb); have n3_ := Aside0.mk (ho); clear BK150; clear BK151; clear HB; clear HO_12; have BK150 := n0_; have BK151 := n1_; have HB := n2_; have HO160 := n3_; clear n0_ n1_ n2_ n3_; clear ho hb hg hat))
                      repeat (go_quiet (first | ((with_reducible refine gate_builtin (b := .append) (xs := #[.tmp 78, .tmp 79]) rfl ?_); at_builtin; refine Kd.R_append (Kd.int .i64) (w0 := w) w.heap.size rfl (.tmp 78) (.tmp 79) 34 3 (.int .i64 0) 8 rfl Try.underlying34 info3 rfl (by decide) (by omega) u12 x12_2 (-1) [.int .i64 (-1)] (fun _ => True) (fun _ => False) rfl rfl ?aP (fun _ hk => hk.elim) ?aF ?aO ?aB ?aS ?aL ?_; (case aP => exact rfl); (case aB => exact (by repeat (first | (with_reducible first | exact HB.out | apply below_alloc | apply pw_below_drewN | apply below_drew1 | refine below_set ?_ GE150.out | refine below_set ?_ GE151.out) | exact HB.out))); (case aF => exact (fun _ _ => trivial)); (case aO => exact (by (with_reducible repeat (first | apply Kd.R_alloc | apply Kd.R_drewN | apply Kd.R_drew)); exact HO_12.out)); (case aS => exact (below_size (by repeat (first | (with_reducible first | exact HB.out | apply below_alloc | apply pw_below_drewN | apply below_drew1 | refine below_set ?_ GE150.out | refine below_set ?_ GE151.out) | exact HB.out)))); (case aL => have := LMc22.out; omega); intro v159 w26 ho hb hg hat; rw [← Ny158.out] at ho; have n0_ := Aside0.mk (blk_grown (g := gb150) (o := .cells #[.int .i64 a0_0, .int .i64 a0_1, .int .i64 a0_2] 23 (0, 0)) (by (with_reducible repeat (first | refine blk_drewN ?_ _ | refine blk_drew ?_ | refine blk_alloc ?_ _)); exact BK150.out) hg (Kd.R_ne HO_12.out BK150.out (by decide))); have n1_ := Aside0.mk (blk_grown (g := gb151) (o := .cells #[.int .i64 a1_0, .int .i64 a1_1, .int .i64 a1_2, .int .i64 a1_3, .int .i64 a1_4, .int .i64 a1_5, .int .i64 a1_6, .int .i64 a1_7] 25 (0, 0)) (by (with_reducible repeat (first | refine blk_drewN ?_ _ | refine blk_drew ?_ | refine blk_alloc ?_ _)); exact BK151.out) hg (Kd.R_ne HO_12.out BK151.out (by decide))); have n2_ := Aside0.mk (hb); have n3_ := Aside0.mk (ho); clear BK150; clear BK151; clear HB; clear HO_12; have BK150 := n0_; have BK151 := n1_; have HB := n2_; have HO160 := n3_; clear n0_ n1_ n2_ n3_; clear ho hb hg hat)); try go_wp2_with (first | ((with_reducible refine gate_builtin (b := .append) (xs := #[.tmp 78, .tmp 79]) rfl ?_); at_builtin; refine Kd.R_append (Kd.int .i64) (w0 := w) w.heap.size rfl (.tmp 78) (.tmp 79) 34 3 (.int .i64 0) 8 rfl Try.underlying34 info3 rfl (by decide) (by omega) u12 x12_2 (-1) [.int .i64 (-1)] (fun _ => True) (fun _ => False) rfl rfl ?aP (fun _ hk => hk.elim) ?aF ?aO ?aB ?aS ?aL ?_; (case aP => exact rfl); (case aB => exact (by repeat (first | (with_reducible first | exact HB.out | apply below_alloc | apply pw_below_drewN | apply below_drew1 | refine below_set ?_ GE150.out | refine below_set ?_ GE151.out) | exact HB.out))); (case aF => exact (fun _ _ => trivial)); (case aO => exact (by (with_reducible repeat (first | apply Kd.R_alloc | apply Kd.R_drewN | apply Kd.R_drew)); exact HO_12.out)); (case aS => exact (below_size (by repeat (first | (with_reducible first | exact HB.out | apply below_alloc | apply pw_below_drewN | apply below_drew1 | refine below_set ?_ GE150.out | refine below_set ?_ GE151.out) | exact HB.out)))); (case aL => have := LMc22.out; omega); intro v159 w26 ho hb hg hat; rw [← Ny158.out] at ho; have n0_ := Aside0.mk (blk_grown (g := gb150) (o := .cells #[.int .i64 a0_0, .int .i64 a0_1, .int .i64 a0_2] 23 (0, 0)) (by (with_reducible repeat (first | refine blk_drewN ?_ _ | refine blk_drew ?_ | refine blk_alloc ?_ _)); exact BK150.out) hg (Kd.R_ne HO_12.out BK150.out (by decide))); have n1_ := Aside0.mk (blk_grown (g := gb151) (o := .cells #[.int .i64 a1_0, .int .i64 a1_1, .int .i64 a1_2, .int .i64 a1_3, .int .i64 a1_4, .int .i64 a1_5, .int .i64 a1_6, .int .i64 a1_7] 25 (0, 0)) (by (with_reducible repeat (first | refine blk_drewN ?_ _ | refine blk_drew ?_ | refine blk_alloc ?_ _)); exact BK151.out) hg (Kd.R_ne HO_12.out BK151.out (by decide))); have n2_ := Aside0.mk (hb); have n3_ := Aside0.mk (ho); clear BK150; clear BK151; clear HB; clear HO_12; have BK150 := n0_; have BK151 := n1_; have HB := n2_; have HO160 := n3_; clear n0_ n1_ n2_ n3_; clear ho hb hg hat)))
                      go_roundg k2
                      case measure => have := HK1.out; have := HK2.out; omega
                      case rel => exact ⟨(y158), (wrap64 (x14_2 + 1)), (by first | rfl | (simp; done) | (simp [*]; done)), H', ⟨by have := HK1.out; have := HK2.out; omega⟩, ⟨by (with_reducible repeat (first | apply Kd.R_alloc | apply Kd.R_drewN | apply Kd.R_drew)); exact HO160.out⟩, ⟨by (with_reducible repeat (first | refine blk_drewN ?_ _ | refine blk_drew ?_ | refine blk_alloc ?_ _)); exact BK150.out⟩, ⟨by (with_reducible repeat (first | refine blk_drewN ?_ _ | refine blk_drew ?_ | refine blk_alloc ?_ _)); exact BK151.out⟩, ⟨by repeat (first | (with_reducible first | exact HB.out | apply below_alloc | apply pw_below_drewN | apply below_drew1 | refine below_set ?_ GE150.out | refine below_set ?_ GE151.out) | exact HB.out)⟩⟩
                    · rw [if_neg c22] at H
                      exact absurd H (by simp)
                  · rw [if_neg c21] at H
                    have c21b0 : decide (a0_0 ≤ (wrap64 ((wrap64 ((wrap64 ((wrap64 (Int.tdiv a2 t153)) * a1_2)) - a1_4)) + x13_1))) = false := decide_eq_false c21
                    clear c21
                    by_cases c27 : (wrap64 ((wrap64 ((wrap64 ((Int.tmod a2 t153) * a1_3)) - a1_5)) + x14_2)) < 0
                    · rw [if_pos c27] at H
                      have c27b0 : decide ((wrap64 ((wrap64 ((wrap64 ((Int.tmod a2 t153) * a1_3)) - a1_5)) + x14_2)) < 0) = true := decide_eq_true c27
                      clear c27
                      by_cases c28 : x12_2.length < 17592186044416
                      · rw [if_pos c28] at H
                        have LMc28 := Aside0.mk c28
                        clear c28
                        obtain ⟨y161, hy161⟩ : ∃ y_ : List Int, y_ = (x12_2 ++ [(-1)]) := ⟨_, rfl⟩
                        replace H : (spillwayref06_Taps.l1 k2 (wrap64 (Int.tdiv a2 t153)) (Int.tmod a2 t153) y161 x13_1 (wrap64 (x14_2 + 1)) a0_0 a0_1 a0_2 a1_0 a1_1 a1_2 a1_3 a1_4 a1_5 a1_6 a1_7) = some r := by first | (rw [hy161]; with_reducible exact H) | (have H2_ := (Option.bind_some _ _).symm.trans H; rw [hy161]; with_reducible exact H2_) | (have H2_ := (Option.bind_some _ _).symm.trans H; with_reducible exact H2_) | with_reducible exact H | (rw [hy161]; exact H) | exact H
                        have Ny161 := Aside0.mk hy161
                        clear hy161
                        have H' := Aside0.mk H
                        clear H
                        have hnb29 := NB151_150.out
                        have hnc29 := NB150_151.out
                        have hcz30_0 : wr.cell? ⟨gb151, 0, none⟩ = some (.int .i64 a1_0) := (blk_cell BK151.out 0).trans rfl
                        have hcz30_1 : wr.cell? ⟨gb151, 1, none⟩ = some (.int .i64 a1_1) := (blk_cell BK151.out 1).trans rfl
                        have hcz30_2 : wr.cell? ⟨gb151, 2, none⟩ = some (.int .i64 a1_2) := (blk_cell BK151.out 2).trans rfl
                        have hcz30_3 : wr.cell? ⟨gb151, 3, none⟩ = some (.int .i64 a1_3) := (blk_cell BK151.out 3).trans rfl
                        have hcz30_4 : wr.cell? ⟨gb151, 4, none⟩ = some (.int .i64 a1_4) := (blk_cell BK151.out 4).trans rfl
                        have hcz30_5 : wr.cell? ⟨gb151, 5, none⟩ = some (.int .i64 a1_5) := (blk_cell BK151.out 5).trans rfl
                        have hcz30_6 : wr.cell? ⟨gb151, 6, none⟩ = some (.int .i64 a1_6) := (blk_cell BK151.out 6).trans rfl
                        have hcz30_7 : wr.cell? ⟨gb151, 7, none⟩ = some (.int .i64 a1_7) := (blk_cell BK151.out 7).trans rfl
                        have hfz30_0 := blk_frozen BK151.out 0
                        have hfz30_1 := blk_frozen BK151.out 1
                        have hfz30_2 := blk_frozen BK151.out 2
                        have hfz30_3 := blk_frozen BK151.out 3
                        have hfz30_4 := blk_frozen BK151.out 4
                        have hfz30_5 := blk_frozen BK151.out 5
                        have hfz30_6 := blk_frozen BK151.out 6
                        have hfz30_7 := blk_frozen BK151.out 7
                        have hcz31_0 : wr.cell? ⟨gb150, 0, none⟩ = some (.int .i64 a0_0) := (blk_cell BK150.out 0).trans rfl
                        have hcz31_1 : wr.cell? ⟨gb150, 1, none⟩ = some (.int .i64 a0_1) := (blk_cell BK150.out 1).trans rfl
                        have hcz31_2 : wr.cell? ⟨gb150, 2, none⟩ = some (.int .i64 a0_2) := (blk_cell BK150.out 2).trans rfl
                        have hfz31_0 := blk_frozen BK150.out 0
                        have hfz31_1 := blk_frozen BK150.out 1
                        have hfz31_2 := blk_frozen BK150.out 2
                        go_wp2_with (first | ((with_reducible refine gate_builtin (b := .append) (xs := #[.tmp 78, .tmp 79]) rfl ?_); at_builtin; refine Kd.R_append (Kd.int .i64) (w0 := w) w.heap.size rfl (.tmp 78) (.tmp 79) 34 3 (.int .i64 0) 8 rfl Try.underlying34 info3 rfl (by decide) (by omega) u12 x12_2 (-1) [.int .i64 (-1)] (fun _ => True) (fun _ => False) rfl rfl ?aP (fun _ hk => hk.elim) ?aF ?aO ?aB ?aS ?aL ?_; (case aP => exact rfl); (case aB => exact (by repeat (first | (with_reducible first | exact HB.out | apply below_alloc | apply pw_below_drewN | apply below_drew1 | refine below_set ?_ GE150.out | refine below_set ?_ GE151.out) | exact HB.out))); (case aF => exact (fun _ _ => trivial)); (case aO => exact (by (with_reducible repeat (first | apply Kd.R_alloc | apply Kd.R_drewN | apply Kd.R_drew)); exact HO_12.out)); (case aS => exact (below_size (by repeat (first | (with_reducible first | exact HB.out | apply below_alloc | apply pw_below_drewN | apply below_drew1 | refine below_set ?_ GE150.out | refine below_set ?_ GE151.out) | exact HB.out)))); (case aL => have := LMc28.out; omega); intro v162 w32 ho hb hg hat; rw [← Ny161.out] at ho; have n0_ := Aside0.mk (blk_grown (g := gb150) (o := .cells #[.int .i64 a0_0, .int .i64 a0_1, .int .i64 a0_2] 23 (0, 0)) (by (with_reducible repeat (first | refine blk_drewN ?_ _ | refine blk_drew ?_ | refine blk_alloc ?_ _)); exact BK150.out) hg (Kd.R_ne HO_12.out BK150.out (by decide))); have n1_ := Aside0.mk (blk_grown (g := gb151) (o := .cells #[.int .i64 a1_0, .int .i64 a1_1, .int .i64 a1_2, .int .i64 a1_3, .int .i64 a1_4, .int .i64 a1_5, .int .i64 a1_6, .int .i64 a1_7] 25 (0, 0)) (by (with_reducible repeat (first | refine blk_drewN ?_ _ | refine blk_drew ?_ | refine blk_alloc ?_ _)); exact BK151.out) hg (Kd.R_ne HO_12.out BK151.out (by decide))); have n2_ := Aside0.mk (hb); have n3_ := Aside0.mk (ho); clear BK150; clear BK151; clear HB; clear HO_12; have BK150 := n0_; have BK151 := n1_; have HB := n2_; have HO163 := n3_; clear n0_ n1_ n2_ n3_; clear ho hb hg hat))
                        repeat (go_quiet (first | ((with_reducible refine gate_builtin (b := .append) (xs := #[.tmp 78, .tmp 79]) rfl ?_); at_builtin; refine Kd.R_append (Kd.int .i64) (w0 := w) w.heap.size rfl (.tmp 78) (.tmp 79) 34 3 (.int .i64 0) 8 rfl Try.underlying34 info3 rfl (by decide) (by omega) u12 x12_2 (-1) [.int .i64 (-1)] (fun _ => True) (fun _ => False) rfl rfl ?aP (fun _ hk => hk.elim) ?aF ?aO ?aB ?aS ?aL ?_; (case aP => exact rfl); (case aB => exact (by repeat (first | (with_reducible first | exact HB.out | apply below_alloc | apply pw_below_drewN | apply below_drew1 | refine below_set ?_ GE150.out | refine below_set ?_ GE151.out) | exact HB.out))); (case aF => exact (fun _ _ => trivial)); (case aO => exact (by (with_reducible repeat (first | apply Kd.R_alloc | apply Kd.R_drewN | apply Kd.R_drew)); exact HO_12.out)); (case aS => exact (below_size (by repeat (first | (with_reducible first | exact HB.out | apply below_alloc | apply pw_below_drewN | apply below_drew1 | refine below_set ?_ GE150.out | refine below_set ?_ GE151.out) | exact HB.out)))); (case aL => have := LMc28.out; omega); intro v162 w32 ho hb hg hat; rw [← Ny161.out] at ho; have n0_ := Aside0.mk (blk_grown (g := gb150) (o := .cells #[.int .i64 a0_0, .int .i64 a0_1, .int .i64 a0_2] 23 (0, 0)) (by (with_reducible repeat (first | refine blk_drewN ?_ _ | refine blk_drew ?_ | refine blk_alloc ?_ _)); exact BK150.out) hg (Kd.R_ne HO_12.out BK150.out (by decide))); have n1_ := Aside0.mk (blk_grown (g := gb151) (o := .cells #[.int .i64 a1_0, .int .i64 a1_1, .int .i64 a1_2, .int .i64 a1_3, .int .i64 a1_4, .int .i64 a1_5, .int .i64 a1_6, .int .i64 a1_7] 25 (0, 0)) (by (with_reducible repeat (first | refine blk_drewN ?_ _ | refine blk_drew ?_ | refine blk_alloc ?_ _)); exact BK151.out) hg (Kd.R_ne HO_12.out BK151.out (by decide))); have n2_ := Aside0.mk (hb); have n3_ := Aside0.mk (ho); clear BK150; clear BK151; clear HB; clear HO_12; have BK150 := n0_; have BK151 := n1_; have HB := n2_; have HO163 := n3_; clear n0_ n1_ n2_ n3_; clear ho hb hg hat)); try go_wp2_with (first | ((with_reducible refine gate_builtin (b := .append) (xs := #[.tmp 78, .tmp 79]) rfl ?_); at_builtin; refine Kd.R_append (Kd.int .i64) (w0 := w) w.heap.size rfl (.tmp 78) (.tmp 79) 34 3 (.int .i64 0) 8 rfl Try.underlying34 info3 rfl (by decide) (by omega) u12 x12_2 (-1) [.int .i64 (-1)] (fun _ => True) (fun _ => False) rfl rfl ?aP (fun _ hk => hk.elim) ?aF ?aO ?aB ?aS ?aL ?_; (case aP => exact rfl); (case aB => exact (by repeat (first | (with_reducible first | exact HB.out | apply below_alloc | apply pw_below_drewN | apply below_drew1 | refine below_set ?_ GE150.out | refine below_set ?_ GE151.out) | exact HB.out))); (case aF => exact (fun _ _ => trivial)); (case aO => exact (by (with_reducible repeat (first | apply Kd.R_alloc | apply Kd.R_drewN | apply Kd.R_drew)); exact HO_12.out)); (case aS => exact (below_size (by repeat (first | (with_reducible first | exact HB.out | apply below_alloc | apply pw_below_drewN | apply below_drew1 | refine below_set ?_ GE150.out | refine below_set ?_ GE151.out) | exact HB.out)))); (case aL => have := LMc28.out; omega); intro v162 w32 ho hb hg hat; rw [← Ny161.out] at ho; have n0_ := Aside0.mk (blk_grown (g := gb150) (o := .cells #[.int .i64 a0_0, .int .i64 a0_1, .int .i64 a0_2] 23 (0, 0)) (by (with_reducible repeat (first | refine blk_drewN ?_ _ | refine blk_drew ?_ | refine blk_alloc ?_ _)); exact BK150.out) hg (Kd.R_ne HO_12.out BK150.out (by decide))); have n1_ := Aside0.mk (blk_grown (g := gb151) (o := .cells #[.int .i64 a1_0, .int .i64 a1_1, .int .i64 a1_2, .int .i64 a1_3, .int .i64 a1_4, .int .i64 a1_5, .int .i64 a1_6, .int .i64 a1_7] 25 (0, 0)) (by (with_reducible repeat (first | refine blk_drewN ?_ _ | refine blk_drew ?_ | refine blk_alloc ?_ _)); exact BK151.out) hg (Kd.R_ne HO_12.out BK151.out (by decide))); have n2_ := Aside0.mk (hb); have n3_ := Aside0.mk (ho); clear BK150; clear BK151; clear HB; clear HO_12; have BK150 := n0_; have BK151 := n1_; have HB := n2_; have HO163 := n3_; clear n0_ n1_ n2_ n3_; clear ho hb hg hat)))
                        go_roundg k2
                        case measure => have := HK1.out; have := HK2.out; omega
                        case rel => exact ⟨(y161), (wrap64 (x14_2 + 1)), (by first | rfl | (simp; done) | (simp [*]; done)), H', ⟨by have := HK1.out; have := HK2.out; omega⟩, ⟨by (with_reducible repeat (first | apply Kd.R_alloc | apply Kd.R_drewN | apply Kd.R_drew)); exact HO163.out⟩, ⟨by (with_reducible repeat (first | refine blk_drewN ?_ _ | refine blk_drew ?_ | refine blk_alloc ?_ _)); exact BK150.out⟩, ⟨by (with_reducible repeat (first | refine blk_drewN ?_ _ | refine blk_drew ?_ | refine blk_alloc ?_ _)); exact BK151.out⟩, ⟨by repeat (first | (with_reducible first | exact HB.out | apply below_alloc | apply pw_below_drewN | apply below_drew1 | refine below_set ?_ GE150.out | refine below_set ?_ GE151.out) | exact HB.out)⟩⟩
                      · rw [if_neg c28] at H
                        exact absurd H (by simp)
                    · rw [if_neg c27] at H
                      have c27b0 : decide ((wrap64 ((wrap64 ((wrap64 ((Int.tmod a2 t153) * a1_3)) - a1_5)) + x14_2)) < 0) = false := decide_eq_false c27
                      clear c27
                      by_cases c33 : (wrap64 ((wrap64 ((wrap64 ((Int.tmod a2 t153) * a1_3)) - a1_5)) + x14_2)) ≥ a0_1
                      · rw [if_pos c33] at H
                        have c33b0 : decide (a0_1 ≤ (wrap64 ((wrap64 ((wrap64 ((Int.tmod a2 t153) * a1_3)) - a1_5)) + x14_2))) = true := decide_eq_true c33
                        clear c33
                        by_cases c34 : x12_2.length < 17592186044416
                        · rw [if_pos c34] at H
                          have LMc34 := Aside0.mk c34
                          clear c34
                          obtain ⟨y164, hy164⟩ : ∃ y_ : List Int, y_ = (x12_2 ++ [(-1)]) := ⟨_, rfl⟩
                          replace H : (spillwayref06_Taps.l1 k2 (wrap64 (Int.tdiv a2 t153)) (Int.tmod a2 t153) y164 x13_1 (wrap64 (x14_2 + 1)) a0_0 a0_1 a0_2 a1_0 a1_1 a1_2 a1_3 a1_4 a1_5 a1_6 a1_7) = some r := by first | (rw [hy164]; with_reducible exact H) | (have H2_ := (Option.bind_some _ _).symm.trans H; rw [hy164]; with_reducible exact H2_) | (have H2_ := (Option.bind_some _ _).symm.trans H; with_reducible exact H2_) | with_reducible exact H | (rw [hy164]; exact H) | exact H
                          have Ny164 := Aside0.mk hy164
                          clear hy164
                          have H' := Aside0.mk H
                          clear H
                          have hnb35 := NB151_150.out
                          have hnc35 := NB150_151.out
                          have hcz36_0 : wr.cell? ⟨gb151, 0, none⟩ = some (.int .i64 a1_0) := (blk_cell BK151.out 0).trans rfl
                          have hcz36_1 : wr.cell? ⟨gb151, 1, none⟩ = some (.int .i64 a1_1) := (blk_cell BK151.out 1).trans rfl
                          have hcz36_2 : wr.cell? ⟨gb151, 2, none⟩ = some (.int .i64 a1_2) := (blk_cell BK151.out 2).trans rfl
                          have hcz36_3 : wr.cell? ⟨gb151, 3, none⟩ = some (.int .i64 a1_3) := (blk_cell BK151.out 3).trans rfl
                          have hcz36_4 : wr.cell? ⟨gb151, 4, none⟩ = some (.int .i64 a1_4) := (blk_cell BK151.out 4).trans rfl
                          have hcz36_5 : wr.cell? ⟨gb151, 5, none⟩ = some (.int .i64 a1_5) := (blk_cell BK151.out 5).trans rfl
                          have hcz36_6 : wr.cell? ⟨gb151, 6, none⟩ = some (.int .i64 a1_6) := (blk_cell BK151.out 6).trans rfl
                          have hcz36_7 : wr.cell? ⟨gb151, 7, none⟩ = some (.int .i64 a1_7) := (blk_cell BK151.out 7).trans rfl
                          have hfz36_0 := blk_frozen BK151.out 0
                          have hfz36_1 := blk_frozen BK151.out 1
                          have hfz36_2 := blk_frozen BK151.out 2
                          have hfz36_3 := blk_frozen BK151.out 3
                          have hfz36_4 := blk_frozen BK151.out 4
                          have hfz36_5 := blk_frozen BK151.out 5
                          have hfz36_6 := blk_frozen BK151.out 6
                          have hfz36_7 := blk_frozen BK151.out 7
                          have hcz37_0 : wr.cell? ⟨gb150, 0, none⟩ = some (.int .i64 a0_0) := (blk_cell BK150.out 0).trans rfl
                          have hcz37_1 : wr.cell? ⟨gb150, 1, none⟩ = some (.int .i64 a0_1) := (blk_cell BK150.out 1).trans rfl
                          have hcz37_2 : wr.cell? ⟨gb150, 2, none⟩ = some (.int .i64 a0_2) := (blk_cell BK150.out 2).trans rfl
                          have hfz37_0 := blk_frozen BK150.out 0
                          have hfz37_1 := blk_frozen BK150.out 1
                          have hfz37_2 := blk_frozen BK150.out 2
                          go_wp2_with (first | ((with_reducible refine gate_builtin (b := .append) (xs := #[.tmp 78, .tmp 79]) rfl ?_); at_builtin; refine Kd.R_append (Kd.int .i64) (w0 := w) w.heap.size rfl (.tmp 78) (.tmp 79) 34 3 (.int .i64 0) 8 rfl Try.underlying34 info3 rfl (by decide) (by omega) u12 x12_2 (-1) [.int .i64 (-1)] (fun _ => True) (fun _ => False) rfl rfl ?aP (fun _ hk => hk.elim) ?aF ?aO ?aB ?aS ?aL ?_; (case aP => exact rfl); (case aB => exact (by repeat (first | (with_reducible first | exact HB.out | apply below_alloc | apply pw_below_drewN | apply below_drew1 | refine below_set ?_ GE150.out | refine below_set ?_ GE151.out) | exact HB.out))); (case aF => exact (fun _ _ => trivial)); (case aO => exact (by (with_reducible repeat (first | apply Kd.R_alloc | apply Kd.R_drewN | apply Kd.R_drew)); exact HO_12.out)); (case aS => exact (below_size (by repeat (first | (with_reducible first | exact HB.out | apply below_alloc | apply pw_below_drewN | apply below_drew1 | refine below_set ?_ GE150.out | refine below_set ?_ GE151.out) | exact HB.out)))); (case aL => have := LMc34.out; omega); intro v165 w38 ho hb hg hat; rw [← Ny164.out] at ho; have n0_ := Aside0.mk (blk_grown (g := gb150) (o := .cells #[.int .i64 a0_0, .int .i64 a0_1, .int .i64 a0_2] 23 (0, 0)) (by (with_reducible repeat (first | refine blk_drewN ?_ _ | refine blk_drew ?_ | refine blk_alloc ?_ _)); exact BK150.out) hg (Kd.R_ne HO_12.out BK150.out (by decide))); have n1_ := Aside0.mk (blk_grown (g := gb151) (o := .cells #[.int .i64 a1_0, .int .i64 a1_1, .int .i64 a1_2, .int .i64 a1_3, .int .i64 a1_4, .int .i64 a1_5, .int .i64 a1_6, .int .i64 a1_7] 25 (0, 0)) (by (with_reducible repeat (first | refine blk_drewN ?_ _ | refine blk_drew ?_ | refine blk_alloc ?_ _)); exact BK151.out) hg (Kd.R_ne HO_12.out BK151.out (by decide))); have n2_ := Aside0.mk (hb); have n3_ := Aside0.mk (ho); clear BK150; clear BK151; clear HB; clear HO_12; have BK150 := n0_; have BK151 := n1_; have HB := n2_; have HO166 := n3_; clear n0_ n1_ n2_ n3_; clear ho hb hg hat))
                          repeat (go_quiet (first | ((with_reducible refine gate_builtin (b := .append) (xs := #[.tmp 78, .tmp 79]) rfl ?_); at_builtin; refine Kd.R_append (Kd.int .i64) (w0 := w) w.heap.size rfl (.tmp 78) (.tmp 79) 34 3 (.int .i64 0) 8 rfl Try.underlying34 info3 rfl (by decide) (by omega) u12 x12_2 (-1) [.int .i64 (-1)] (fun _ => True) (fun _ => False) rfl rfl ?aP (fun _ hk => hk.elim) ?aF ?aO ?aB ?aS ?aL ?_; (case aP => exact rfl); (case aB => exact (by repeat (first | (with_reducible first | exact HB.out | apply below_alloc | apply pw_below_drewN | apply below_drew1 | refine below_set ?_ GE150.out | refine below_set ?_ GE151.out) | exact HB.out))); (case aF => exact (fun _ _ => trivial)); (case aO => exact (by (with_reducible repeat (first | apply Kd.R_alloc | apply Kd.R_drewN | apply Kd.R_drew)); exact HO_12.out)); (case aS => exact (below_size (by repeat (first | (with_reducible first | exact HB.out | apply below_alloc | apply pw_below_drewN | apply below_drew1 | refine below_set ?_ GE150.out | refine below_set ?_ GE151.out) | exact HB.out)))); (case aL => have := LMc34.out; omega); intro v165 w38 ho hb hg hat; rw [← Ny164.out] at ho; have n0_ := Aside0.mk (blk_grown (g := gb150) (o := .cells #[.int .i64 a0_0, .int .i64 a0_1, .int .i64 a0_2] 23 (0, 0)) (by (with_reducible repeat (first | refine blk_drewN ?_ _ | refine blk_drew ?_ | refine blk_alloc ?_ _)); exact BK150.out) hg (Kd.R_ne HO_12.out BK150.out (by decide))); have n1_ := Aside0.mk (blk_grown (g := gb151) (o := .cells #[.int .i64 a1_0, .int .i64 a1_1, .int .i64 a1_2, .int .i64 a1_3, .int .i64 a1_4, .int .i64 a1_5, .int .i64 a1_6, .int .i64 a1_7] 25 (0, 0)) (by (with_reducible repeat (first | refine blk_drewN ?_ _ | refine blk_drew ?_ | refine blk_alloc ?_ _)); exact BK151.out) hg (Kd.R_ne HO_12.out BK151.out (by decide))); have n2_ := Aside0.mk (hb); have n3_ := Aside0.mk (ho); clear BK150; clear BK151; clear HB; clear HO_12; have BK150 := n0_; have BK151 := n1_; have HB := n2_; have HO166 := n3_; clear n0_ n1_ n2_ n3_; clear ho hb hg hat)); try go_wp2_with (first | ((with_reducible refine gate_builtin (b := .append) (xs := #[.tmp 78, .tmp 79]) rfl ?_); at_builtin; refine Kd.R_append (Kd.int .i64) (w0 := w) w.heap.size rfl (.tmp 78) (.tmp 79) 34 3 (.int .i64 0) 8 rfl Try.underlying34 info3 rfl (by decide) (by omega) u12 x12_2 (-1) [.int .i64 (-1)] (fun _ => True) (fun _ => False) rfl rfl ?aP (fun _ hk => hk.elim) ?aF ?aO ?aB ?aS ?aL ?_; (case aP => exact rfl); (case aB => exact (by repeat (first | (with_reducible first | exact HB.out | apply below_alloc | apply pw_below_drewN | apply below_drew1 | refine below_set ?_ GE150.out | refine below_set ?_ GE151.out) | exact HB.out))); (case aF => exact (fun _ _ => trivial)); (case aO => exact (by (with_reducible repeat (first | apply Kd.R_alloc | apply Kd.R_drewN | apply Kd.R_drew)); exact HO_12.out)); (case aS => exact (below_size (by repeat (first | (with_reducible first | exact HB.out | apply below_alloc | apply pw_below_drewN | apply below_drew1 | refine below_set ?_ GE150.out | refine below_set ?_ GE151.out) | exact HB.out)))); (case aL => have := LMc34.out; omega); intro v165 w38 ho hb hg hat; rw [← Ny164.out] at ho; have n0_ := Aside0.mk (blk_grown (g := gb150) (o := .cells #[.int .i64 a0_0, .int .i64 a0_1, .int .i64 a0_2] 23 (0, 0)) (by (with_reducible repeat (first | refine blk_drewN ?_ _ | refine blk_drew ?_ | refine blk_alloc ?_ _)); exact BK150.out) hg (Kd.R_ne HO_12.out BK150.out (by decide))); have n1_ := Aside0.mk (blk_grown (g := gb151) (o := .cells #[.int .i64 a1_0, .int .i64 a1_1, .int .i64 a1_2, .int .i64 a1_3, .int .i64 a1_4, .int .i64 a1_5, .int .i64 a1_6, .int .i64 a1_7] 25 (0, 0)) (by (with_reducible repeat (first | refine blk_drewN ?_ _ | refine blk_drew ?_ | refine blk_alloc ?_ _)); exact BK151.out) hg (Kd.R_ne HO_12.out BK151.out (by decide))); have n2_ := Aside0.mk (hb); have n3_ := Aside0.mk (ho); clear BK150; clear BK151; clear HB; clear HO_12; have BK150 := n0_; have BK151 := n1_; have HB := n2_; have HO166 := n3_; clear n0_ n1_ n2_ n3_; clear ho hb hg hat)))
                          go_roundg k2
                          case measure => have := HK1.out; have := HK2.out; omega
                          case rel => exact ⟨(y164), (wrap64 (x14_2 + 1)), (by first | rfl | (simp; done) | (simp [*]; done)), H', ⟨by have := HK1.out; have := HK2.out; omega⟩, ⟨by (with_reducible repeat (first | apply Kd.R_alloc | apply Kd.R_drewN | apply Kd.R_drew)); exact HO166.out⟩, ⟨by (with_reducible repeat (first | refine blk_drewN ?_ _ | refine blk_drew ?_ | refine blk_alloc ?_ _)); exact BK150.out⟩, ⟨by (with_reducible repeat (first | refine blk_drewN ?_ _ | refine blk_drew ?_ | refine blk_alloc ?_ _)); exact BK151.out⟩, ⟨by repeat (first | (with_reducible first | exact HB.out | apply below_alloc | apply pw_below_drewN | apply below_drew1 | refine below_set ?_ GE150.out | refine below_set ?_ GE151.out) | exact HB.out)⟩⟩
                        · rw [if_neg c34] at H
                          exact absurd H (by simp)
                      · rw [if_neg c33] at H
                        have c33b0 : decide (a0_1 ≤ (wrap64 ((wrap64 ((wrap64 ((Int.tmod a2 t153) * a1_3)) - a1_5)) + x14_2))) = false := decide_eq_false c33
                        clear c33
                        by_cases c39 : x12_2.length < 17592186044416
                        · rw [if_pos c39] at H
                          have LMc39 := Aside0.mk c39
                          clear c39
                          obtain ⟨y167, hy167⟩ : ∃ y_ : List Int, y_ = (x12_2 ++ [wrap64 ((wrap64 ((wrap64 ((wrap64 ((wrap64 ((wrap64 (Int.tdiv a2 t153)) * a1_2)) - a1_4)) + x13_1)) * a0_1)) + (wrap64 ((wrap64 ((wrap64 ((Int.tmod a2 t153) * a1_3)) - a1_5)) + x14_2)))]) := ⟨_, rfl⟩
                          replace H : (spillwayref06_Taps.l1 k2 (wrap64 (Int.tdiv a2 t153)) (Int.tmod a2 t153) y167 x13_1 (wrap64 (x14_2 + 1)) a0_0 a0_1 a0_2 a1_0 a1_1 a1_2 a1_3 a1_4 a1_5 a1_6 a1_7) = some r := by first | (rw [hy167]; with_reducible exact H) | (have H2_ := (Option.bind_some _ _).symm.trans H; rw [hy167]; with_reducible exact H2_) | (have H2_ := (Option.bind_some _ _).symm.trans H; with_reducible exact H2_) | with_reducible exact H | (rw [hy167]; exact H) | exact H
                          have Ny167 := Aside0.mk hy167
                          clear hy167
                          have H' := Aside0.mk H
                          clear H
                          have hnb40 := NB151_150.out
                          have hnc40 := NB150_151.out
                          have hcz41_0 : wr.cell? ⟨gb151, 0, none⟩ = some (.int .i64 a1_0) := (blk_cell BK151.out 0).trans rfl
                          have hcz41_1 : wr.cell? ⟨gb151, 1, none⟩ = some (.int .i64 a1_1) := (blk_cell BK151.out 1).trans rfl
                          have hcz41_2 : wr.cell? ⟨gb151, 2, none⟩ = some (.int .i64 a1_2) := (blk_cell BK151.out 2).trans rfl
                          have hcz41_3 : wr.cell? ⟨gb151, 3, none⟩ = some (.int .i64 a1_3) := (blk_cell BK151.out 3).trans rfl
                          have hcz41_4 : wr.cell? ⟨gb151, 4, none⟩ = some (.int .i64 a1_4) := (blk_cell BK151.out 4).trans rfl
                          have hcz41_5 : wr.cell? ⟨gb151, 5, none⟩ = some (.int .i64 a1_5) := (blk_cell BK151.out 5).trans rfl
                          have hcz41_6 : wr.cell? ⟨gb151, 6, none⟩ = some (.int .i64 a1_6) := (blk_cell BK151.out 6).trans rfl
                          have hcz41_7 : wr.cell? ⟨gb151, 7, none⟩ = some (.int .i64 a1_7) := (blk_cell BK151.out 7).trans rfl
                          have hfz41_0 := blk_frozen BK151.out 0
                          have hfz41_1 := blk_frozen BK151.out 1
                          have hfz41_2 := blk_frozen BK151.out 2
                          have hfz41_3 := blk_frozen BK151.out 3
                          have hfz41_4 := blk_frozen BK151.out 4
                          have hfz41_5 := blk_frozen BK151.out 5
                          have hfz41_6 := blk_frozen BK151.out 6
                          have hfz41_7 := blk_frozen BK151.out 7
                          have hcz42_0 : wr.cell? ⟨gb150, 0, none⟩ = some (.int .i64 a0_0) := (blk_cell BK150.out 0).trans rfl
                          have hcz42_1 : wr.cell? ⟨gb150, 1, none⟩ = some (.int .i64 a0_1) := (blk_cell BK150.out 1).trans rfl
                          have hcz42_2 : wr.cell? ⟨gb150, 2, none⟩ = some (.int .i64 a0_2) := (blk_cell BK150.out 2).trans rfl
                          have hfz42_0 := blk_frozen BK150.out 0
                          have hfz42_1 := blk_frozen BK150.out 1
                          have hfz42_2 := blk_frozen BK150.out 2
                          go_wp2_with (first | ((with_reducible refine gate_builtin (b := .append) (xs := #[.tmp 81, .tmp 88]) rfl ?_); at_builtin; refine Kd.R_append (Kd.int .i64) (w0 := w) w.heap.size rfl (.tmp 81) (.tmp 88) 34 3 (.int .i64 0) 8 rfl Try.underlying34 info3 rfl (by decide) (by omega) u12 x12_2 (wrap64 ((wrap64 ((wrap64 ((wrap64 ((wrap64 ((wrap64 (Int.tdiv a2 t153)) * a1_2)) - a1_4)) + x13_1)) * a0_1)) + (wrap64 ((wrap64 ((wrap64 ((Int.tmod a2 t153) * a1_3)) - a1_5)) + x14_2)))) [.int .i64 (wrap64 ((wrap64 ((wrap64 ((wrap64 ((wrap64 ((wrap64 (Int.tdiv a2 t153)) * a1_2)) - a1_4)) + x13_1)) * a0_1)) + (wrap64 ((wrap64 ((wrap64 ((Int.tmod a2 t153) * a1_3)) - a1_5)) + x14_2))))] (fun _ => True) (fun _ => False) rfl rfl ?aP (fun _ hk => hk.elim) ?aF ?aO ?aB ?aS ?aL ?_; (case aP => exact rfl); (case aB => exact (by repeat (first | (with_reducible first | exact HB.out | apply below_alloc | apply pw_below_drewN | apply below_drew1 | refine below_set ?_ GE150.out | refine below_set ?_ GE151.out) | exact HB.out))); (case aF => exact (fun _ _ => trivial)); (case aO => exact (by (with_reducible repeat (first | apply Kd.R_alloc | apply Kd.R_drewN | apply Kd.R_drew)); exact HO_12.out)); (case aS => exact (below_size (by repeat (first | (with_reducible first | exact HB.out | apply below_alloc | apply pw_below_drewN | apply below_drew1 | refine below_set ?_ GE150.out | refine below_set ?_ GE151.out) | exact HB.out)))); (case aL => have := LMc39.out; omega); intro v168 w43 ho hb hg hat; rw [← Ny167.out] at ho; have n0_ := Aside0.mk (blk_grown (g := gb150) (o := .cells #[.int .i64 a0_0, .int .i64 a0_1, .int .i64 a0_2] 23 (0, 0)) (by (with_reducible repeat (first | refine blk_drewN ?_ _ | refine blk_drew ?_ | refine blk_alloc ?_ _)); exact BK150.out) hg (Kd.R_ne HO_12.out BK150.out (by decide))); have n1_ := Aside0.mk (blk_grown (g := gb151) (o := .cells #[.int .i64 a1_0, .int .i64 a1_1, .int .i64 a1_2, .int .i64 a1_3, .int .i64 a1_4, .int .i64 a1_5, .int .i64 a1_6, .int .i64 a1_7] 25 (0, 0)) (by (with_reducible repeat (first | refine blk_drewN ?_ _ | refine blk_drew ?_ | refine blk_alloc ?_ _)); exact BK151.out) hg (Kd.R_ne HO_12.out BK151.out (by decide))); have n2_ := Aside0.mk (hb); have n3_ := Aside0.mk (ho); clear BK150; clear BK151; clear HB; clear HO_12; have BK150 := n0_; have BK151 := n1_; have HB := n2_; have HO169 := n3_; clear n0_ n1_ n2_ n3_; clear ho hb hg hat))
                          repeat (go_quiet (first | ((with_reducible refine gate_builtin (b := .append) (xs := #[.tmp 81, .tmp 88]) rfl ?_); at_builtin; refine Kd.R_append (Kd.int .i64) (w0 := w) w.heap.size rfl (.tmp 81) (.tmp 88) 34 3 (.int .i64 0) 8 rfl Try.underlying34 info3 rfl (by decide) (by omega) u12 x12_2 (wrap64 ((wrap64 ((wrap64 ((wrap64 ((wrap64 ((wrap64 (Int.tdiv a2 t153)) * a1_2)) - a1_4)) + x13_1)) * a0_1)) + (wrap64 ((wrap64 ((wrap64 ((Int.tmod a2 t153) * a1_3)) - a1_5)) + x14_2)))) [.int .i64 (wrap64 ((wrap64 ((wrap64 ((wrap64 ((wrap64 ((wrap64 (Int.tdiv a2 t153)) * a1_2)) - a1_4)) + x13_1)) * a0_1)) + (wrap64 ((wrap64 ((wrap64 ((Int.tmod a2 t153) * a1_3)) - a1_5)) + x14_2))))] (fun _ => True) (fun _ => False) rfl rfl ?aP (fun _ hk => hk.elim) ?aF ?aO ?aB ?aS ?aL ?_; (case aP => exact rfl); (case aB => exact (by repeat (first | (with_reducible first | exact HB.out | apply below_alloc | apply pw_below_drewN | apply below_drew1 | refine below_set ?_ GE150.out | refine below_set ?_ GE151.out) | exact HB.out))); (case aF => exact (fun _ _ => trivial)); (case aO => exact (by (with_reducible repeat (first | apply Kd.R_alloc | apply Kd.R_drewN | apply Kd.R_drew)); exact HO_12.out)); (case aS => exact (below_size (by repeat (first | (with_reducible first | exact HB.out | apply below_alloc | apply pw_below_drewN | apply below_drew1 | refine below_set ?_ GE150.out | refine below_set ?_ GE151.out) | exact HB.out)))); (case aL => have := LMc39.out; omega); intro v168 w43 ho hb hg hat; rw [← Ny167.out] at ho; have n0_ := Aside0.mk (blk_grown (g := gb150) (o := .cells #[.int .i64 a0_0, .int .i64 a0_1, .int .i64 a0_2] 23 (0, 0)) (by (with_reducible repeat (first | refine blk_drewN ?_ _ | refine blk_drew ?_ | refine blk_alloc ?_ _)); exact BK150.out) hg (Kd.R_ne HO_12.out BK150.out (by decide))); have n1_ := Aside0.mk (blk_grown (g := gb151) (o := .cells #[.int .i64 a1_0, .int .i64 a1_1, .int .i64 a1_2, .int .i64 a1_3, .int .i64 a1_4, .int .i64 a1_5, .int .i64 a1_6, .int .i64 a1_7] 25 (0, 0)) (by (with_reducible repeat (first | refine blk_drewN ?_ _ | refine blk_drew ?_ | refine blk_alloc ?_ _)); exact BK151.out) hg (Kd.R_ne HO_12.out BK151.out (by decide))); have n2_ := Aside0.mk (hb); have n3_ := Aside0.mk (ho); clear BK150; clear BK151; clear HB; clear HO_12; have BK150 := n0_; have BK151 := n1_; have HB := n2_; have HO169 := n3_; clear n0_ n1_ n2_ n3_; clear ho hb hg hat)); try go_wp2_with (first | ((with_reducible refine gate_builtin (b := .append) (xs := #[.tmp 81, .tmp 88]) rfl ?_); at_builtin; refine Kd.R_append (Kd.int .i64) (w0 := w) w.heap.size rfl (.tmp 81) (.tmp 88) 34 3 (.int .i64 0) 8 rfl Try.underlying34 info3 rfl (by decide) (by omega) u12 x12_2 (wrap64 ((wrap64 ((wrap64 ((wrap64 ((wrap64 ((wrap64 (Int.tdiv a2 t153)) * a1_2)) - a1_4)) + x13_1)) * a0_1)) + (wrap64 ((wrap64 ((wrap64 ((Int.tmod a2 t153) * a1_3)) - a1_5)) + x14_2)))) [.int .i64 (wrap64 ((wrap64 ((wrap64 ((wrap64 ((wrap64 ((wrap64 (Int.tdiv a2 t153)) * a1_2)) - a1_4)) + x13_1)) * a0_1)) + (wrap64 ((wrap64 ((wrap64 ((Int.tmod a2 t153) * a1_3)) - a1_5)) + x14_2))))] (fun _ => True) (fun _ => False) rfl rfl ?aP (fun _ hk => hk.elim) ?aF ?aO ?aB ?aS ?aL ?_; (case aP => exact rfl); (case aB => exact (by repeat (first | (with_reducible first | exact HB.out | apply below_alloc | apply pw_below_drewN | apply below_drew1 | refine below_set ?_ GE150.out | refine below_set ?_ GE151.out) | exact HB.out))); (case aF => exact (fun _ _ => trivial)); (case aO => exact (by (with_reducible repeat (first | apply Kd.R_alloc | apply Kd.R_drewN | apply Kd.R_drew)); exact HO_12.out)); (case aS => exact (below_size (by repeat (first | (with_reducible first | exact HB.out | apply below_alloc | apply pw_below_drewN | apply below_drew1 | refine below_set ?_ GE150.out | refine below_set ?_ GE151.out) | exact HB.out)))); (case aL => have := LMc39.out; omega); intro v168 w43 ho hb hg hat; rw [← Ny167.out] at ho; have n0_ := Aside0.mk (blk_grown (g := gb150) (o := .cells #[.int .i64 a0_0, .int .i64 a0_1, .int .i64 a0_2] 23 (0, 0)) (by (with_reducible repeat (first | refine blk_drewN ?_ _ | refine blk_drew ?_ | refine blk_alloc ?_ _)); exact BK150.out) hg (Kd.R_ne HO_12.out BK150.out (by decide))); have n1_ := Aside0.mk (blk_grown (g := gb151) (o := .cells #[.int .i64 a1_0, .int .i64 a1_1, .int .i64 a1_2, .int .i64 a1_3, .int .i64 a1_4, .int .i64 a1_5, .int .i64 a1_6, .int .i64 a1_7] 25 (0, 0)) (by (with_reducible repeat (first | refine blk_drewN ?_ _ | refine blk_drew ?_ | refine blk_alloc ?_ _)); exact BK151.out) hg (Kd.R_ne HO_12.out BK151.out (by decide))); have n2_ := Aside0.mk (hb); have n3_ := Aside0.mk (ho); clear BK150; clear BK151; clear HB; clear HO_12; have BK150 := n0_; have BK151 := n1_; have HB := n2_; have HO169 := n3_; clear n0_ n1_ n2_ n3_; clear ho hb hg hat)))
                          go_roundg k2
                          case measure => have := HK1.out; have := HK2.out; omega
                          case rel => exact ⟨(y167), (wrap64 (x14_2 + 1)), (by first | rfl | (simp; done) | (simp [*]; done)), H', ⟨by have := HK1.out; have := HK2.out; omega⟩, ⟨by (with_reducible repeat (first | apply Kd.R_alloc | apply Kd.R_drewN | apply Kd.R_drew)); exact HO169.out⟩, ⟨by (with_reducible repeat (first | refine blk_drewN ?_ _ | refine blk_drew ?_ | refine blk_alloc ?_ _)); exact BK150.out⟩, ⟨by (with_reducible repeat (first | refine blk_drewN ?_ _ | refine blk_drew ?_ | refine blk_alloc ?_ _)); exact BK151.out⟩, ⟨by repeat (first | (with_reducible first | exact HB.out | apply below_alloc | apply pw_below_drewN | apply below_drew1 | refine below_set ?_ GE150.out | refine below_set ?_ GE151.out) | exact HB.out)⟩⟩
                        · rw [if_neg c39] at H
                          exact absurd H (by simp)
              · rw [if_neg c15] at H
                have c15b0 : decide (x14_2 < a1_1) = false := decide_eq_false c15
                clear c15
                have H' := Aside0.mk H
                clear H
                have hnb44 := NB151_150.out
                have hnc44 := NB150_151.out
                have hcz45_0 : wr.cell? ⟨gb151, 0, none⟩ = some (.int .i64 a1_0) := (blk_cell BK151.out 0).trans rfl
                have hcz45_1 : wr.cell? ⟨gb151, 1, none⟩ = some (.int .i64 a1_1) := (blk_cell BK151.out 1).trans rfl
                have hcz45_2 : wr.cell? ⟨gb151, 2, none⟩ = some (.int .i64 a1_2) := (blk_cell BK151.out 2).trans rfl
                have hcz45_3 : wr.cell? ⟨gb151, 3, none⟩ = some (.int .i64 a1_3) := (blk_cell BK151.out 3).trans rfl
                have hcz45_4 : wr.cell? ⟨gb151, 4, none⟩ = some (.int .i64 a1_4) := (blk_cell BK151.out 4).trans rfl
                have hcz45_5 : wr.cell? ⟨gb151, 5, none⟩ = some (.int .i64 a1_5) := (blk_cell BK151.out 5).trans rfl
                have hcz45_6 : wr.cell? ⟨gb151, 6, none⟩ = some (.int .i64 a1_6) := (blk_cell BK151.out 6).trans rfl
                have hcz45_7 : wr.cell? ⟨gb151, 7, none⟩ = some (.int .i64 a1_7) := (blk_cell BK151.out 7).trans rfl
                have hfz45_0 := blk_frozen BK151.out 0
                have hfz45_1 := blk_frozen BK151.out 1
                have hfz45_2 := blk_frozen BK151.out 2
                have hfz45_3 := blk_frozen BK151.out 3
                have hfz45_4 := blk_frozen BK151.out 4
                have hfz45_5 := blk_frozen BK151.out 5
                have hfz45_6 := blk_frozen BK151.out 6
                have hfz45_7 := blk_frozen BK151.out 7
                go_wp2
                repeat (go_quiet (fail); try go_wp2)
                go_roundg k2
                case measure => have := HK1.out; have := HK2.out; omega
                case rel => exact ⟨(x12_2), (wrap64 (x13_1 + 1)), (by first | rfl | (simp; done) | (simp [*]; done)), H', ⟨by have := HK1.out; have := HK2.out; omega⟩, ⟨by (with_reducible repeat (first | apply Kd.R_alloc | apply Kd.R_drewN | apply Kd.R_drew)); exact HO_12.out⟩, ⟨by (with_reducible repeat (first | refine blk_drewN ?_ _ | refine blk_drew ?_ | refine blk_alloc ?_ _)); exact BK150.out⟩, ⟨by (with_reducible repeat (first | refine blk_drewN ?_ _ | refine blk_drew ?_ | refine blk_alloc ?_ _)); exact BK151.out⟩, ⟨by repeat (first | (with_reducible first | exact HB.out | apply below_alloc | apply pw_below_drewN | apply below_drew1 | refine below_set ?_ GE150.out | refine below_set ?_ GE151.out) | exact HB.out)⟩⟩
        · rw [if_neg c12] at H
          have c12b0 : decide (x13_1 < a1_0) = false := decide_eq_false c12
          clear c12
          obtain rfl := Option.some.inj H
          have hnb46 := NB151_150.out
          have hnc46 := NB150_151.out
          have hcz47_0 : wr.cell? ⟨gb151, 0, none⟩ = some (.int .i64 a1_0) := (blk_cell BK151.out 0).trans rfl
          have hcz47_1 : wr.cell? ⟨gb151, 1, none⟩ = some (.int .i64 a1_1) := (blk_cell BK151.out 1).trans rfl
          have hcz47_2 : wr.cell? ⟨gb151, 2, none⟩ = some (.int .i64 a1_2) := (blk_cell BK151.out 2).trans rfl
          have hcz47_3 : wr.cell? ⟨gb151, 3, none⟩ = some (.int .i64 a1_3) := (blk_cell BK151.out 3).trans rfl
          have hcz47_4 : wr.cell? ⟨gb151, 4, none⟩ = some (.int .i64 a1_4) := (blk_cell BK151.out 4).trans rfl
          have hcz47_5 : wr.cell? ⟨gb151, 5, none⟩ = some (.int .i64 a1_5) := (blk_cell BK151.out 5).trans rfl
          have hcz47_6 : wr.cell? ⟨gb151, 6, none⟩ = some (.int .i64 a1_6) := (blk_cell BK151.out 6).trans rfl
          have hcz47_7 : wr.cell? ⟨gb151, 7, none⟩ = some (.int .i64 a1_7) := (blk_cell BK151.out 7).trans rfl
          have hfz47_0 := blk_frozen BK151.out 0
          have hfz47_1 := blk_frozen BK151.out 1
          have hfz47_2 := blk_frozen BK151.out 2
          have hfz47_3 := blk_frozen BK151.out 3
          have hfz47_4 := blk_frozen BK151.out 4
          have hfz47_5 := blk_frozen BK151.out 5
          have hfz47_6 := blk_frozen BK151.out 6
          have hfz47_7 := blk_frozen BK151.out 7
          go_wp2
          repeat (go_quiet (fail); try go_wp2)
          go_ret
          exact ⟨_, by first | rfl | (simp [errW_none, errW_some] <;> rfl) | (simp [*, errW_none, errW_some] <;> rfl), by (with_reducible repeat (first | apply Kd.R_alloc | apply Kd.R_drewN | apply Kd.R_drew)); exact HO_12.out, by repeat (first | (with_reducible first | exact HB.out | apply below_alloc | apply pw_below_drewN | apply below_drew1 | refine below_set ?_ GE150.out | refine below_set ?_ GE151.out) | exact HB.out)⟩

end Go.Proofs.Ytnbhimgojnclbaa.CWowTaps
