-- PRINTED by print.py (a twelfth state) out of the translation. Not trusted: Lean checks it.
import Derived.Test.YtfccnnlbiniahaaQx0
import Derived.Test.YtfccnnlbiniahaaQx2
import Derived.Test.YtfccnnlbiniahaaQx3
namespace Go.Proofs.Ytfccnnlbiniahaa.Q
open Go.RowKit Go.Proofs.YtfccnnlbiniahaaW.PrintWords Go.Proofs.YtfccnnlbiniahaaW.PrintLast Go.Proofs.YtfccnnlbiniahaaW.PrintMore
attribute [local go_sem] max2_int min2_int max_two min_two max_three min_three max_four min_four   -- for this text's walks alone
set_option linter.unusedVariables false
set_option linter.unusedSimpArgs false

/-! ### spillwaylaw05_ShapeElems: function 3 -/
def spillwaylaw05_ShapeElems.j0 : Nat → Int → Int → Int → Int → Int → Bool → Int → Int → Int → Option (Bool)
  | 0, _, _, _, _, _, _, _, _, _ => none
  | k + 1, x3, x4, x5, x6, x7, x25, x120000, x120001, x120002 => if x25 = true then ((spillwaylaw05_fixed.f).bind fun t127 => (if t127 = true then (if x3 = 0 then (if x5 = 0 then (if x6 = 0 then (if x4 = 50 then (some (x7 == x4)) else (some false)) else (some false)) else (some false)) else (some false)) else (some false))) else ((spillwayref05_Elems.f x120000 x120001 x120002).bind fun t128 => (if x3 = t128 then (if x5 = (wrap64 (x120001 * x120002)) then (if x6 = x120002 then (if x4 = 0 then (some (x7 == 0)) else (some false)) else (some false)) else (some false)) else (some false)))
def spillwaylaw05_ShapeElems.f (k : Nat) (a0_0 : Int) (a0_1 : Int) (a0_2 : Int) : Option (Bool) := (shape_Elems.f a0_0 a0_1 a0_2).bind fun bt120 => ((shape_Strides.f a0_0 a0_1 a0_2).bind fun bt122 => ((spillwaylaw05_fixed.f).bind fun t125 => (if t125 = true then ((spillwayref05_Valid.f a0_0 a0_1 a0_2).bind fun t126 => (spillwaylaw05_ShapeElems.j0 k bt120.1 bt120.2 bt122.1 bt122.2.1 bt122.2.2 (!t126) a0_0 a0_1 a0_2)) else (spillwaylaw05_ShapeElems.j0 k bt120.1 bt120.2 bt122.1 bt122.2.1 bt122.2.2 true a0_0 a0_1 a0_2))))
theorem spillwaylaw05_ShapeElems.mono_l : ∀ k, (∀ y0 y1 y2 y3 y4 y5 y6 y7 y8, LeO (spillwaylaw05_ShapeElems.j0 k y0 y1 y2 y3 y4 y5 y6 y7 y8) (spillwaylaw05_ShapeElems.j0 (k + 1) y0 y1 y2 y3 y4 y5 y6 y7 y8))
  | 0 => fun _ _ _ _ _ _ _ _ _ r h => by simp [spillwaylaw05_ShapeElems.j0] at h
  | k + 1 => by
    have ih0 := spillwaylaw05_ShapeElems.mono_l k
    · intro y0 y1 y2 y3 y4 y5 y6 y7 y8
      unfold spillwaylaw05_ShapeElems.j0
      repeat' first
      | (with_reducible exact ih0 _ _ _ _ _ _ _ _ _)
      | (with_reducible exact LeO.refl _)
      | (with_reducible exact LeO.none _)
      | (with_reducible refine LeO.ite ?_ ?_)
      | (with_reducible refine LeO.bind ?_ (fun _ => ?_))
      | exact ih0 _ _ _ _ _ _ _ _ _
      | exact LeO.none _
      | refine LeO.ite ?_ ?_
      | refine LeO.bind ?_ (fun _ => ?_)
theorem spillwaylaw05_ShapeElems.mono : ∀ a0 a1 a2 k, LeO (spillwaylaw05_ShapeElems.f k a0 a1 a2) (spillwaylaw05_ShapeElems.f (k + 1) a0 a1 a2) := by
  intro a0 a1 a2 k
  have ih0 := spillwaylaw05_ShapeElems.mono_l k
  unfold spillwaylaw05_ShapeElems.f
  repeat' first
      | (with_reducible exact ih0 _ _ _ _ _ _ _ _ _)
      | (with_reducible exact LeO.refl _)
      | (with_reducible exact LeO.none _)
      | (with_reducible refine LeO.ite ?_ ?_)
      | (with_reducible refine LeO.bind ?_ (fun _ => ?_))
      | exact ih0 _ _ _ _ _ _ _ _ _
      | exact LeO.none _
      | refine LeO.ite ?_ ?_
      | refine LeO.bind ?_ (fun _ => ?_)
set_option maxHeartbeats 8000000 in
set_option maxRecDepth 100000 in
theorem spillwaylaw05_ShapeElems.calls (k : Nat) (a0_0 : Int) (a0_1 : Int) (a0_2 : Int) (r : Bool) (w : World) (hrt : r = true) (h : spillwaylaw05_ShapeElems.f k a0_0 a0_1 a0_2 = some r) :
    Calls Try.prog 3 #[.agg #[.int .i64 a0_0, .int .i64 a0_1, .int .i64 a0_2]] w fun e w' => e = .returned (.bool r) ∧ Below w.heap.size w w' := by
  have hu23 := Try.underlying23
  have HB := Aside0.mk (Below.refl w.heap.size w)
  have H : ((shape_Elems.f a0_0 a0_1 a0_2).bind fun bt120 => ((shape_Strides.f a0_0 a0_1 a0_2).bind fun bt122 => ((spillwaylaw05_fixed.f).bind fun t125 => (if t125 = true then ((spillwayref05_Valid.f a0_0 a0_1 a0_2).bind fun t126 => (spillwaylaw05_ShapeElems.j0 k bt120.1 bt120.2 bt122.1 bt122.2.1 bt122.2.2 (!t126) a0_0 a0_1 a0_2)) else (spillwaylaw05_ShapeElems.j0 k bt120.1 bt120.2 bt122.1 bt122.2.1 bt122.2.2 true a0_0 a0_1 a0_2))))) = some r := h
  clear h
  have HRT := Aside0.mk hrt
  clear hrt
  replace H := Option.bind_eq_some_iff.mp H
  obtain ⟨⟨t120, t121⟩, A20, H⟩ := H
  replace H : ((shape_Strides.f a0_0 a0_1 a0_2).bind fun bt122 => ((spillwaylaw05_fixed.f).bind fun t125 => (if t125 = true then ((spillwayref05_Valid.f a0_0 a0_1 a0_2).bind fun t126 => (spillwaylaw05_ShapeElems.j0 k t120 t121 bt122.1 bt122.2.1 bt122.2.2 (!t126) a0_0 a0_1 a0_2)) else (spillwaylaw05_ShapeElems.j0 k t120 t121 bt122.1 bt122.2.1 bt122.2.2 true a0_0 a0_1 a0_2)))) = some r := H
  have A2 := Aside0.mk A20
  clear A20
  replace H := Option.bind_eq_some_iff.mp H
  obtain ⟨⟨t122, t123, t124⟩, A30, H⟩ := H
  replace H : ((spillwaylaw05_fixed.f).bind fun t125 => (if t125 = true then ((spillwayref05_Valid.f a0_0 a0_1 a0_2).bind fun t126 => (spillwaylaw05_ShapeElems.j0 k t120 t121 t122 t123 t124 (!t126) a0_0 a0_1 a0_2)) else (spillwaylaw05_ShapeElems.j0 k t120 t121 t122 t123 t124 true a0_0 a0_1 a0_2))) = some r := H
  have A3 := Aside0.mk A30
  clear A30
  have HC4 := Aside0.mk H
  clear H
  go_enter Try.func3, Try.ntmps3
  go_upto_region 3 with (first | ((with_reducible refine gate_dst (N := 1) rfl ?_); refine box_event ?hg (N := 1) ?hd (cs := #[.int .i64 a0_0, .int .i64 a0_1, .int .i64 a0_2]) (t := 23) ?hr ?_; (case hd => rfl); (case hg => rfl); (case hr => first | (go_simp; done) | (go_simp; rfl)); intro gb119 hg w5 hbox hb; have n0_ := Aside0.mk (below_step (by repeat (first | (with_reducible first | exact HB.out | apply below_alloc | apply pw_below_drewN | apply below_drew1) | exact HB.out)) hb); have n1_ := Aside0.mk (hbox); have n2_ := Aside0.mk ((by rw [hg]; exact (below_size (by repeat (first | (with_reducible first | exact HB.out | apply below_alloc | apply pw_below_drewN | apply below_drew1) | exact HB.out))) : w.heap.size ≤ gb119)); have n3_ := Aside0.mk ((by rw [hg]; exact (below_size (by repeat (first | (with_reducible first | exact HB.out | apply below_alloc | apply pw_below_drewN | apply below_drew1) | exact HB.out))) : w.heap.size ≤ gb119)); clear HB; have HB := n0_; have BK119 := n1_; have GW119 := n2_; have GE119 := n3_; clear n0_ n1_ n2_ n3_; clear hb hbox hg; have hcz6_0 : w5.cell? ⟨gb119, 0, none⟩ = some (.int .i64 a0_0) := (blk_cell BK119.out 0).trans rfl; have hcz6_1 : w5.cell? ⟨gb119, 1, none⟩ = some (.int .i64 a0_1) := (blk_cell BK119.out 1).trans rfl; have hcz6_2 : w5.cell? ⟨gb119, 2, none⟩ = some (.int .i64 a0_2) := (blk_cell BK119.out 2).trans rfl; have hfz6_0 := blk_frozen BK119.out 0; have hfz6_1 := blk_frozen BK119.out 1; have hfz6_2 := blk_frozen BK119.out 2) | ((with_reducible refine gate_callee (f := 15) rfl ?_); refine goesL_ (some 10) rfl rfl Try.func15 (by kernel_rfl) rfl #[.agg #[.int .i64 a0_0, .int .i64 a0_1, .int .i64 a0_2]] rfl (by (try simp only [List.map_toArray, List.map_cons, List.map_nil]); first | done | rfl | (simp only [List.length_drop, List.length_take]; rfl)) ?_; (with_reducible refine (shape_Elems.calls a0_0 a0_1 a0_2 t120 t121 _ A2.out).mono ?_); rintro e w7 ⟨rfl, hb⟩; refine ⟨_, rfl, ?_⟩; have n0_ := Aside0.mk (blk_below (g := gb119) (o := .cells #[.int .i64 a0_0, .int .i64 a0_1, .int .i64 a0_2] 23 (0, 0)) (by (with_reducible repeat (first | refine blk_drewN ?_ _ | refine blk_drew ?_ | refine blk_alloc ?_ _)); exact BK119.out) hb); have n1_ := Aside0.mk (below_step (by repeat (first | (with_reducible first | exact HB.out | apply below_alloc | apply pw_below_drewN | apply below_drew1 | refine below_set ?_ GE119.out) | exact HB.out)) hb); clear BK119; clear HB; have BK119 := n0_; have HB := n1_; clear n0_ n1_; (try clear hb); (try clear hb2); (try clear hk); (try clear hi); have hcz8_0 : w7.cell? ⟨gb119, 0, none⟩ = some (.int .i64 a0_0) := (blk_cell BK119.out 0).trans rfl; have hcz8_1 : w7.cell? ⟨gb119, 1, none⟩ = some (.int .i64 a0_1) := (blk_cell BK119.out 1).trans rfl; have hcz8_2 : w7.cell? ⟨gb119, 2, none⟩ = some (.int .i64 a0_2) := (blk_cell BK119.out 2).trans rfl; have hfz8_0 := blk_frozen BK119.out 0; have hfz8_1 := blk_frozen BK119.out 1; have hfz8_2 := blk_frozen BK119.out 2) | ((with_reducible refine gate_callee (f := 16) rfl ?_); refine goesL_ (some 15) rfl rfl Try.func16 (by kernel_rfl) rfl #[.agg #[.int .i64 a0_0, .int .i64 a0_1, .int .i64 a0_2]] rfl (by (try simp only [List.map_toArray, List.map_cons, List.map_nil]); first | done | rfl | (simp only [List.length_drop, List.length_take]; rfl)) ?_; (with_reducible refine (shape_Strides.calls a0_0 a0_1 a0_2 t122 t123 t124 _ A3.out).mono ?_); rintro e w9 ⟨rfl, hb⟩; refine ⟨_, rfl, ?_⟩; have n0_ := Aside0.mk (blk_below (g := gb119) (o := .cells #[.int .i64 a0_0, .int .i64 a0_1, .int .i64 a0_2] 23 (0, 0)) (by (with_reducible repeat (first | refine blk_drewN ?_ _ | refine blk_drew ?_ | refine blk_alloc ?_ _)); exact BK119.out) hb); have n1_ := Aside0.mk (below_step (by repeat (first | (with_reducible first | exact HB.out | apply below_alloc | apply pw_below_drewN | apply below_drew1 | refine below_set ?_ GE119.out) | exact HB.out)) hb); clear BK119; clear HB; have BK119 := n0_; have HB := n1_; clear n0_ n1_; (try clear hb); (try clear hb2); (try clear hk); (try clear hi)))
  (try simp only [Act.put, List.setIfInBounds_toArray, List.set_cons_zero, List.set_cons_succ])
  go_cut [25] (fun v25 wc => ∃ (kq : Nat) (x25_3 : Bool), v25 = .bool x25_3 ∧ Aside0 (spillwaylaw05_ShapeElems.j0 kq t120 t121 t122 t123 t124 x25_3 a0_0 a0_1 a0_2 = some r) ∧ Aside0 (kq ≤ k) ∧ Aside0 (wc.heap[gb119]? = some (.cells #[.int .i64 a0_0, .int .i64 a0_1, .int .i64 a0_2] 23 (0, 0))) ∧ Aside0 (Below w.heap.size w wc))
  case first =>
    have H := HC4.out
    clear HC4
    replace H := Option.bind_eq_some_iff.mp H
    obtain ⟨t125, A100, H⟩ := H
    replace H : (if t125 = true then ((spillwayref05_Valid.f a0_0 a0_1 a0_2).bind fun t126 => (spillwaylaw05_ShapeElems.j0 k t120 t121 t122 t123 t124 (!t126) a0_0 a0_1 a0_2)) else (spillwaylaw05_ShapeElems.j0 k t120 t121 t122 t123 t124 true a0_0 a0_1 a0_2)) = some r := H
    have A10 := Aside0.mk A100
    clear A100
    by_cases c11 : t125 = true
    · subst c11
      have H1 : ((spillwayref05_Valid.f a0_0 a0_1 a0_2).bind fun t126 => (spillwaylaw05_ShapeElems.j0 k t120 t121 t122 t123 t124 (!t126) a0_0 a0_1 a0_2)) = some r := by rw [if_pos rfl] at H; exact H
      clear H
      have H := H1
      clear H1
      replace H := Option.bind_eq_some_iff.mp H
      obtain ⟨t126, A120, H⟩ := H
      replace H : (spillwaylaw05_ShapeElems.j0 k t120 t121 t122 t123 t124 (!t126) a0_0 a0_1 a0_2) = some r := H
      have A12 := Aside0.mk A120
      clear A120
      have H' := Aside0.mk H
      clear H
      go_wp2_with (first | ((with_reducible refine gate_callee (f := 17) rfl ?_); refine goesL_ (some 19) rfl rfl Try.func17 (by kernel_rfl) rfl #[] rfl (by (try simp only [List.map_toArray, List.map_cons, List.map_nil]); first | done | rfl | (simp only [List.length_drop, List.length_take]; rfl)) ?_; (with_reducible refine (spillwaylaw05_fixed.calls  true _ A10.out).mono ?_); rintro e w13 ⟨rfl, hb⟩; refine ⟨_, rfl, ?_⟩; have n0_ := Aside0.mk (blk_below (g := gb119) (o := .cells #[.int .i64 a0_0, .int .i64 a0_1, .int .i64 a0_2] 23 (0, 0)) (by (with_reducible repeat (first | refine blk_drewN ?_ _ | refine blk_drew ?_ | refine blk_alloc ?_ _)); exact BK119.out) hb); have n1_ := Aside0.mk (below_step (by repeat (first | (with_reducible first | exact HB.out | apply below_alloc | apply pw_below_drewN | apply below_drew1 | refine below_set ?_ GE119.out) | exact HB.out)) hb); clear BK119; clear HB; have BK119 := n0_; have HB := n1_; clear n0_ n1_; (try clear hb); (try clear hb2); (try clear hk); (try clear hi); have hcz14_0 : w13.cell? ⟨gb119, 0, none⟩ = some (.int .i64 a0_0) := (blk_cell BK119.out 0).trans rfl; have hcz14_1 : w13.cell? ⟨gb119, 1, none⟩ = some (.int .i64 a0_1) := (blk_cell BK119.out 1).trans rfl; have hcz14_2 : w13.cell? ⟨gb119, 2, none⟩ = some (.int .i64 a0_2) := (blk_cell BK119.out 2).trans rfl; have hfz14_0 := blk_frozen BK119.out 0; have hfz14_1 := blk_frozen BK119.out 1; have hfz14_2 := blk_frozen BK119.out 2) | (go_at_call 18; (with_reducible refine (spillwayref05_Valid.calls a0_0 a0_1 a0_2 t126 _ A12.out).mono ?_); rintro e w15 ⟨rfl, hb⟩; have n0_ := Aside0.mk (blk_below (g := gb119) (o := .cells #[.int .i64 a0_0, .int .i64 a0_1, .int .i64 a0_2] 23 (0, 0)) (by (with_reducible repeat (first | refine blk_drewN ?_ _ | refine blk_drew ?_ | refine blk_alloc ?_ _)); exact BK119.out) hb); have n1_ := Aside0.mk (below_step (by repeat (first | (with_reducible first | exact HB.out | apply below_alloc | apply pw_below_drewN | apply below_drew1 | refine below_set ?_ GE119.out) | exact HB.out)) hb); clear BK119; clear HB; have BK119 := n0_; have HB := n1_; clear n0_ n1_; (try clear hb); (try clear hb2); (try clear hk); (try clear hi)))
      go_meet
      case rel => exact ⟨_, (!t126), (by first | rfl | (simp; done) | (simp [*]; done)), H', ⟨by first | omega | exact Nat.le_refl _⟩, ⟨by (with_reducible repeat (first | refine blk_drewN ?_ _ | refine blk_drew ?_ | refine blk_alloc ?_ _)); exact BK119.out⟩, ⟨by repeat (first | (with_reducible first | exact HB.out | apply below_alloc | apply pw_below_drewN | apply below_drew1 | refine below_set ?_ GE119.out) | exact HB.out)⟩⟩
    · replace c11 := Bool.eq_false_iff.mpr c11
      subst c11
      have H1 : (spillwaylaw05_ShapeElems.j0 k t120 t121 t122 t123 t124 true a0_0 a0_1 a0_2) = some r := by rw [if_neg (show ¬ (false = true) by decide)] at H; exact H
      clear H
      have H := H1
      clear H1
      have H' := Aside0.mk H
      clear H
      go_wp2_with (first | ((with_reducible refine gate_callee (f := 17) rfl ?_); refine goesL_ (some 19) rfl rfl Try.func17 (by kernel_rfl) rfl #[] rfl (by (try simp only [List.map_toArray, List.map_cons, List.map_nil]); first | done | rfl | (simp only [List.length_drop, List.length_take]; rfl)) ?_; (with_reducible refine (spillwaylaw05_fixed.calls  false _ A10.out).mono ?_); rintro e w16 ⟨rfl, hb⟩; refine ⟨_, rfl, ?_⟩; have n0_ := Aside0.mk (blk_below (g := gb119) (o := .cells #[.int .i64 a0_0, .int .i64 a0_1, .int .i64 a0_2] 23 (0, 0)) (by (with_reducible repeat (first | refine blk_drewN ?_ _ | refine blk_drew ?_ | refine blk_alloc ?_ _)); exact BK119.out) hb); have n1_ := Aside0.mk (below_step (by repeat (first | (with_reducible first | exact HB.out | apply below_alloc | apply pw_below_drewN | apply below_drew1 | refine below_set ?_ GE119.out) | exact HB.out)) hb); clear BK119; clear HB; have BK119 := n0_; have HB := n1_; clear n0_ n1_; (try clear hb); (try clear hb2); (try clear hk); (try clear hi)))
      go_meet
      case rel => exact ⟨_, (true), (by first | rfl | (simp; done) | (simp [*]; done)), H', ⟨by first | omega | exact Nat.le_refl _⟩, ⟨by (with_reducible repeat (first | refine blk_drewN ?_ _ | refine blk_drew ?_ | refine blk_alloc ?_ _)); exact BK119.out⟩, ⟨by repeat (first | (with_reducible first | exact HB.out | apply below_alloc | apply pw_below_drewN | apply below_drew1 | refine below_set ?_ GE119.out) | exact HB.out)⟩⟩
  case rest =>
    clear HC4
    try clear c1
    try clear p2
    try clear c3
    try clear c11
    try clear c15
    try clear c16
    try clear hcz14_0
    try clear hcz14_1
    try clear hcz14_2
    try clear hcz6_0
    try clear hcz6_1
    try clear hcz6_2
    try clear hcz8_0
    try clear hcz8_1
    try clear hcz8_2
    try clear hfz14_0
    try clear hfz14_1
    try clear hfz14_2
    try clear hfz6_0
    try clear hfz6_1
    try clear hfz6_2
    try clear hfz8_0
    try clear hfz8_1
    try clear hfz8_2
    obtain ⟨kq, x25_3, rfl, HA, HJ3, BK119, HB⟩ := hcut
    cases kq with
    | zero => exact absurd HA.out (by simp [spillwaylaw05_ShapeElems.j0])
    | succ kj3 =>
      have H := HA.out
      clear HA
      simp only [spillwaylaw05_ShapeElems.j0] at H
      by_cases c17 : x25_3 = true
      · subst c17
        have H1 : ((spillwaylaw05_fixed.f).bind fun t127 => (if t127 = true then (if t120 = 0 then (if t122 = 0 then (if t123 = 0 then (if t121 = 50 then (some (t124 == t121)) else (some false)) else (some false)) else (some false)) else (some false)) else (some false))) = some r := by rw [if_pos rfl] at H; exact H
        clear H
        have H := H1
        clear H1
        replace H := Option.bind_eq_some_iff.mp H
        obtain ⟨t127, A180, H⟩ := H
        replace H : (if t127 = true then (if t120 = 0 then (if t122 = 0 then (if t123 = 0 then (if t121 = 50 then (some (t124 == t121)) else (some false)) else (some false)) else (some false)) else (some false)) else (some false)) = some r := H
        have A18 := Aside0.mk A180
        clear A180
        by_cases c19 : t127 = true
        · subst c19
          have H1 : (if t120 = 0 then (if t122 = 0 then (if t123 = 0 then (if t121 = 50 then (some (t124 == t121)) else (some false)) else (some false)) else (some false)) else (some false)) = some r := by rw [if_pos rfl] at H; exact H
          clear H
          have H := H1
          clear H1
          by_cases c20 : t120 = 0
          · rw [if_pos c20] at H
            have c20b0 : (t120 == 0) = true := beq_iff_eq.mpr c20
            have c20b1 : (t120 != 0) = false := bne_eq_false_iff_eq.mpr c20
            clear c20
            by_cases c21 : t122 = 0
            · rw [if_pos c21] at H
              have c21b0 : (t122 == 0) = true := beq_iff_eq.mpr c21
              have c21b1 : (t122 != 0) = false := bne_eq_false_iff_eq.mpr c21
              clear c21
              by_cases c22 : t123 = 0
              · rw [if_pos c22] at H
                have c22b0 : (t123 == 0) = true := beq_iff_eq.mpr c22
                have c22b1 : (t123 != 0) = false := bne_eq_false_iff_eq.mpr c22
                clear c22
                by_cases c23 : t121 = 50
                · rw [if_pos c23] at H
                  have c23b0 : (t121 == 50) = true := beq_iff_eq.mpr c23
                  have c23b1 : (t121 != 50) = false := bne_eq_false_iff_eq.mpr c23
                  clear c23
                  obtain rfl := Option.some.inj H
                  go_wp2_with (first | ((with_reducible refine gate_callee (f := 17) rfl ?_); refine goesL_ (some 26) rfl rfl Try.func17 (by kernel_rfl) rfl #[] rfl (by (try simp only [List.map_toArray, List.map_cons, List.map_nil]); first | done | rfl | (simp only [List.length_drop, List.length_take]; rfl)) ?_; (with_reducible refine (spillwaylaw05_fixed.calls  true _ A18.out).mono ?_); rintro e w24 ⟨rfl, hb⟩; refine ⟨_, rfl, ?_⟩; have n0_ := Aside0.mk (blk_below (g := gb119) (o := .cells #[.int .i64 a0_0, .int .i64 a0_1, .int .i64 a0_2] 23 (0, 0)) (by (with_reducible repeat (first | refine blk_drewN ?_ _ | refine blk_drew ?_ | refine blk_alloc ?_ _)); exact BK119.out) hb); have n1_ := Aside0.mk (below_step (by repeat (first | (with_reducible first | exact HB.out | apply below_alloc | apply pw_below_drewN | apply below_drew1 | refine below_set ?_ GE119.out) | exact HB.out)) hb); clear BK119; clear HB; have BK119 := n0_; have HB := n1_; clear n0_ n1_; (try clear hb); (try clear hb2); (try clear hk); (try clear hi)))
                  go_ret
                  exact ⟨by first | rfl | (simp [errW_none, errW_some] <;> rfl) | (simp [*, errW_none, errW_some] <;> rfl), by repeat (first | (with_reducible first | exact HB.out | apply below_alloc | apply pw_below_drewN | apply below_drew1 | refine below_set ?_ GE119.out) | exact HB.out)⟩
                · rw [if_neg c23] at H
                  have c23b0 : (t121 == 50) = false := beq_eq_false_iff_ne.mpr c23
                  have c23b1 : (t121 != 50) = true := bne_iff_ne.mpr c23
                  exact absurd ((Option.some.inj H).trans HRT.out) Bool.false_ne_true
              · rw [if_neg c22] at H
                have c22b0 : (t123 == 0) = false := beq_eq_false_iff_ne.mpr c22
                have c22b1 : (t123 != 0) = true := bne_iff_ne.mpr c22
                exact absurd ((Option.some.inj H).trans HRT.out) Bool.false_ne_true
            · rw [if_neg c21] at H
              have c21b0 : (t122 == 0) = false := beq_eq_false_iff_ne.mpr c21
              have c21b1 : (t122 != 0) = true := bne_iff_ne.mpr c21
              exact absurd ((Option.some.inj H).trans HRT.out) Bool.false_ne_true
          · rw [if_neg c20] at H
            have c20b0 : (t120 == 0) = false := beq_eq_false_iff_ne.mpr c20
            have c20b1 : (t120 != 0) = true := bne_iff_ne.mpr c20
            exact absurd ((Option.some.inj H).trans HRT.out) Bool.false_ne_true
        · replace c19 := Bool.eq_false_iff.mpr c19
          subst c19
          have H1 : (some false) = some r := by rw [if_neg (show ¬ (false = true) by decide)] at H; exact H
          clear H
          have H := H1
          clear H1
          exact absurd ((Option.some.inj H).trans HRT.out) Bool.false_ne_true
      · replace c17 := Bool.eq_false_iff.mpr c17
        subst c17
        have H1 : ((spillwayref05_Elems.f a0_0 a0_1 a0_2).bind fun t128 => (if t120 = t128 then (if t122 = (wrap64 (a0_1 * a0_2)) then (if t123 = a0_2 then (if t121 = 0 then (some (t124 == 0)) else (some false)) else (some false)) else (some false)) else (some false))) = some r := by rw [if_neg (show ¬ (false = true) by decide)] at H; exact H
        clear H
        have H := H1
        clear H1
        replace H := Option.bind_eq_some_iff.mp H
        obtain ⟨t128, A250, H⟩ := H
        replace H : (if t120 = t128 then (if t122 = (wrap64 (a0_1 * a0_2)) then (if t123 = a0_2 then (if t121 = 0 then (some (t124 == 0)) else (some false)) else (some false)) else (some false)) else (some false)) = some r := H
        have A25 := Aside0.mk A250
        clear A250
        by_cases c26 : t120 = t128
        · rw [if_pos c26] at H
          have c26b0 : (t120 == t128) = true := beq_iff_eq.mpr c26
          have c26b1 : (t120 != t128) = false := bne_eq_false_iff_eq.mpr c26
          clear c26
          by_cases c27 : t122 = (wrap64 (a0_1 * a0_2))
          · rw [if_pos c27] at H
            have c27b0 : (t122 == (wrap64 (a0_1 * a0_2))) = true := beq_iff_eq.mpr c27
            have c27b1 : (t122 != (wrap64 (a0_1 * a0_2))) = false := bne_eq_false_iff_eq.mpr c27
            clear c27
            by_cases c28 : t123 = a0_2
            · rw [if_pos c28] at H
              have c28b0 : (t123 == a0_2) = true := beq_iff_eq.mpr c28
              have c28b1 : (t123 != a0_2) = false := bne_eq_false_iff_eq.mpr c28
              clear c28
              by_cases c29 : t121 = 0
              · rw [if_pos c29] at H
                have c29b0 : (t121 == 0) = true := beq_iff_eq.mpr c29
                have c29b1 : (t121 != 0) = false := bne_eq_false_iff_eq.mpr c29
                clear c29
                obtain rfl := Option.some.inj H
                have hcz30_0 : wc.cell? ⟨gb119, 0, none⟩ = some (.int .i64 a0_0) := (blk_cell BK119.out 0).trans rfl
                have hcz30_1 : wc.cell? ⟨gb119, 1, none⟩ = some (.int .i64 a0_1) := (blk_cell BK119.out 1).trans rfl
                have hcz30_2 : wc.cell? ⟨gb119, 2, none⟩ = some (.int .i64 a0_2) := (blk_cell BK119.out 2).trans rfl
                have hfz30_0 := blk_frozen BK119.out 0
                have hfz30_1 := blk_frozen BK119.out 1
                have hfz30_2 := blk_frozen BK119.out 2
                go_wp2_with (first | ((with_reducible refine gate_callee (f := 19) rfl ?_); refine goesL_ (some 50) rfl rfl Try.func19 (by kernel_rfl) rfl #[.agg #[.int .i64 a0_0, .int .i64 a0_1, .int .i64 a0_2]] rfl (by (try simp only [List.map_toArray, List.map_cons, List.map_nil]); first | done | rfl | (simp only [List.length_drop, List.length_take]; rfl)) ?_; (with_reducible refine (spillwayref05_Elems.calls a0_0 a0_1 a0_2 t128 _ A25.out).mono ?_); rintro e w31 ⟨rfl, hb⟩; refine ⟨_, rfl, ?_⟩; have n0_ := Aside0.mk (blk_below (g := gb119) (o := .cells #[.int .i64 a0_0, .int .i64 a0_1, .int .i64 a0_2] 23 (0, 0)) (by (with_reducible repeat (first | refine blk_drewN ?_ _ | refine blk_drew ?_ | refine blk_alloc ?_ _)); exact BK119.out) hb); have n1_ := Aside0.mk (below_step (by repeat (first | (with_reducible first | exact HB.out | apply below_alloc | apply pw_below_drewN | apply below_drew1 | refine below_set ?_ GE119.out) | exact HB.out)) hb); clear BK119; clear HB; have BK119 := n0_; have HB := n1_; clear n0_ n1_; (try clear hb); (try clear hb2); (try clear hk); (try clear hi); have hcz32_0 : w31.cell? ⟨gb119, 0, none⟩ = some (.int .i64 a0_0) := (blk_cell BK119.out 0).trans rfl; have hcz32_1 : w31.cell? ⟨gb119, 1, none⟩ = some (.int .i64 a0_1) := (blk_cell BK119.out 1).trans rfl; have hcz32_2 : w31.cell? ⟨gb119, 2, none⟩ = some (.int .i64 a0_2) := (blk_cell BK119.out 2).trans rfl; have hfz32_0 := blk_frozen BK119.out 0; have hfz32_1 := blk_frozen BK119.out 1; have hfz32_2 := blk_frozen BK119.out 2))
                go_ret
                exact ⟨by first | rfl | (simp [errW_none, errW_some] <;> rfl) | (simp [*, errW_none, errW_some] <;> rfl), by repeat (first | (with_reducible first | exact HB.out | apply below_alloc | apply pw_below_drewN | apply below_drew1 | refine below_set ?_ GE119.out) | exact HB.out)⟩
              · rw [if_neg c29] at H
                have c29b0 : (t121 == 0) = false := beq_eq_false_iff_ne.mpr c29
                have c29b1 : (t121 != 0) = true := bne_iff_ne.mpr c29
                exact absurd ((Option.some.inj H).trans HRT.out) Bool.false_ne_true
            · rw [if_neg c28] at H
              have c28b0 : (t123 == a0_2) = false := beq_eq_false_iff_ne.mpr c28
              have c28b1 : (t123 != a0_2) = true := bne_iff_ne.mpr c28
              exact absurd ((Option.some.inj H).trans HRT.out) Bool.false_ne_true
          · rw [if_neg c27] at H
            have c27b0 : (t122 == (wrap64 (a0_1 * a0_2))) = false := beq_eq_false_iff_ne.mpr c27
            have c27b1 : (t122 != (wrap64 (a0_1 * a0_2))) = true := bne_iff_ne.mpr c27
            exact absurd ((Option.some.inj H).trans HRT.out) Bool.false_ne_true
        · rw [if_neg c26] at H
          have c26b0 : (t120 == t128) = false := beq_eq_false_iff_ne.mpr c26
          have c26b1 : (t120 != t128) = true := bne_iff_ne.mpr c26
          exact absurd ((Option.some.inj H).trans HRT.out) Bool.false_ne_true

end Go.Proofs.Ytfccnnlbiniahaa.Q
