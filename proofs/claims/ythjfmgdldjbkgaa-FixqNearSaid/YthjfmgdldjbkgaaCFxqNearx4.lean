-- PRINTED by print.py (a twelfth state) out of the translation. Not trusted: Lean checks it.
import Derived.Test.YthjfmgdldjbkgaaCFxqNearx0
import Derived.Test.YthjfmgdldjbkgaaCFxqNearx1
import Derived.Test.YthjfmgdldjbkgaaCFxqNearx3
namespace Go.Proofs.Ythjfmgdldjbkgaa.CFxqNear
open Go.RowKit Go.Proofs.YthjfmgdldjbkgaaW.PrintWords Go.Proofs.YthjfmgdldjbkgaaW.PrintLast Go.Proofs.YthjfmgdldjbkgaaW.PrintMore
attribute [local go_sem] max2_int min2_int max_two min_two max_three min_three max_four min_four   -- for this text's walks alone
set_option linter.unusedVariables false
set_option linter.unusedSimpArgs false

/-! ### spillwaylaw02_FixqNear: function 13 -/
mutual
def spillwaylaw02_FixqNear.j0 : Nat → Int → Bool → Int → Int → Option (Bool)
  | 0, _, _, _, _ => none
  | k + 1, x0, x27, x128000, x128001 => if x27 = true then (some true) else ((fixq_Apply.f k x0 x128000 x128001).bind fun bt130 => (if 0 ≤ (IntKind.u64.wrap (x128001)) then (if bt130.2 = 0 then (if (shl .i64 1 (IntKind.u64.wrap (x128001))) = 0 then (none) else (if bt130.1 > (wrap64 ((wrap64 (Int.tdiv (wrap64 (x0 * x128000)) (shl .i64 1 (IntKind.u64.wrap (x128001))))) + 1)) then (spillwaylaw02_FixqNear.j1 k bt130.1 (wrap64 (x0 * x128000)) (shl .i64 1 (IntKind.u64.wrap (x128001))) true) else (spillwaylaw02_FixqNear.j1 k bt130.1 (wrap64 (x0 * x128000)) (shl .i64 1 (IntKind.u64.wrap (x128001))) (decide (bt130.1 < (wrap64 ((wrap64 (Int.tdiv (wrap64 (x0 * x128000)) (shl .i64 1 (IntKind.u64.wrap (x128001))))) - 1))))))) else (spillwaylaw02_FixqNear.j1 k bt130.1 (wrap64 (x0 * x128000)) (shl .i64 1 (IntKind.u64.wrap (x128001))) true)) else (none)))
def spillwaylaw02_FixqNear.j1 : Nat → Int → Int → Int → Bool → Option (Bool)
  | 0, _, _, _, _ => none
  | k + 1, x5, x7, x8, x59 => if x59 = true then (some false) else (if (wrap64 (x7 - (wrap64 (x5 * x8)))) < 0 then (spillwaylaw02_FixqNear.j2 k x5 x7 x8 (wrap64 (-(wrap64 (x7 - (wrap64 (x5 * x8))))))) else (spillwaylaw02_FixqNear.j2 k x5 x7 x8 (wrap64 (x7 - (wrap64 (x5 * x8))))))
def spillwaylaw02_FixqNear.j2 : Nat → Int → Int → Int → Int → Option (Bool)
  | 0, _, _, _, _ => none
  | k + 1, x5, x7, x8, x9 => if x8 = 1 then (some (x9 == 0)) else (if x9 = (wrap64 (Int.tdiv x8 2)) then (if ((decide (x7 < 0)) == (decide ((wrap64 (x5 * x8)) < x7))) = true then (some (x7 != 0)) else (some false)) else (some (decide (x9 < (wrap64 (Int.tdiv x8 2))))))
end
def spillwaylaw02_FixqNear.f (k : Nat) (a0 : Int) (a1_0 : Int) (a1_1 : Int) : Option (Bool) := (spillwaylaw02_fixed.f k).bind fun t128 => (if t128 = true then ((fixq_Valid.f a1_0 a1_1).bind fun t129 => (if t129 = true then (if a0 < (-2147483648) then (spillwaylaw02_FixqNear.j0 k a0 true a1_0 a1_1) else (if a0 ≥ 2147483648 then (spillwaylaw02_FixqNear.j0 k a0 true a1_0 a1_1) else (spillwaylaw02_FixqNear.j0 k a0 (decide (a1_1 > 60)) a1_0 a1_1))) else (spillwaylaw02_FixqNear.j0 k a0 true a1_0 a1_1))) else (some false))
theorem spillwaylaw02_FixqNear.mono_l : ∀ k, (∀ y0 y1 y2 y3, LeO (spillwaylaw02_FixqNear.j0 k y0 y1 y2 y3) (spillwaylaw02_FixqNear.j0 (k + 1) y0 y1 y2 y3)) ∧ (∀ y0 y1 y2 y3, LeO (spillwaylaw02_FixqNear.j1 k y0 y1 y2 y3) (spillwaylaw02_FixqNear.j1 (k + 1) y0 y1 y2 y3)) ∧ (∀ y0 y1 y2 y3, LeO (spillwaylaw02_FixqNear.j2 k y0 y1 y2 y3) (spillwaylaw02_FixqNear.j2 (k + 1) y0 y1 y2 y3))
  | 0 => ⟨fun _ _ _ _ r h => by simp [spillwaylaw02_FixqNear.j0] at h, fun _ _ _ _ r h => by simp [spillwaylaw02_FixqNear.j1] at h, fun _ _ _ _ r h => by simp [spillwaylaw02_FixqNear.j2] at h⟩
  | k + 1 => by
    obtain ⟨ih0, ih1, ih2⟩ := spillwaylaw02_FixqNear.mono_l k
    refine ⟨?_, ?_, ?_⟩
    · intro y0 y1 y2 y3
      unfold spillwaylaw02_FixqNear.j0
      repeat' first
      | (with_reducible exact ih0 _ _ _ _)
      | (with_reducible exact ih1 _ _ _ _)
      | (with_reducible exact ih2 _ _ _ _)
      | (with_reducible exact fixq_Apply.mono _ _ _ _)
      | (with_reducible exact spillwaylaw02_fixed.mono _)
      | (with_reducible exact LeO.refl _)
      | (with_reducible exact LeO.none _)
      | (with_reducible refine LeO.ite ?_ ?_)
      | (with_reducible refine LeO.bind ?_ (fun _ => ?_))
      | exact ih0 _ _ _ _
      | exact ih1 _ _ _ _
      | exact ih2 _ _ _ _
      | exact fixq_Apply.mono _ _ _ _
      | exact spillwaylaw02_fixed.mono _
      | exact LeO.none _
      | refine LeO.ite ?_ ?_
      | refine LeO.bind ?_ (fun _ => ?_)
    · intro y0 y1 y2 y3
      unfold spillwaylaw02_FixqNear.j1
      repeat' first
      | (with_reducible exact ih0 _ _ _ _)
      | (with_reducible exact ih1 _ _ _ _)
      | (with_reducible exact ih2 _ _ _ _)
      | (with_reducible exact fixq_Apply.mono _ _ _ _)
      | (with_reducible exact spillwaylaw02_fixed.mono _)
      | (with_reducible exact LeO.refl _)
      | (with_reducible exact LeO.none _)
      | (with_reducible refine LeO.ite ?_ ?_)
      | (with_reducible refine LeO.bind ?_ (fun _ => ?_))
      | exact ih0 _ _ _ _
      | exact ih1 _ _ _ _
      | exact ih2 _ _ _ _
      | exact fixq_Apply.mono _ _ _ _
      | exact spillwaylaw02_fixed.mono _
      | exact LeO.none _
      | refine LeO.ite ?_ ?_
      | refine LeO.bind ?_ (fun _ => ?_)
    · intro y0 y1 y2 y3
      unfold spillwaylaw02_FixqNear.j2
      repeat' first
      | (with_reducible exact ih0 _ _ _ _)
      | (with_reducible exact ih1 _ _ _ _)
      | (with_reducible exact ih2 _ _ _ _)
      | (with_reducible exact fixq_Apply.mono _ _ _ _)
      | (with_reducible exact spillwaylaw02_fixed.mono _)
      | (with_reducible exact LeO.refl _)
      | (with_reducible exact LeO.none _)
      | (with_reducible refine LeO.ite ?_ ?_)
      | (with_reducible refine LeO.bind ?_ (fun _ => ?_))
      | exact ih0 _ _ _ _
      | exact ih1 _ _ _ _
      | exact ih2 _ _ _ _
      | exact fixq_Apply.mono _ _ _ _
      | exact spillwaylaw02_fixed.mono _
      | exact LeO.none _
      | refine LeO.ite ?_ ?_
      | refine LeO.bind ?_ (fun _ => ?_)
theorem spillwaylaw02_FixqNear.mono : ∀ a0 a1 a2 k, LeO (spillwaylaw02_FixqNear.f k a0 a1 a2) (spillwaylaw02_FixqNear.f (k + 1) a0 a1 a2) := by
  intro a0 a1 a2 k
  obtain ⟨ih0, ih1, ih2⟩ := spillwaylaw02_FixqNear.mono_l k
  unfold spillwaylaw02_FixqNear.f
  repeat' first
      | (with_reducible exact ih0 _ _ _ _)
      | (with_reducible exact ih1 _ _ _ _)
      | (with_reducible exact ih2 _ _ _ _)
      | (with_reducible exact fixq_Apply.mono _ _ _ _)
      | (with_reducible exact spillwaylaw02_fixed.mono _)
      | (with_reducible exact LeO.refl _)
      | (with_reducible exact LeO.none _)
      | (with_reducible refine LeO.ite ?_ ?_)
      | (with_reducible refine LeO.bind ?_ (fun _ => ?_))
      | exact ih0 _ _ _ _
      | exact ih1 _ _ _ _
      | exact ih2 _ _ _ _
      | exact fixq_Apply.mono _ _ _ _
      | exact spillwaylaw02_fixed.mono _
      | exact LeO.none _
      | refine LeO.ite ?_ ?_
      | refine LeO.bind ?_ (fun _ => ?_)
set_option maxHeartbeats 8000000 in
set_option maxRecDepth 100000 in
theorem spillwaylaw02_FixqNear.calls (k : Nat) (a0 : Int) (a1_0 : Int) (a1_1 : Int) (r : Bool) (w : World) (hrt : r = true) (h : spillwaylaw02_FixqNear.f k a0 a1_0 a1_1 = some r) :
    Calls Try.prog 13 #[.int .i64 a0, .agg #[.int .i64 a1_0, .int .i64 a1_1]] w fun e w' => e = .returned (.bool r) ∧ Below w.heap.size w w' := by
  have hu45 := Try.underlying45
  have HB := Aside0.mk (Below.refl w.heap.size w)
  have H : ((spillwaylaw02_fixed.f k).bind fun t128 => (if t128 = true then ((fixq_Valid.f a1_0 a1_1).bind fun t129 => (if t129 = true then (if a0 < (-2147483648) then (spillwaylaw02_FixqNear.j0 k a0 true a1_0 a1_1) else (if a0 ≥ 2147483648 then (spillwaylaw02_FixqNear.j0 k a0 true a1_0 a1_1) else (spillwaylaw02_FixqNear.j0 k a0 (decide (a1_1 > 60)) a1_0 a1_1))) else (spillwaylaw02_FixqNear.j0 k a0 true a1_0 a1_1))) else (some false))) = some r := h
  clear h
  have HRT := Aside0.mk hrt
  clear hrt
  replace H := Option.bind_eq_some_iff.mp H
  obtain ⟨t128, A30, H⟩ := H
  replace H : (if t128 = true then ((fixq_Valid.f a1_0 a1_1).bind fun t129 => (if t129 = true then (if a0 < (-2147483648) then (spillwaylaw02_FixqNear.j0 k a0 true a1_0 a1_1) else (if a0 ≥ 2147483648 then (spillwaylaw02_FixqNear.j0 k a0 true a1_0 a1_1) else (spillwaylaw02_FixqNear.j0 k a0 (decide (a1_1 > 60)) a1_0 a1_1))) else (spillwaylaw02_FixqNear.j0 k a0 true a1_0 a1_1))) else (some false)) = some r := H
  have A3 := Aside0.mk A30
  clear A30
  by_cases c4 : t128 = true
  · subst c4
    have H1 : ((fixq_Valid.f a1_0 a1_1).bind fun t129 => (if t129 = true then (if a0 < (-2147483648) then (spillwaylaw02_FixqNear.j0 k a0 true a1_0 a1_1) else (if a0 ≥ 2147483648 then (spillwaylaw02_FixqNear.j0 k a0 true a1_0 a1_1) else (spillwaylaw02_FixqNear.j0 k a0 (decide (a1_1 > 60)) a1_0 a1_1))) else (spillwaylaw02_FixqNear.j0 k a0 true a1_0 a1_1))) = some r := by rw [if_pos rfl] at H; exact H
    clear H
    have H := H1
    clear H1
    have HC5 := Aside0.mk H
    clear H
    go_enter Try.func13, Try.ntmps13
    go_upto_region 3 with (first | ((with_reducible refine gate_dst (N := 3) rfl ?_); refine box_event ?hg (N := 3) ?hd (cs := #[.int .i64 a1_0, .int .i64 a1_1]) (t := 45) ?hr ?_; (case hd => rfl); (case hg => rfl); (case hr => first | (go_simp; done) | (go_simp; rfl)); intro gb127 hg w6 hbox hb; have n0_ := Aside0.mk (below_step (by repeat (first | (with_reducible first | exact HB.out | apply below_alloc | apply pw_below_drewN | apply below_drew1) | exact HB.out)) hb); have n1_ := Aside0.mk (hbox); have n2_ := Aside0.mk ((by rw [hg]; exact (below_size (by repeat (first | (with_reducible first | exact HB.out | apply below_alloc | apply pw_below_drewN | apply below_drew1) | exact HB.out))) : w.heap.size ≤ gb127)); have n3_ := Aside0.mk ((by rw [hg]; exact (below_size (by repeat (first | (with_reducible first | exact HB.out | apply below_alloc | apply pw_below_drewN | apply below_drew1) | exact HB.out))) : w.heap.size ≤ gb127)); clear HB; have HB := n0_; have BK127 := n1_; have GW127 := n2_; have GE127 := n3_; clear n0_ n1_ n2_ n3_; clear hb hbox hg) | ((with_reducible refine gate_callee (f := 43) rfl ?_); refine goesL_ (some 10) rfl rfl Try.func43 (by kernel_rfl) rfl #[] rfl (by (try simp only [List.map_toArray, List.map_cons, List.map_nil]); first | done | rfl | (simp only [List.length_drop, List.length_take]; rfl)) ?_; (with_reducible refine (spillwaylaw02_fixed.calls k  true _ A3.out).mono ?_); rintro e w7 ⟨rfl, hb⟩; refine ⟨_, rfl, ?_⟩; have n0_ := Aside0.mk (blk_below (g := gb127) (o := .cells #[.int .i64 a1_0, .int .i64 a1_1] 45 (0, 0)) (by (with_reducible repeat (first | refine blk_drewN ?_ _ | refine blk_drew ?_ | refine blk_alloc ?_ _)); exact BK127.out) hb); have n1_ := Aside0.mk (below_step (by repeat (first | (with_reducible first | exact HB.out | apply below_alloc | apply pw_below_drewN | apply below_drew1 | refine below_set ?_ GE127.out) | exact HB.out)) hb); clear BK127; clear HB; have BK127 := n0_; have HB := n1_; clear n0_ n1_; (try clear hb); (try clear hb2); (try clear hk); (try clear hi)))
    (try simp only [Act.put, List.setIfInBounds_toArray, List.set_cons_zero, List.set_cons_succ])
    go_cut [27] (fun v27 wc => ∃ (kq : Nat) (x27_4 : Bool), v27 = .bool x27_4 ∧ Aside0 (spillwaylaw02_FixqNear.j0 kq a0 x27_4 a1_0 a1_1 = some r) ∧ Aside0 (kq ≤ k) ∧ Aside0 (wc.heap[gb127]? = some (.cells #[.int .i64 a1_0, .int .i64 a1_1] 45 (0, 0))) ∧ Aside0 (Below w.heap.size w wc))
    case first =>
      have H := HC5.out
      clear HC5
      replace H := Option.bind_eq_some_iff.mp H
      obtain ⟨t129, A80, H⟩ := H
      replace H : (if t129 = true then (if a0 < (-2147483648) then (spillwaylaw02_FixqNear.j0 k a0 true a1_0 a1_1) else (if a0 ≥ 2147483648 then (spillwaylaw02_FixqNear.j0 k a0 true a1_0 a1_1) else (spillwaylaw02_FixqNear.j0 k a0 (decide (a1_1 > 60)) a1_0 a1_1))) else (spillwaylaw02_FixqNear.j0 k a0 true a1_0 a1_1)) = some r := H
      have A8 := Aside0.mk A80
      clear A80
      by_cases c9 : t129 = true
      · subst c9
        have H1 : (if a0 < (-2147483648) then (spillwaylaw02_FixqNear.j0 k a0 true a1_0 a1_1) else (if a0 ≥ 2147483648 then (spillwaylaw02_FixqNear.j0 k a0 true a1_0 a1_1) else (spillwaylaw02_FixqNear.j0 k a0 (decide (a1_1 > 60)) a1_0 a1_1))) = some r := by rw [if_pos rfl] at H; exact H
        clear H
        have H := H1
        clear H1
        by_cases c10 : a0 < (-2147483648)
        · rw [if_pos c10] at H
          have c10b0 : decide (a0 < (-2147483648)) = true := decide_eq_true c10
          clear c10
          (first | rw [c10b0] | (simp only [i64_w, i32_w]; rw [c10b0]) | skip)
          have H' := Aside0.mk H
          clear H
          have hcz11_0 : w7.cell? ⟨gb127, 0, none⟩ = some (.int .i64 a1_0) := (blk_cell BK127.out 0).trans rfl
          have hcz11_1 : w7.cell? ⟨gb127, 1, none⟩ = some (.int .i64 a1_1) := (blk_cell BK127.out 1).trans rfl
          have hfz11_0 := blk_frozen BK127.out 0
          have hfz11_1 := blk_frozen BK127.out 1
          go_wp2_with (first | ((with_reducible refine gate_callee (f := 44) rfl ?_); refine goesL_ (some 13) rfl rfl Try.func44 (by kernel_rfl) rfl #[.agg #[.int .i64 a1_0, .int .i64 a1_1]] rfl (by (try simp only [List.map_toArray, List.map_cons, List.map_nil]); first | done | rfl | (simp only [List.length_drop, List.length_take]; rfl)) ?_; (with_reducible refine (fixq_Valid.calls a1_0 a1_1 true _ A8.out).mono ?_); rintro e w12 ⟨rfl, hb⟩; refine ⟨_, rfl, ?_⟩; have n0_ := Aside0.mk (blk_below (g := gb127) (o := .cells #[.int .i64 a1_0, .int .i64 a1_1] 45 (0, 0)) (by (with_reducible repeat (first | refine blk_drewN ?_ _ | refine blk_drew ?_ | refine blk_alloc ?_ _)); exact BK127.out) hb); have n1_ := Aside0.mk (below_step (by repeat (first | (with_reducible first | exact HB.out | apply below_alloc | apply pw_below_drewN | apply below_drew1 | refine below_set ?_ GE127.out) | exact HB.out)) hb); clear BK127; clear HB; have BK127 := n0_; have HB := n1_; clear n0_ n1_; (try clear hb); (try clear hb2); (try clear hk); (try clear hi)))
          go_meet
          case rel => exact ⟨_, (true), (by first | rfl | (simp; done) | (simp [*]; done)), H', ⟨by first | omega | exact Nat.le_refl _⟩, ⟨by (with_reducible repeat (first | refine blk_drewN ?_ _ | refine blk_drew ?_ | refine blk_alloc ?_ _)); exact BK127.out⟩, ⟨by repeat (first | (with_reducible first | exact HB.out | apply below_alloc | apply pw_below_drewN | apply below_drew1 | refine below_set ?_ GE127.out) | exact HB.out)⟩⟩
        · rw [if_neg c10] at H
          have c10b0 : decide (a0 < (-2147483648)) = false := decide_eq_false c10
          clear c10
          (first | rw [c10b0] | (simp only [i64_w, i32_w]; rw [c10b0]) | skip)
          by_cases c13 : a0 ≥ 2147483648
          · rw [if_pos c13] at H
            have c13b0 : decide (2147483648 ≤ a0) = true := decide_eq_true c13
            clear c13
            have H' := Aside0.mk H
            clear H
            have hcz14_0 : w7.cell? ⟨gb127, 0, none⟩ = some (.int .i64 a1_0) := (blk_cell BK127.out 0).trans rfl
            have hcz14_1 : w7.cell? ⟨gb127, 1, none⟩ = some (.int .i64 a1_1) := (blk_cell BK127.out 1).trans rfl
            have hfz14_0 := blk_frozen BK127.out 0
            have hfz14_1 := blk_frozen BK127.out 1
            go_wp2_with (first | ((with_reducible refine gate_callee (f := 44) rfl ?_); refine goesL_ (some 13) rfl rfl Try.func44 (by kernel_rfl) rfl #[.agg #[.int .i64 a1_0, .int .i64 a1_1]] rfl (by (try simp only [List.map_toArray, List.map_cons, List.map_nil]); first | done | rfl | (simp only [List.length_drop, List.length_take]; rfl)) ?_; (with_reducible refine (fixq_Valid.calls a1_0 a1_1 true _ A8.out).mono ?_); rintro e w15 ⟨rfl, hb⟩; refine ⟨_, rfl, ?_⟩; have n0_ := Aside0.mk (blk_below (g := gb127) (o := .cells #[.int .i64 a1_0, .int .i64 a1_1] 45 (0, 0)) (by (with_reducible repeat (first | refine blk_drewN ?_ _ | refine blk_drew ?_ | refine blk_alloc ?_ _)); exact BK127.out) hb); have n1_ := Aside0.mk (below_step (by repeat (first | (with_reducible first | exact HB.out | apply below_alloc | apply pw_below_drewN | apply below_drew1 | refine below_set ?_ GE127.out) | exact HB.out)) hb); clear BK127; clear HB; have BK127 := n0_; have HB := n1_; clear n0_ n1_; (try clear hb); (try clear hb2); (try clear hk); (try clear hi)))
            go_meet
            case rel => exact ⟨_, (true), (by first | rfl | (simp; done) | (simp [*]; done)), H', ⟨by first | omega | exact Nat.le_refl _⟩, ⟨by (with_reducible repeat (first | refine blk_drewN ?_ _ | refine blk_drew ?_ | refine blk_alloc ?_ _)); exact BK127.out⟩, ⟨by repeat (first | (with_reducible first | exact HB.out | apply below_alloc | apply pw_below_drewN | apply below_drew1 | refine below_set ?_ GE127.out) | exact HB.out)⟩⟩
          · rw [if_neg c13] at H
            have c13b0 : decide (2147483648 ≤ a0) = false := decide_eq_false c13
            clear c13
            have H' := Aside0.mk H
            clear H
            have hcz16_0 : w7.cell? ⟨gb127, 0, none⟩ = some (.int .i64 a1_0) := (blk_cell BK127.out 0).trans rfl
            have hcz16_1 : w7.cell? ⟨gb127, 1, none⟩ = some (.int .i64 a1_1) := (blk_cell BK127.out 1).trans rfl
            have hfz16_0 := blk_frozen BK127.out 0
            have hfz16_1 := blk_frozen BK127.out 1
            go_wp2_with (first | ((with_reducible refine gate_callee (f := 44) rfl ?_); refine goesL_ (some 13) rfl rfl Try.func44 (by kernel_rfl) rfl #[.agg #[.int .i64 a1_0, .int .i64 a1_1]] rfl (by (try simp only [List.map_toArray, List.map_cons, List.map_nil]); first | done | rfl | (simp only [List.length_drop, List.length_take]; rfl)) ?_; (with_reducible refine (fixq_Valid.calls a1_0 a1_1 true _ A8.out).mono ?_); rintro e w17 ⟨rfl, hb⟩; refine ⟨_, rfl, ?_⟩; have n0_ := Aside0.mk (blk_below (g := gb127) (o := .cells #[.int .i64 a1_0, .int .i64 a1_1] 45 (0, 0)) (by (with_reducible repeat (first | refine blk_drewN ?_ _ | refine blk_drew ?_ | refine blk_alloc ?_ _)); exact BK127.out) hb); have n1_ := Aside0.mk (below_step (by repeat (first | (with_reducible first | exact HB.out | apply below_alloc | apply pw_below_drewN | apply below_drew1 | refine below_set ?_ GE127.out) | exact HB.out)) hb); clear BK127; clear HB; have BK127 := n0_; have HB := n1_; clear n0_ n1_; (try clear hb); (try clear hb2); (try clear hk); (try clear hi); have hcz18_0 : w17.cell? ⟨gb127, 0, none⟩ = some (.int .i64 a1_0) := (blk_cell BK127.out 0).trans rfl; have hcz18_1 : w17.cell? ⟨gb127, 1, none⟩ = some (.int .i64 a1_1) := (blk_cell BK127.out 1).trans rfl; have hfz18_0 := blk_frozen BK127.out 0; have hfz18_1 := blk_frozen BK127.out 1))
            go_meet
            case rel => exact ⟨_, (decide (a1_1 > 60)), (by first | rfl | (simp; done) | (simp [*]; done)), H', ⟨by first | omega | exact Nat.le_refl _⟩, ⟨by (with_reducible repeat (first | refine blk_drewN ?_ _ | refine blk_drew ?_ | refine blk_alloc ?_ _)); exact BK127.out⟩, ⟨by repeat (first | (with_reducible first | exact HB.out | apply below_alloc | apply pw_below_drewN | apply below_drew1 | refine below_set ?_ GE127.out) | exact HB.out)⟩⟩
      · replace c9 := Bool.eq_false_iff.mpr c9
        subst c9
        have H1 : (spillwaylaw02_FixqNear.j0 k a0 true a1_0 a1_1) = some r := by rw [if_neg (show ¬ (false = true) by decide)] at H; exact H
        clear H
        have H := H1
        clear H1
        have H' := Aside0.mk H
        clear H
        have hcz19_0 : w7.cell? ⟨gb127, 0, none⟩ = some (.int .i64 a1_0) := (blk_cell BK127.out 0).trans rfl
        have hcz19_1 : w7.cell? ⟨gb127, 1, none⟩ = some (.int .i64 a1_1) := (blk_cell BK127.out 1).trans rfl
        have hfz19_0 := blk_frozen BK127.out 0
        have hfz19_1 := blk_frozen BK127.out 1
        go_wp2_with (first | ((with_reducible refine gate_callee (f := 44) rfl ?_); refine goesL_ (some 13) rfl rfl Try.func44 (by kernel_rfl) rfl #[.agg #[.int .i64 a1_0, .int .i64 a1_1]] rfl (by (try simp only [List.map_toArray, List.map_cons, List.map_nil]); first | done | rfl | (simp only [List.length_drop, List.length_take]; rfl)) ?_; (with_reducible refine (fixq_Valid.calls a1_0 a1_1 false _ A8.out).mono ?_); rintro e w20 ⟨rfl, hb⟩; refine ⟨_, rfl, ?_⟩; have n0_ := Aside0.mk (blk_below (g := gb127) (o := .cells #[.int .i64 a1_0, .int .i64 a1_1] 45 (0, 0)) (by (with_reducible repeat (first | refine blk_drewN ?_ _ | refine blk_drew ?_ | refine blk_alloc ?_ _)); exact BK127.out) hb); have n1_ := Aside0.mk (below_step (by repeat (first | (with_reducible first | exact HB.out | apply below_alloc | apply pw_below_drewN | apply below_drew1 | refine below_set ?_ GE127.out) | exact HB.out)) hb); clear BK127; clear HB; have BK127 := n0_; have HB := n1_; clear n0_ n1_; (try clear hb); (try clear hb2); (try clear hk); (try clear hi)))
        go_meet
        case rel => exact ⟨_, (true), (by first | rfl | (simp; done) | (simp [*]; done)), H', ⟨by first | omega | exact Nat.le_refl _⟩, ⟨by (with_reducible repeat (first | refine blk_drewN ?_ _ | refine blk_drew ?_ | refine blk_alloc ?_ _)); exact BK127.out⟩, ⟨by repeat (first | (with_reducible first | exact HB.out | apply below_alloc | apply pw_below_drewN | apply below_drew1 | refine below_set ?_ GE127.out) | exact HB.out)⟩⟩
    case rest =>
      clear HC5
      try clear c1
      try clear p2
      try clear c4
      try clear c9
      try clear c10
      try clear c10b0
      try clear c13
      try clear c13b0
      try clear hcz11_0
      try clear hcz11_1
      try clear hcz14_0
      try clear hcz14_1
      try clear hcz16_0
      try clear hcz16_1
      try clear hcz18_0
      try clear hcz18_1
      try clear hcz19_0
      try clear hcz19_1
      try clear hfz11_0
      try clear hfz11_1
      try clear hfz14_0
      try clear hfz14_1
      try clear hfz16_0
      try clear hfz16_1
      try clear hfz18_0
      try clear hfz18_1
      try clear hfz19_0
      try clear hfz19_1
      obtain ⟨kq, x27_4, rfl, HA, HJ4, BK127, HB⟩ := hcut
      cases kq with
      | zero => exact absurd HA.out (by simp [spillwaylaw02_FixqNear.j0])
      | succ kj4 =>
        have H := HA.out
        clear HA
        simp only [spillwaylaw02_FixqNear.j0] at H
        by_cases c21 : x27_4 = true
        · subst c21
          have H1 : (some true) = some r := by rw [if_pos rfl] at H; exact H
          clear H
          have H := H1
          clear H1
          obtain rfl := Option.some.inj H
          go_wp2
          go_ret
          exact ⟨by first | rfl | (simp [errW_none, errW_some] <;> rfl) | (simp [*, errW_none, errW_some] <;> rfl), by repeat (first | (with_reducible first | exact HB.out | apply below_alloc | apply pw_below_drewN | apply below_drew1 | refine below_set ?_ GE127.out) | exact HB.out)⟩
        · replace c21 := Bool.eq_false_iff.mpr c21
          subst c21
          have H1 : ((fixq_Apply.f kj4 a0 a1_0 a1_1).bind fun bt130 => (if 0 ≤ (IntKind.u64.wrap (a1_1)) then (if bt130.2 = 0 then (if (shl .i64 1 (IntKind.u64.wrap (a1_1))) = 0 then (none) else (if bt130.1 > (wrap64 ((wrap64 (Int.tdiv (wrap64 (a0 * a1_0)) (shl .i64 1 (IntKind.u64.wrap (a1_1))))) + 1)) then (spillwaylaw02_FixqNear.j1 kj4 bt130.1 (wrap64 (a0 * a1_0)) (shl .i64 1 (IntKind.u64.wrap (a1_1))) true) else (spillwaylaw02_FixqNear.j1 kj4 bt130.1 (wrap64 (a0 * a1_0)) (shl .i64 1 (IntKind.u64.wrap (a1_1))) (decide (bt130.1 < (wrap64 ((wrap64 (Int.tdiv (wrap64 (a0 * a1_0)) (shl .i64 1 (IntKind.u64.wrap (a1_1))))) - 1))))))) else (spillwaylaw02_FixqNear.j1 kj4 bt130.1 (wrap64 (a0 * a1_0)) (shl .i64 1 (IntKind.u64.wrap (a1_1))) true)) else (none))) = some r := by rw [if_neg (show ¬ (false = true) by decide)] at H; exact H
          clear H
          have H := H1
          clear H1
          replace H := Option.bind_eq_some_iff.mp H
          obtain ⟨⟨t130, t131⟩, A220, H⟩ := H
          replace H : (if 0 ≤ (IntKind.u64.wrap (a1_1)) then (if t131 = 0 then (if (shl .i64 1 (IntKind.u64.wrap (a1_1))) = 0 then (none) else (if t130 > (wrap64 ((wrap64 (Int.tdiv (wrap64 (a0 * a1_0)) (shl .i64 1 (IntKind.u64.wrap (a1_1))))) + 1)) then (spillwaylaw02_FixqNear.j1 kj4 t130 (wrap64 (a0 * a1_0)) (shl .i64 1 (IntKind.u64.wrap (a1_1))) true) else (spillwaylaw02_FixqNear.j1 kj4 t130 (wrap64 (a0 * a1_0)) (shl .i64 1 (IntKind.u64.wrap (a1_1))) (decide (t130 < (wrap64 ((wrap64 (Int.tdiv (wrap64 (a0 * a1_0)) (shl .i64 1 (IntKind.u64.wrap (a1_1))))) - 1))))))) else (spillwaylaw02_FixqNear.j1 kj4 t130 (wrap64 (a0 * a1_0)) (shl .i64 1 (IntKind.u64.wrap (a1_1))) true)) else (none)) = some r := H
          have A22 := Aside0.mk A220
          clear A220
          obtain ⟨ji23, hji23⟩ : ∃ j_ : Int, (IntKind.u64.wrap (a1_1)) = j_ := ⟨_, rfl⟩
          replace H : (if 0 ≤ (ji23) then (if t131 = 0 then (if (shl .i64 1 (ji23)) = 0 then (none) else (if t130 > (wrap64 ((wrap64 (Int.tdiv (wrap64 (a0 * a1_0)) (shl .i64 1 (ji23)))) + 1)) then (spillwaylaw02_FixqNear.j1 kj4 t130 (wrap64 (a0 * a1_0)) (shl .i64 1 (ji23)) true) else (spillwaylaw02_FixqNear.j1 kj4 t130 (wrap64 (a0 * a1_0)) (shl .i64 1 (ji23)) (decide (t130 < (wrap64 ((wrap64 (Int.tdiv (wrap64 (a0 * a1_0)) (shl .i64 1 (ji23)))) - 1))))))) else (spillwaylaw02_FixqNear.j1 kj4 t130 (wrap64 (a0 * a1_0)) (shl .i64 1 (ji23)) true)) else (none)) = some r := by first | (rw [hji23] at H; exact H) | (simp only [hji23] at H ⊢; exact H)
          (try rw [hji23] at A22)
          by_cases c24 : 0 ≤ (ji23)
          · rw [if_pos c24] at H
            have c24b0 := eq_true c24
            have c24b1 : decide (0 ≤ (ji23)) = true := decide_eq_true c24
            clear c24
            obtain ⟨ji25, hji25⟩ : ∃ j_ : Int, (shl .i64 1 (ji23)) = j_ := ⟨_, rfl⟩
            replace H : (if t131 = 0 then (if (ji25) = 0 then (none) else (if t130 > (wrap64 ((wrap64 (Int.tdiv (wrap64 (a0 * a1_0)) (ji25))) + 1)) then (spillwaylaw02_FixqNear.j1 kj4 t130 (wrap64 (a0 * a1_0)) ji25 true) else (spillwaylaw02_FixqNear.j1 kj4 t130 (wrap64 (a0 * a1_0)) ji25 (decide (t130 < (wrap64 ((wrap64 (Int.tdiv (wrap64 (a0 * a1_0)) (ji25))) - 1))))))) else (spillwaylaw02_FixqNear.j1 kj4 t130 (wrap64 (a0 * a1_0)) ji25 true)) = some r := by first | (rw [hji25] at H; exact H) | (simp only [hji25] at H ⊢; exact H)
            (try rw [hji25] at A22)
            have hji25_ : (IntKind.i64.wrap (1 * 2 ^ min (ji23).toNat 64)) = ji25 := hji25
            have hji25z : (ji23) ≤ 64 → (IntKind.i64.wrap (1 * 2 ^ (ji23).toNat)) = ji25 := shl_small hji25
            have hji25u : (IntKind.i64.wrap (2 ^ min (ji23).toNat 64)) = ji25 := by have h_ := hji25_; rw [Int.one_mul] at h_; exact h_
            have hji25v : (ji23) ≤ 64 → (IntKind.i64.wrap (2 ^ (ji23).toNat)) = ji25 := fun hle_ => by have h_ := hji25z hle_; rw [Int.one_mul] at h_; exact h_
            have hji25y : (wrap64 (1 * 2 ^ min (ji23).toNat 64)) = ji25 := (i64_w _).symm.trans hji25_
            have hji25x : (ji23) ≤ 64 → (wrap64 (1 * 2 ^ (ji23).toNat)) = ji25 := fun h_ => (i64_w _).symm.trans (hji25z h_)
            have HC26 := Aside0.mk H
            clear H
            have hcz27_0 : wc.cell? ⟨gb127, 0, none⟩ = some (.int .i64 a1_0) := (blk_cell BK127.out 0).trans rfl
            have hcz27_1 : wc.cell? ⟨gb127, 1, none⟩ = some (.int .i64 a1_1) := (blk_cell BK127.out 1).trans rfl
            have hfz27_0 := blk_frozen BK127.out 0
            have hfz27_1 := blk_frozen BK127.out 1
            go_upto_region 8 with (first | ((with_reducible refine gate_callee (f := 41) rfl ?_); refine goesL_ (some 31) rfl rfl Try.func41 (by kernel_rfl) rfl #[.int .i64 a0, .agg #[.int .i64 a1_0, .int .i64 a1_1]] rfl (by (try simp only [List.map_toArray, List.map_cons, List.map_nil]); first | done | rfl | (simp only [List.length_drop, List.length_take]; rfl)) ?_; (with_reducible refine (fixq_Apply.calls kj4 a0 a1_0 a1_1 t130 t131 _ A22.out).mono ?_); rintro e w28 ⟨rfl, hb⟩; refine ⟨_, rfl, ?_⟩; have n0_ := Aside0.mk (blk_below (g := gb127) (o := .cells #[.int .i64 a1_0, .int .i64 a1_1] 45 (0, 0)) (by (with_reducible repeat (first | refine blk_drewN ?_ _ | refine blk_drew ?_ | refine blk_alloc ?_ _)); exact BK127.out) hb); have n1_ := Aside0.mk (below_step (by repeat (first | (with_reducible first | exact HB.out | apply below_alloc | apply pw_below_drewN | apply below_drew1 | refine below_set ?_ GE127.out) | exact HB.out)) hb); clear BK127; clear HB; have BK127 := n0_; have HB := n1_; clear n0_ n1_; (try clear hb); (try clear hb2); (try clear hk); (try clear hi); have hcz29_0 : w28.cell? ⟨gb127, 0, none⟩ = some (.int .i64 a1_0) := (blk_cell BK127.out 0).trans rfl; have hcz29_1 : w28.cell? ⟨gb127, 1, none⟩ = some (.int .i64 a1_1) := (blk_cell BK127.out 1).trans rfl; have hfz29_0 := blk_frozen BK127.out 0; have hfz29_1 := blk_frozen BK127.out 1))
            (try simp only [Act.put, List.setIfInBounds_toArray, List.set_cons_zero, List.set_cons_succ])
            go_cut [59] (fun v59 wc => ∃ (kq : Nat) (x59_25 : Bool), v59 = .bool x59_25 ∧ Aside0 (spillwaylaw02_FixqNear.j1 kq t130 (wrap64 (a0 * a1_0)) ji25 x59_25 = some r) ∧ Aside0 (kq ≤ kj4) ∧ Aside0 (wc.heap[gb127]? = some (.cells #[.int .i64 a1_0, .int .i64 a1_1] 45 (0, 0))) ∧ Aside0 (Below w.heap.size w wc))
            case first =>
              have H := HC26.out
              clear HC26
              by_cases c30 : t131 = 0
              · rw [if_pos c30] at H
                have c30b0 : (t131 == 0) = true := beq_iff_eq.mpr c30
                have c30b1 : (t131 != 0) = false := bne_eq_false_iff_eq.mpr c30
                clear c30
                (first | rw [c30b0] | (simp only [i64_w, i32_w]; rw [c30b0]) | skip)
                by_cases c31 : (ji25) = 0
                · rw [if_pos c31] at H
                  exact absurd H (by simp)
                · rw [if_neg c31] at H
                  have c31b0 : ((ji25) == 0) = false := beq_eq_false_iff_ne.mpr c31
                  have c31b1 : ((ji25) != 0) = true := bne_iff_ne.mpr c31
                  by_cases c32 : t130 > (wrap64 ((wrap64 (Int.tdiv (wrap64 (a0 * a1_0)) (ji25))) + 1))
                  · rw [if_pos c32] at H
                    have c32b0 : decide ((wrap64 ((wrap64 (Int.tdiv (wrap64 (a0 * a1_0)) (ji25))) + 1)) < t130) = true := decide_eq_true c32
                    clear c32
                    have H' := Aside0.mk H
                    clear H
                    go_wp2
                    go_meet
                    case rel => exact ⟨_, (true), (by first | rfl | (simp; done) | (simp [*]; done)), H', ⟨by have := HJ4.out; first | omega | exact Nat.le_refl _⟩, ⟨by (with_reducible repeat (first | refine blk_drewN ?_ _ | refine blk_drew ?_ | refine blk_alloc ?_ _)); exact BK127.out⟩, ⟨by repeat (first | (with_reducible first | exact HB.out | apply below_alloc | apply pw_below_drewN | apply below_drew1 | refine below_set ?_ GE127.out) | exact HB.out)⟩⟩
                  · rw [if_neg c32] at H
                    have c32b0 : decide ((wrap64 ((wrap64 (Int.tdiv (wrap64 (a0 * a1_0)) (ji25))) + 1)) < t130) = false := decide_eq_false c32
                    clear c32
                    have H' := Aside0.mk H
                    clear H
                    go_wp2
                    go_meet
                    case rel => exact ⟨_, (decide (t130 < (wrap64 ((wrap64 (Int.tdiv (wrap64 (a0 * a1_0)) (ji25))) - 1)))), (by first | rfl | (simp; done) | (simp only [← hji25] <;> (first | rfl | simp)) | (simp [*]; done)), H', ⟨by have := HJ4.out; first | omega | exact Nat.le_refl _⟩, ⟨by (with_reducible repeat (first | refine blk_drewN ?_ _ | refine blk_drew ?_ | refine blk_alloc ?_ _)); exact BK127.out⟩, ⟨by repeat (first | (with_reducible first | exact HB.out | apply below_alloc | apply pw_below_drewN | apply below_drew1 | refine below_set ?_ GE127.out) | exact HB.out)⟩⟩
              · rw [if_neg c30] at H
                have c30b0 : (t131 == 0) = false := beq_eq_false_iff_ne.mpr c30
                have c30b1 : (t131 != 0) = true := bne_iff_ne.mpr c30
                (first | rw [c30b0] | (simp only [i64_w, i32_w]; rw [c30b0]) | skip)
                have H' := Aside0.mk H
                clear H
                go_wp2
                go_meet
                case rel => exact ⟨_, (true), (by first | rfl | (simp; done) | (simp [*]; done)), H', ⟨by have := HJ4.out; first | omega | exact Nat.le_refl _⟩, ⟨by (with_reducible repeat (first | refine blk_drewN ?_ _ | refine blk_drew ?_ | refine blk_alloc ?_ _)); exact BK127.out⟩, ⟨by repeat (first | (with_reducible first | exact HB.out | apply below_alloc | apply pw_below_drewN | apply below_drew1 | refine below_set ?_ GE127.out) | exact HB.out)⟩⟩
            case rest =>
              clear HC26
              try clear c1
              try clear c2
              try clear p2
              try clear c3
              try clear c4
              try clear p6
              try clear c9
              try clear c10
              try clear c10b0
              try clear c13
              try clear c13b0
              try clear c21
              try clear c24
              try clear c24b0
              try clear c24b1
              try clear c30
              try clear c30b0
              try clear c30b1
              try clear c31
              try clear c31b0
              try clear c31b1
              try clear c32
              try clear c32b0
              try clear hcz11_0
              try clear hcz11_1
              try clear hcz14_0
              try clear hcz14_1
              try clear hcz16_0
              try clear hcz16_1
              try clear hcz18_0
              try clear hcz18_1
              try clear hcz19_0
              try clear hcz19_1
              try clear hcz27_0
              try clear hcz27_1
              try clear hcz29_0
              try clear hcz29_1
              try clear hfz11_0
              try clear hfz11_1
              try clear hfz14_0
              try clear hfz14_1
              try clear hfz16_0
              try clear hfz16_1
              try clear hfz18_0
              try clear hfz18_1
              try clear hfz19_0
              try clear hfz19_1
              try clear hfz27_0
              try clear hfz27_1
              try clear hfz29_0
              try clear hfz29_1
              try clear p2
              obtain ⟨kq, x59_25, rfl, HA, HJ25, BK127, HB⟩ := hcut
              cases kq with
              | zero => exact absurd HA.out (by simp [spillwaylaw02_FixqNear.j1])
              | succ kj25 =>
                have H := HA.out
                clear HA
                simp only [spillwaylaw02_FixqNear.j1] at H
                by_cases c33 : x59_25 = true
                · subst c33
                  have H1 : (some false) = some r := by rw [if_pos rfl] at H; exact H
                  clear H
                  have H := H1
                  clear H1
                  exact absurd ((Option.some.inj H).trans HRT.out) Bool.false_ne_true
                · replace c33 := Bool.eq_false_iff.mpr c33
                  subst c33
                  have H1 : (if (wrap64 ((wrap64 (a0 * a1_0)) - (wrap64 (t130 * ji25)))) < 0 then (spillwaylaw02_FixqNear.j2 kj25 t130 (wrap64 (a0 * a1_0)) ji25 (wrap64 (-(wrap64 ((wrap64 (a0 * a1_0)) - (wrap64 (t130 * ji25))))))) else (spillwaylaw02_FixqNear.j2 kj25 t130 (wrap64 (a0 * a1_0)) ji25 (wrap64 ((wrap64 (a0 * a1_0)) - (wrap64 (t130 * ji25)))))) = some r := by rw [if_neg (show ¬ (false = true) by decide)] at H; exact H
                  clear H
                  have H := H1
                  clear H1
                  have HC34 := Aside0.mk H
                  clear H
                  go_upto_if 66 with (fail)
                  go_cut [9] (fun v9 wc => ∃ (kq : Nat) (x9_33 : Int), v9 = .int .i64 x9_33 ∧ Aside0 (spillwaylaw02_FixqNear.j2 kq t130 (wrap64 (a0 * a1_0)) ji25 x9_33 = some r) ∧ Aside0 (kq ≤ kj25) ∧ Aside0 (wc.heap[gb127]? = some (.cells #[.int .i64 a1_0, .int .i64 a1_1] 45 (0, 0))) ∧ Aside0 (Below w.heap.size w wc))
                  case first =>
                    have H := HC34.out
                    clear HC34
                    by_cases c35 : (wrap64 ((wrap64 (a0 * a1_0)) - (wrap64 (t130 * ji25)))) < 0
                    · rw [if_pos c35] at H
                      have c35b0 : decide ((wrap64 ((wrap64 (a0 * a1_0)) - (wrap64 (t130 * ji25)))) < 0) = true := decide_eq_true c35
                      clear c35
                      (first | rw [c35b0] | (simp only [i64_w, i32_w]; rw [c35b0]) | skip)
                      have H' := Aside0.mk H
                      clear H
                      go_wp2
                      go_meet
                      case rel => exact ⟨_, (wrap64 (-(wrap64 ((wrap64 (a0 * a1_0)) - (wrap64 (t130 * ji25)))))), (by first | rfl | (simp; done) | (simp only [← hji25] <;> (first | rfl | simp)) | (simp [*]; done)), H', ⟨by have := HJ4.out; have := HJ25.out; first | omega | exact Nat.le_refl _⟩, ⟨by (with_reducible repeat (first | refine blk_drewN ?_ _ | refine blk_drew ?_ | refine blk_alloc ?_ _)); exact BK127.out⟩, ⟨by repeat (first | (with_reducible first | exact HB.out | apply below_alloc | apply pw_below_drewN | apply below_drew1 | refine below_set ?_ GE127.out) | exact HB.out)⟩⟩
                    · rw [if_neg c35] at H
                      have c35b0 : decide ((wrap64 ((wrap64 (a0 * a1_0)) - (wrap64 (t130 * ji25)))) < 0) = false := decide_eq_false c35
                      clear c35
                      (first | rw [c35b0] | (simp only [i64_w, i32_w]; rw [c35b0]) | skip)
                      have H' := Aside0.mk H
                      clear H
                      go_wp2
                      go_meet
                      case rel => exact ⟨_, (wrap64 ((wrap64 (a0 * a1_0)) - (wrap64 (t130 * ji25)))), (by first | rfl | (simp; done) | (simp only [← hji25] <;> (first | rfl | simp)) | (simp [*]; done)), H', ⟨by have := HJ4.out; have := HJ25.out; first | omega | exact Nat.le_refl _⟩, ⟨by (with_reducible repeat (first | refine blk_drewN ?_ _ | refine blk_drew ?_ | refine blk_alloc ?_ _)); exact BK127.out⟩, ⟨by repeat (first | (with_reducible first | exact HB.out | apply below_alloc | apply pw_below_drewN | apply below_drew1 | refine below_set ?_ GE127.out) | exact HB.out)⟩⟩
                  case rest =>
                    clear HC34
                    try clear c1
                    try clear c2
                    try clear p2
                    try clear c3
                    try clear c4
                    try clear p6
                    try clear c9
                    try clear c10
                    try clear c10b0
                    try clear c13
                    try clear c13b0
                    try clear c21
                    try clear c24
                    try clear c24b0
                    try clear c24b1
                    try clear c30
                    try clear c30b0
                    try clear c30b1
                    try clear c31
                    try clear c31b0
                    try clear c31b1
                    try clear c32
                    try clear c32b0
                    try clear c33
                    try clear c35
                    try clear c35b0
                    try clear hcz11_0
                    try clear hcz11_1
                    try clear hcz14_0
                    try clear hcz14_1
                    try clear hcz16_0
                    try clear hcz16_1
                    try clear hcz18_0
                    try clear hcz18_1
                    try clear hcz19_0
                    try clear hcz19_1
                    try clear hcz27_0
                    try clear hcz27_1
                    try clear hcz29_0
                    try clear hcz29_1
                    try clear hfz11_0
                    try clear hfz11_1
                    try clear hfz14_0
                    try clear hfz14_1
                    try clear hfz16_0
                    try clear hfz16_1
                    try clear hfz18_0
                    try clear hfz18_1
                    try clear hfz19_0
                    try clear hfz19_1
                    try clear hfz27_0
                    try clear hfz27_1
                    try clear hfz29_0
                    try clear hfz29_1
                    try clear p2
                    try clear p6
                    obtain ⟨kq, x9_33, rfl, HA, HJ33, BK127, HB⟩ := hcut
                    cases kq with
                    | zero => exact absurd HA.out (by simp [spillwaylaw02_FixqNear.j2])
                    | succ kj33 =>
                      have H := HA.out
                      clear HA
                      simp only [spillwaylaw02_FixqNear.j2] at H
                      by_cases c36 : ji25 = 1
                      · rw [if_pos c36] at H
                        have c36b0 : (ji25 == 1) = true := beq_iff_eq.mpr c36
                        have c36b1 : (ji25 != 1) = false := bne_eq_false_iff_eq.mpr c36
                        clear c36
                        obtain rfl := Option.some.inj H
                        go_wp2
                        go_ret
                        exact ⟨by first | rfl | (simp [errW_none, errW_some] <;> rfl) | (simp only [← hji23, ← hji25]; first | rfl | (simp [errW_none, errW_some] <;> rfl)) | (simp [*, errW_none, errW_some] <;> rfl), by repeat (first | (with_reducible first | exact HB.out | apply below_alloc | apply pw_below_drewN | apply below_drew1 | refine below_set ?_ GE127.out) | exact HB.out)⟩
                      · rw [if_neg c36] at H
                        have c36b0 : (ji25 == 1) = false := beq_eq_false_iff_ne.mpr c36
                        have c36b1 : (ji25 != 1) = true := bne_iff_ne.mpr c36
                        by_cases c37 : x9_33 = (wrap64 (Int.tdiv ji25 2))
                        · rw [if_pos c37] at H
                          have c37b0 : (x9_33 == (wrap64 (Int.tdiv ji25 2))) = true := beq_iff_eq.mpr c37
                          have c37b1 : (x9_33 != (wrap64 (Int.tdiv ji25 2))) = false := bne_eq_false_iff_eq.mpr c37
                          clear c37
                          by_cases c38 : ((decide ((wrap64 (a0 * a1_0)) < 0)) == (decide ((wrap64 (t130 * ji25)) < (wrap64 (a0 * a1_0))))) = true
                          · rw [if_pos c38] at H
                            have c38b0 : ((decide ((wrap64 (a0 * a1_0)) < 0)) == (decide ((wrap64 (t130 * ji25)) < (wrap64 (a0 * a1_0))))) = true := c38
                            (try (have c38b1 : decide ((decide ((wrap64 (a0 * a1_0)) < 0)) = (decide ((wrap64 (t130 * ji25)) < (wrap64 (a0 * a1_0))))) = true := by simpa using c38))
                            (try (have c38b2 : ((decide ((wrap64 (a0 * a1_0)) < 0)) == (decide ((wrap64 (t130 * ji25)) < (wrap64 (a0 * a1_0))))) = true := by simpa using c38))
                            clear c38
                            obtain rfl := Option.some.inj H
                            go_wp2
                            go_ret
                            exact ⟨by first | rfl | (simp [errW_none, errW_some] <;> rfl) | (simp only [← hji23, ← hji25]; first | rfl | (simp [errW_none, errW_some] <;> rfl)) | (simp [*, errW_none, errW_some] <;> rfl), by repeat (first | (with_reducible first | exact HB.out | apply below_alloc | apply pw_below_drewN | apply below_drew1 | refine below_set ?_ GE127.out) | exact HB.out)⟩
                          · rw [if_neg c38] at H
                            have c38b0 : ((decide ((wrap64 (a0 * a1_0)) < 0)) == (decide ((wrap64 (t130 * ji25)) < (wrap64 (a0 * a1_0))))) = false := by simpa using c38
                            (try (have c38b1 : decide ((decide ((wrap64 (a0 * a1_0)) < 0)) = (decide ((wrap64 (t130 * ji25)) < (wrap64 (a0 * a1_0))))) = false := by simpa using c38))
                            (try (have c38b2 : ((decide ((wrap64 (a0 * a1_0)) < 0)) == (decide ((wrap64 (t130 * ji25)) < (wrap64 (a0 * a1_0))))) = false := by simpa using c38))
                            (try (have c38b3 : ¬ ((decide ((wrap64 (a0 * a1_0)) < 0)) = (decide ((wrap64 (t130 * ji25)) < (wrap64 (a0 * a1_0))))) := by simpa using c38))
                            clear c38
                            exact absurd ((Option.some.inj H).trans HRT.out) Bool.false_ne_true
                        · rw [if_neg c37] at H
                          have c37b0 : (x9_33 == (wrap64 (Int.tdiv ji25 2))) = false := beq_eq_false_iff_ne.mpr c37
                          have c37b1 : (x9_33 != (wrap64 (Int.tdiv ji25 2))) = true := bne_iff_ne.mpr c37
                          obtain rfl := Option.some.inj H
                          go_wp2
                          go_ret
                          exact ⟨by first | rfl | (simp [errW_none, errW_some] <;> rfl) | (simp only [← hji23, ← hji25]; first | rfl | (simp [errW_none, errW_some] <;> rfl)) | (simp [*, errW_none, errW_some] <;> rfl), by repeat (first | (with_reducible first | exact HB.out | apply below_alloc | apply pw_below_drewN | apply below_drew1 | refine below_set ?_ GE127.out) | exact HB.out)⟩
          · rw [if_neg c24] at H
            exact absurd H (by simp)
  · replace c4 := Bool.eq_false_iff.mpr c4
    subst c4
    have H1 : (some false) = some r := by rw [if_neg (show ¬ (false = true) by decide)] at H; exact H
    clear H
    have H := H1
    clear H1
    exact absurd ((Option.some.inj H).trans HRT.out) Bool.false_ne_true

end Go.Proofs.Ythjfmgdldjbkgaa.CFxqNear
