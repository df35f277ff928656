-- PRINTED by print.py (a twelfth state) out of the translation. Not trusted: Lean checks it.
import Derived.Test.YtnbhimgojnclbaaCWowOutsx0
import Derived.Test.YtnbhimgojnclbaaCWowOutsx1
namespace Go.Proofs.Ytnbhimgojnclbaa.CWowOuts
open Go.RowKit Go.Proofs.YtnbhimgojnclbaaW.PrintWords Go.Proofs.YtnbhimgojnclbaaW.PrintLast Go.Proofs.YtnbhimgojnclbaaW.PrintMore
attribute [local go_sem] max2_int min2_int max_two min_two max_three min_three max_four min_four   -- for this text's walks alone
set_option linter.unusedVariables false
set_option linter.unusedSimpArgs false

/-! ### spillwayref06_Out: function 15 -/
def spillwayref06_Out.f (k : Nat) (a0_0 : Int) (a0_1 : Int) (a0_2 : Int) (a1_0 : Int) (a1_1 : Int) (a1_2 : Int) (a1_3 : Int) (a1_4 : Int) (a1_5 : Int) (a1_6 : Int) (a1_7 : Int) : Option (Int × Int × Int) := (spillwayref05_Valid.f a0_0 a0_1 a0_2).bind fun t128 => (if t128 = true then ((spillwayref06_Valid.f a1_0 a1_1 a1_2 a1_3 a1_4 a1_5 a1_6 a1_7).bind fun t129 => (if t129 = true then ((spillwayref06_count.f k (wrap64 ((wrap64 (a0_0 + a1_4)) + a1_6)) a1_0 a1_2).bind fun t130 => ((spillwayref06_count.f k (wrap64 ((wrap64 (a0_1 + a1_5)) + a1_7)) a1_1 a1_3).bind fun t131 => (if t130 = 0 then (some (0, 0, 60)) else (if t131 = 0 then (some (0, 0, 60)) else (some (t130, t131, 0)))))) else (some (0, 0, 60)))) else (some (0, 0, 50)))
theorem spillwayref06_Out.mono : ∀ a0 a1 a2 a3 a4 a5 a6 a7 a8 a9 a10 k, LeO (spillwayref06_Out.f k a0 a1 a2 a3 a4 a5 a6 a7 a8 a9 a10) (spillwayref06_Out.f (k + 1) a0 a1 a2 a3 a4 a5 a6 a7 a8 a9 a10) := by
  intro a0 a1 a2 a3 a4 a5 a6 a7 a8 a9 a10 k
  unfold spillwayref06_Out.f
  repeat' first
      | (with_reducible exact spillwayref06_count.mono _ _ _ _)
      | (with_reducible exact LeO.refl _)
      | (with_reducible exact LeO.none _)
      | (with_reducible refine LeO.ite ?_ ?_)
      | (with_reducible refine LeO.bind ?_ (fun _ => ?_))
      | exact spillwayref06_count.mono _ _ _ _
      | exact LeO.none _
      | refine LeO.ite ?_ ?_
      | refine LeO.bind ?_ (fun _ => ?_)
set_option maxHeartbeats 8000000 in
set_option maxRecDepth 100000 in
theorem spillwayref06_Out.calls (k : Nat) (a0_0 : Int) (a0_1 : Int) (a0_2 : Int) (a1_0 : Int) (a1_1 : Int) (a1_2 : Int) (a1_3 : Int) (a1_4 : Int) (a1_5 : Int) (a1_6 : Int) (a1_7 : Int) (r1 : Int) (r2 : Int) (r3 : Int) (w : World) (h : spillwayref06_Out.f k a0_0 a0_1 a0_2 a1_0 a1_1 a1_2 a1_3 a1_4 a1_5 a1_6 a1_7 = some (r1, r2, r3)) :
    Calls Try.prog 15 #[.agg #[.int .i64 a0_0, .int .i64 a0_1, .int .i64 a0_2], .agg #[.int .i64 a1_0, .int .i64 a1_1, .int .i64 a1_2, .int .i64 a1_3, .int .i64 a1_4, .int .i64 a1_5, .int .i64 a1_6, .int .i64 a1_7]] w fun e w' => e = .returned (.tuple #[.int .i64 r1, .int .i64 r2, .int .i64 r3]) ∧ Below w.heap.size w w' := by
  have hu23 := Try.underlying23
  have hu25 := Try.underlying25
  have HB := Aside0.mk (Below.refl w.heap.size w)
  have H : ((spillwayref05_Valid.f a0_0 a0_1 a0_2).bind fun t128 => (if t128 = true then ((spillwayref06_Valid.f a1_0 a1_1 a1_2 a1_3 a1_4 a1_5 a1_6 a1_7).bind fun t129 => (if t129 = true then ((spillwayref06_count.f k (wrap64 ((wrap64 (a0_0 + a1_4)) + a1_6)) a1_0 a1_2).bind fun t130 => ((spillwayref06_count.f k (wrap64 ((wrap64 (a0_1 + a1_5)) + a1_7)) a1_1 a1_3).bind fun t131 => (if t130 = 0 then (some (0, 0, 60)) else (if t131 = 0 then (some (0, 0, 60)) else (some (t130, t131, 0)))))) else (some (0, 0, 60)))) else (some (0, 0, 50)))) = some (r1, r2, r3) := h
  clear h
  replace H := Option.bind_eq_some_iff.mp H
  obtain ⟨t128, A30, H⟩ := H
  replace H : (if t128 = true then ((spillwayref06_Valid.f a1_0 a1_1 a1_2 a1_3 a1_4 a1_5 a1_6 a1_7).bind fun t129 => (if t129 = true then ((spillwayref06_count.f k (wrap64 ((wrap64 (a0_0 + a1_4)) + a1_6)) a1_0 a1_2).bind fun t130 => ((spillwayref06_count.f k (wrap64 ((wrap64 (a0_1 + a1_5)) + a1_7)) a1_1 a1_3).bind fun t131 => (if t130 = 0 then (some (0, 0, 60)) else (if t131 = 0 then (some (0, 0, 60)) else (some (t130, t131, 0)))))) else (some (0, 0, 60)))) else (some (0, 0, 50))) = some (r1, r2, r3) := H
  have A3 := Aside0.mk A30
  clear A30
  by_cases c4 : t128 = true
  · subst c4
    have H1 : ((spillwayref06_Valid.f a1_0 a1_1 a1_2 a1_3 a1_4 a1_5 a1_6 a1_7).bind fun t129 => (if t129 = true then ((spillwayref06_count.f k (wrap64 ((wrap64 (a0_0 + a1_4)) + a1_6)) a1_0 a1_2).bind fun t130 => ((spillwayref06_count.f k (wrap64 ((wrap64 (a0_1 + a1_5)) + a1_7)) a1_1 a1_3).bind fun t131 => (if t130 = 0 then (some (0, 0, 60)) else (if t131 = 0 then (some (0, 0, 60)) else (some (t130, t131, 0)))))) else (some (0, 0, 60)))) = some (r1, r2, r3) := by rw [if_pos rfl] at H; exact H
    clear H
    have H := H1
    clear H1
    replace H := Option.bind_eq_some_iff.mp H
    obtain ⟨t129, A50, H⟩ := H
    replace H : (if t129 = true then ((spillwayref06_count.f k (wrap64 ((wrap64 (a0_0 + a1_4)) + a1_6)) a1_0 a1_2).bind fun t130 => ((spillwayref06_count.f k (wrap64 ((wrap64 (a0_1 + a1_5)) + a1_7)) a1_1 a1_3).bind fun t131 => (if t130 = 0 then (some (0, 0, 60)) else (if t131 = 0 then (some (0, 0, 60)) else (some (t130, t131, 0)))))) else (some (0, 0, 60))) = some (r1, r2, r3) := H
    have A5 := Aside0.mk A50
    clear A50
    by_cases c6 : t129 = true
    · subst c6
      have H1 : ((spillwayref06_count.f k (wrap64 ((wrap64 (a0_0 + a1_4)) + a1_6)) a1_0 a1_2).bind fun t130 => ((spillwayref06_count.f k (wrap64 ((wrap64 (a0_1 + a1_5)) + a1_7)) a1_1 a1_3).bind fun t131 => (if t130 = 0 then (some (0, 0, 60)) else (if t131 = 0 then (some (0, 0, 60)) else (some (t130, t131, 0)))))) = some (r1, r2, r3) := by rw [if_pos rfl] at H; exact H
      clear H
      have H := H1
      clear H1
      replace H := Option.bind_eq_some_iff.mp H
      obtain ⟨t130, A70, H⟩ := H
      replace H : ((spillwayref06_count.f k (wrap64 ((wrap64 (a0_1 + a1_5)) + a1_7)) a1_1 a1_3).bind fun t131 => (if t130 = 0 then (some (0, 0, 60)) else (if t131 = 0 then (some (0, 0, 60)) else (some (t130, t131, 0))))) = some (r1, r2, r3) := H
      have A7 := Aside0.mk A70
      clear A70
      replace H := Option.bind_eq_some_iff.mp H
      obtain ⟨t131, A80, H⟩ := H
      replace H : (if t130 = 0 then (some (0, 0, 60)) else (if t131 = 0 then (some (0, 0, 60)) else (some (t130, t131, 0)))) = some (r1, r2, r3) := H
      have A8 := Aside0.mk A80
      clear A80
      by_cases c9 : t130 = 0
      · rw [if_pos c9] at H
        have c9b0 : (t130 == 0) = true := beq_iff_eq.mpr c9
        have c9b1 : (t130 != 0) = false := bne_eq_false_iff_eq.mpr c9
        clear c9
        simp only [Option.some.injEq, Prod.mk.injEq] at H
        obtain ⟨rfl, rfl, rfl⟩ := H
        go_enter Try.func15, Try.ntmps15
        go_wp2_with (first | ((with_reducible refine gate_dst (N := 2) rfl ?_); refine box_event ?hg (N := 2) ?hd (cs := #[.int .i64 a0_0, .int .i64 a0_1, .int .i64 a0_2]) (t := 23) ?hr ?_; (case hd => rfl); (case hg => rfl); (case hr => first | (go_simp; done) | (go_simp; rfl)); intro gb126 hg w10 hbox hb; have n0_ := Aside0.mk (below_step (by repeat (first | (with_reducible first | exact HB.out | apply below_alloc | apply pw_below_drewN | apply below_drew1) | exact HB.out)) hb); have n1_ := Aside0.mk (hbox); have n2_ := Aside0.mk ((by rw [hg]; exact (below_size (by repeat (first | (with_reducible first | exact HB.out | apply below_alloc | apply pw_below_drewN | apply below_drew1) | exact HB.out))) : w.heap.size ≤ gb126)); have n3_ := Aside0.mk ((by rw [hg]; exact (below_size (by repeat (first | (with_reducible first | exact HB.out | apply below_alloc | apply pw_below_drewN | apply below_drew1) | exact HB.out))) : w.heap.size ≤ gb126)); clear HB; have HB := n0_; have BK126 := n1_; have GW126 := n2_; have GE126 := n3_; clear n0_ n1_ n2_ n3_; clear hb hbox hg) | ((with_reducible refine gate_dst (N := 3) rfl ?_); refine box_event ?hg (N := 3) ?hd (cs := #[.int .i64 a1_0, .int .i64 a1_1, .int .i64 a1_2, .int .i64 a1_3, .int .i64 a1_4, .int .i64 a1_5, .int .i64 a1_6, .int .i64 a1_7]) (t := 25) ?hr ?_; (case hd => rfl); (case hg => rfl); (case hr => first | (go_simp; done) | (go_simp; rfl)); intro gb127 hg w11 hbox hb; have n0_ := Aside0.mk (blk_below (g := gb126) (o := .cells #[.int .i64 a0_0, .int .i64 a0_1, .int .i64 a0_2] 23 (0, 0)) (by (with_reducible repeat (first | refine blk_drewN ?_ _ | refine blk_drew ?_ | refine blk_alloc ?_ _)); exact BK126.out) hb); have n1_ := Aside0.mk (below_step (by repeat (first | (with_reducible first | exact HB.out | apply below_alloc | apply pw_below_drewN | apply below_drew1 | refine below_set ?_ GE126.out) | exact HB.out)) hb); have n2_ := Aside0.mk (hbox); have n3_ := Aside0.mk ((by rw [hg]; exact (below_size (by repeat (first | (with_reducible first | exact HB.out | apply below_alloc | apply pw_below_drewN | apply below_drew1 | refine below_set ?_ GE126.out) | exact HB.out))) : w.heap.size ≤ gb127)); have n4_ := Aside0.mk ((by rw [hg]; exact (below_size (by repeat (first | (with_reducible first | exact HB.out | apply below_alloc | apply pw_below_drewN | apply below_drew1 | refine below_set ?_ GE126.out) | exact HB.out))) : w.heap.size ≤ gb127)); have n5_ := Aside0.mk ((by rw [hg]; exact Nat.ne_of_lt (blk_lt (g := gb126) (o := .cells #[.int .i64 a0_0, .int .i64 a0_1, .int .i64 a0_2] 23 (0, 0)) (by (with_reducible repeat (first | refine blk_drewN ?_ _ | refine blk_drew ?_ | refine blk_alloc ?_ _)); exact BK126.out)) : gb126 ≠ gb127)); have n6_ := Aside0.mk ((by rw [hg]; exact Nat.ne_of_gt (blk_lt (g := gb126) (o := .cells #[.int .i64 a0_0, .int .i64 a0_1, .int .i64 a0_2] 23 (0, 0)) (by (with_reducible repeat (first | refine blk_drewN ?_ _ | refine blk_drew ?_ | refine blk_alloc ?_ _)); exact BK126.out)) : gb127 ≠ gb126)); clear BK126; clear HB; have BK126 := n0_; have HB := n1_; have BK127 := n2_; have GW127 := n3_; have GE127 := n4_; have NB126_127 := n5_; have NB127_126 := n6_; clear n0_ n1_ n2_ n3_ n4_ n5_ n6_; clear hb hbox hg; have hnb12 := NB126_127.out; have hnc12 := NB127_126.out; have hcz13_0 : w11.cell? ⟨gb126, 0, none⟩ = some (.int .i64 a0_0) := (blk_cell BK126.out 0).trans rfl; have hcz13_1 : w11.cell? ⟨gb126, 1, none⟩ = some (.int .i64 a0_1) := (blk_cell BK126.out 1).trans rfl; have hcz13_2 : w11.cell? ⟨gb126, 2, none⟩ = some (.int .i64 a0_2) := (blk_cell BK126.out 2).trans rfl; have hfz13_0 := blk_frozen BK126.out 0; have hfz13_1 := blk_frozen BK126.out 1; have hfz13_2 := blk_frozen BK126.out 2) | ((with_reducible refine gate_callee (f := 44) rfl ?_); refine goesL_ (some 10) rfl rfl Try.func44 (by kernel_rfl) rfl #[.agg #[.int .i64 a0_0, .int .i64 a0_1, .int .i64 a0_2]] rfl (by (try simp only [List.map_toArray, List.map_cons, List.map_nil]); first | done | rfl | (simp only [List.length_drop, List.length_take]; rfl)) ?_; (with_reducible refine (spillwayref05_Valid.calls a0_0 a0_1 a0_2 true _ A3.out).mono ?_); rintro e w14 ⟨rfl, hb⟩; refine ⟨_, rfl, ?_⟩; have n0_ := Aside0.mk (blk_below (g := gb126) (o := .cells #[.int .i64 a0_0, .int .i64 a0_1, .int .i64 a0_2] 23 (0, 0)) (by (with_reducible repeat (first | refine blk_drewN ?_ _ | refine blk_drew ?_ | refine blk_alloc ?_ _)); exact BK126.out) hb); have n1_ := Aside0.mk (blk_below (g := gb127) (o := .cells #[.int .i64 a1_0, .int .i64 a1_1, .int .i64 a1_2, .int .i64 a1_3, .int .i64 a1_4, .int .i64 a1_5, .int .i64 a1_6, .int .i64 a1_7] 25 (0, 0)) (by (with_reducible repeat (first | refine blk_drewN ?_ _ | refine blk_drew ?_ | refine blk_alloc ?_ _)); exact BK127.out) hb); have n2_ := Aside0.mk (below_step (by repeat (first | (with_reducible first | exact HB.out | apply below_alloc | apply pw_below_drewN | apply below_drew1 | refine below_set ?_ GE126.out | refine below_set ?_ GE127.out) | exact HB.out)) hb); clear BK126; clear BK127; clear HB; have BK126 := n0_; have BK127 := n1_; have HB := n2_; clear n0_ n1_ n2_; (try clear hb); (try clear hb2); (try clear hk); (try clear hi); have hcz15_0 : w14.cell? ⟨gb127, 0, none⟩ = some (.int .i64 a1_0) := (blk_cell BK127.out 0).trans rfl; have hcz15_1 : w14.cell? ⟨gb127, 1, none⟩ = some (.int .i64 a1_1) := (blk_cell BK127.out 1).trans rfl; have hcz15_2 : w14.cell? ⟨gb127, 2, none⟩ = some (.int .i64 a1_2) := (blk_cell BK127.out 2).trans rfl; have hcz15_3 : w14.cell? ⟨gb127, 3, none⟩ = some (.int .i64 a1_3) := (blk_cell BK127.out 3).trans rfl; have hcz15_4 : w14.cell? ⟨gb127, 4, none⟩ = some (.int .i64 a1_4) := (blk_cell BK127.out 4).trans rfl; have hcz15_5 : w14.cell? ⟨gb127, 5, none⟩ = some (.int .i64 a1_5) := (blk_cell BK127.out 5).trans rfl; have hcz15_6 : w14.cell? ⟨gb127, 6, none⟩ = some (.int .i64 a1_6) := (blk_cell BK127.out 6).trans rfl; have hcz15_7 : w14.cell? ⟨gb127, 7, none⟩ = some (.int .i64 a1_7) := (blk_cell BK127.out 7).trans rfl; have hfz15_0 := blk_frozen BK127.out 0; have hfz15_1 := blk_frozen BK127.out 1; have hfz15_2 := blk_frozen BK127.out 2; have hfz15_3 := blk_frozen BK127.out 3; have hfz15_4 := blk_frozen BK127.out 4; have hfz15_5 := blk_frozen BK127.out 5; have hfz15_6 := blk_frozen BK127.out 6; have hfz15_7 := blk_frozen BK127.out 7) | ((with_reducible refine gate_callee (f := 18) rfl ?_); refine goesL_ (some 13) rfl rfl Try.func18 (by kernel_rfl) rfl #[.agg #[.int .i64 a1_0, .int .i64 a1_1, .int .i64 a1_2, .int .i64 a1_3, .int .i64 a1_4, .int .i64 a1_5, .int .i64 a1_6, .int .i64 a1_7]] rfl (by (try simp only [List.map_toArray, List.map_cons, List.map_nil]); first | done | rfl | (simp only [List.length_drop, List.length_take]; rfl)) ?_; (with_reducible refine (spillwayref06_Valid.calls a1_0 a1_1 a1_2 a1_3 a1_4 a1_5 a1_6 a1_7 true _ A5.out).mono ?_); rintro e w16 ⟨rfl, hb⟩; refine ⟨_, rfl, ?_⟩; have n0_ := Aside0.mk (blk_below (g := gb126) (o := .cells #[.int .i64 a0_0, .int .i64 a0_1, .int .i64 a0_2] 23 (0, 0)) (by (with_reducible repeat (first | refine blk_drewN ?_ _ | refine blk_drew ?_ | refine blk_alloc ?_ _)); exact BK126.out) hb); have n1_ := Aside0.mk (blk_below (g := gb127) (o := .cells #[.int .i64 a1_0, .int .i64 a1_1, .int .i64 a1_2, .int .i64 a1_3, .int .i64 a1_4, .int .i64 a1_5, .int .i64 a1_6, .int .i64 a1_7] 25 (0, 0)) (by (with_reducible repeat (first | refine blk_drewN ?_ _ | refine blk_drew ?_ | refine blk_alloc ?_ _)); exact BK127.out) hb); have n2_ := Aside0.mk (below_step (by repeat (first | (with_reducible first | exact HB.out | apply below_alloc | apply pw_below_drewN | apply below_drew1 | refine below_set ?_ GE126.out | refine below_set ?_ GE127.out) | exact HB.out)) hb); clear BK126; clear BK127; clear HB; have BK126 := n0_; have BK127 := n1_; have HB := n2_; clear n0_ n1_ n2_; (try clear hb); (try clear hb2); (try clear hk); (try clear hi); have hcz17_0 : w16.cell? ⟨gb126, 0, none⟩ = some (.int .i64 a0_0) := (blk_cell BK126.out 0).trans rfl; have hcz17_1 : w16.cell? ⟨gb126, 1, none⟩ = some (.int .i64 a0_1) := (blk_cell BK126.out 1).trans rfl; have hcz17_2 : w16.cell? ⟨gb126, 2, none⟩ = some (.int .i64 a0_2) := (blk_cell BK126.out 2).trans rfl; have hfz17_0 := blk_frozen BK126.out 0; have hfz17_1 := blk_frozen BK126.out 1; have hfz17_2 := blk_frozen BK126.out 2; have hcz18_0 : w16.cell? ⟨gb127, 0, none⟩ = some (.int .i64 a1_0) := (blk_cell BK127.out 0).trans rfl; have hcz18_1 : w16.cell? ⟨gb127, 1, none⟩ = some (.int .i64 a1_1) := (blk_cell BK127.out 1).trans rfl; have hcz18_2 : w16.cell? ⟨gb127, 2, none⟩ = some (.int .i64 a1_2) := (blk_cell BK127.out 2).trans rfl; have hcz18_3 : w16.cell? ⟨gb127, 3, none⟩ = some (.int .i64 a1_3) := (blk_cell BK127.out 3).trans rfl; have hcz18_4 : w16.cell? ⟨gb127, 4, none⟩ = some (.int .i64 a1_4) := (blk_cell BK127.out 4).trans rfl; have hcz18_5 : w16.cell? ⟨gb127, 5, none⟩ = some (.int .i64 a1_5) := (blk_cell BK127.out 5).trans rfl; have hcz18_6 : w16.cell? ⟨gb127, 6, none⟩ = some (.int .i64 a1_6) := (blk_cell BK127.out 6).trans rfl; have hcz18_7 : w16.cell? ⟨gb127, 7, none⟩ = some (.int .i64 a1_7) := (blk_cell BK127.out 7).trans rfl; have hfz18_0 := blk_frozen BK127.out 0; have hfz18_1 := blk_frozen BK127.out 1; have hfz18_2 := blk_frozen BK127.out 2; have hfz18_3 := blk_frozen BK127.out 3; have hfz18_4 := blk_frozen BK127.out 4; have hfz18_5 := blk_frozen BK127.out 5; have hfz18_6 := blk_frozen BK127.out 6; have hfz18_7 := blk_frozen BK127.out 7) | ((with_reducible refine gate_callee (f := 45) rfl ?_); refine goesL_ (some 27) rfl rfl Try.func45 (by kernel_rfl) rfl #[.int .i64 (wrap64 ((wrap64 (a0_0 + a1_4)) + a1_6)), .int .i64 a1_0, .int .i64 a1_2] rfl (by (try simp only [List.map_toArray, List.map_cons, List.map_nil]); first | done | rfl | (simp only [List.length_drop, List.length_take]; rfl)) ?_; (with_reducible refine (spillwayref06_count.calls k (wrap64 ((wrap64 (a0_0 + a1_4)) + a1_6)) a1_0 a1_2 t130 _ A7.out).mono ?_); rintro e w' ⟨rfl, ⟨nd, rfl⟩⟩; refine ⟨_, rfl, ?_⟩) | ((with_reducible refine gate_callee (f := 45) rfl ?_); refine goesL_ (some 40) rfl rfl Try.func45 (by kernel_rfl) rfl #[.int .i64 (wrap64 ((wrap64 (a0_1 + a1_5)) + a1_7)), .int .i64 a1_1, .int .i64 a1_3] rfl (by (try simp only [List.map_toArray, List.map_cons, List.map_nil]); first | done | rfl | (simp only [List.length_drop, List.length_take]; rfl)) ?_; (with_reducible refine (spillwayref06_count.calls k (wrap64 ((wrap64 (a0_1 + a1_5)) + a1_7)) a1_1 a1_3 t131 _ A8.out).mono ?_); rintro e w' ⟨rfl, ⟨nd, rfl⟩⟩; refine ⟨_, rfl, ?_⟩))
        go_ret3
        exact ⟨by first | rfl | (simp [errW_none, errW_some] <;> rfl) | (simp [*, errW_none, errW_some] <;> rfl), by repeat (first | (with_reducible first | exact HB.out | apply below_alloc | apply pw_below_drewN | apply below_drew1 | refine below_set ?_ GE126.out | refine below_set ?_ GE127.out) | exact HB.out)⟩
      · rw [if_neg c9] at H
        have c9b0 : (t130 == 0) = false := beq_eq_false_iff_ne.mpr c9
        have c9b1 : (t130 != 0) = true := bne_iff_ne.mpr c9
        by_cases c19 : t131 = 0
        · rw [if_pos c19] at H
          have c19b0 : (t131 == 0) = true := beq_iff_eq.mpr c19
          have c19b1 : (t131 != 0) = false := bne_eq_false_iff_eq.mpr c19
          clear c19
          simp only [Option.some.injEq, Prod.mk.injEq] at H
          obtain ⟨rfl, rfl, rfl⟩ := H
          go_enter Try.func15, Try.ntmps15
          go_wp2_with (first | ((with_reducible refine gate_dst (N := 2) rfl ?_); refine box_event ?hg (N := 2) ?hd (cs := #[.int .i64 a0_0, .int .i64 a0_1, .int .i64 a0_2]) (t := 23) ?hr ?_; (case hd => rfl); (case hg => rfl); (case hr => first | (go_simp; done) | (go_simp; rfl)); intro gb126 hg w20 hbox hb; have n0_ := Aside0.mk (below_step (by repeat (first | (with_reducible first | exact HB.out | apply below_alloc | apply pw_below_drewN | apply below_drew1) | exact HB.out)) hb); have n1_ := Aside0.mk (hbox); have n2_ := Aside0.mk ((by rw [hg]; exact (below_size (by repeat (first | (with_reducible first | exact HB.out | apply below_alloc | apply pw_below_drewN | apply below_drew1) | exact HB.out))) : w.heap.size ≤ gb126)); have n3_ := Aside0.mk ((by rw [hg]; exact (below_size (by repeat (first | (with_reducible first | exact HB.out | apply below_alloc | apply pw_below_drewN | apply below_drew1) | exact HB.out))) : w.heap.size ≤ gb126)); clear HB; have HB := n0_; have BK126 := n1_; have GW126 := n2_; have GE126 := n3_; clear n0_ n1_ n2_ n3_; clear hb hbox hg) | ((with_reducible refine gate_dst (N := 3) rfl ?_); refine box_event ?hg (N := 3) ?hd (cs := #[.int .i64 a1_0, .int .i64 a1_1, .int .i64 a1_2, .int .i64 a1_3, .int .i64 a1_4, .int .i64 a1_5, .int .i64 a1_6, .int .i64 a1_7]) (t := 25) ?hr ?_; (case hd => rfl); (case hg => rfl); (case hr => first | (go_simp; done) | (go_simp; rfl)); intro gb127 hg w21 hbox hb; have n0_ := Aside0.mk (blk_below (g := gb126) (o := .cells #[.int .i64 a0_0, .int .i64 a0_1, .int .i64 a0_2] 23 (0, 0)) (by (with_reducible repeat (first | refine blk_drewN ?_ _ | refine blk_drew ?_ | refine blk_alloc ?_ _)); exact BK126.out) hb); have n1_ := Aside0.mk (below_step (by repeat (first | (with_reducible first | exact HB.out | apply below_alloc | apply pw_below_drewN | apply below_drew1 | refine below_set ?_ GE126.out) | exact HB.out)) hb); have n2_ := Aside0.mk (hbox); have n3_ := Aside0.mk ((by rw [hg]; exact (below_size (by repeat (first | (with_reducible first | exact HB.out | apply below_alloc | apply pw_below_drewN | apply below_drew1 | refine below_set ?_ GE126.out) | exact HB.out))) : w.heap.size ≤ gb127)); have n4_ := Aside0.mk ((by rw [hg]; exact (below_size (by repeat (first | (with_reducible first | exact HB.out | apply below_alloc | apply pw_below_drewN | apply below_drew1 | refine below_set ?_ GE126.out) | exact HB.out))) : w.heap.size ≤ gb127)); have n5_ := Aside0.mk ((by rw [hg]; exact Nat.ne_of_lt (blk_lt (g := gb126) (o := .cells #[.int .i64 a0_0, .int .i64 a0_1, .int .i64 a0_2] 23 (0, 0)) (by (with_reducible repeat (first | refine blk_drewN ?_ _ | refine blk_drew ?_ | refine blk_alloc ?_ _)); exact BK126.out)) : gb126 ≠ gb127)); have n6_ := Aside0.mk ((by rw [hg]; exact Nat.ne_of_gt (blk_lt (g := gb126) (o := .cells #[.int .i64 a0_0, .int .i64 a0_1, .int .i64 a0_2] 23 (0, 0)) (by (with_reducible repeat (first | refine blk_drewN ?_ _ | refine blk_drew ?_ | refine blk_alloc ?_ _)); exact BK126.out)) : gb127 ≠ gb126)); clear BK126; clear HB; have BK126 := n0_; have HB := n1_; have BK127 := n2_; have GW127 := n3_; have GE127 := n4_; have NB126_127 := n5_; have NB127_126 := n6_; clear n0_ n1_ n2_ n3_ n4_ n5_ n6_; clear hb hbox hg; have hnb22 := NB126_127.out; have hnc22 := NB127_126.out; have hcz23_0 : w21.cell? ⟨gb126, 0, none⟩ = some (.int .i64 a0_0) := (blk_cell BK126.out 0).trans rfl; have hcz23_1 : w21.cell? ⟨gb126, 1, none⟩ = some (.int .i64 a0_1) := (blk_cell BK126.out 1).trans rfl; have hcz23_2 : w21.cell? ⟨gb126, 2, none⟩ = some (.int .i64 a0_2) := (blk_cell BK126.out 2).trans rfl; have hfz23_0 := blk_frozen BK126.out 0; have hfz23_1 := blk_frozen BK126.out 1; have hfz23_2 := blk_frozen BK126.out 2) | ((with_reducible refine gate_callee (f := 44) rfl ?_); refine goesL_ (some 10) rfl rfl Try.func44 (by kernel_rfl) rfl #[.agg #[.int .i64 a0_0, .int .i64 a0_1, .int .i64 a0_2]] rfl (by (try simp only [List.map_toArray, List.map_cons, List.map_nil]); first | done | rfl | (simp only [List.length_drop, List.length_take]; rfl)) ?_; (with_reducible refine (spillwayref05_Valid.calls a0_0 a0_1 a0_2 true _ A3.out).mono ?_); rintro e w24 ⟨rfl, hb⟩; refine ⟨_, rfl, ?_⟩; have n0_ := Aside0.mk (blk_below (g := gb126) (o := .cells #[.int .i64 a0_0, .int .i64 a0_1, .int .i64 a0_2] 23 (0, 0)) (by (with_reducible repeat (first | refine blk_drewN ?_ _ | refine blk_drew ?_ | refine blk_alloc ?_ _)); exact BK126.out) hb); have n1_ := Aside0.mk (blk_below (g := gb127) (o := .cells #[.int .i64 a1_0, .int .i64 a1_1, .int .i64 a1_2, .int .i64 a1_3, .int .i64 a1_4, .int .i64 a1_5, .int .i64 a1_6, .int .i64 a1_7] 25 (0, 0)) (by (with_reducible repeat (first | refine blk_drewN ?_ _ | refine blk_drew ?_ | refine blk_alloc ?_ _)); exact BK127.out) hb); have n2_ := Aside0.mk (below_step (by repeat (first | (with_reducible first | exact HB.out | apply below_alloc | apply pw_below_drewN | apply below_drew1 | refine below_set ?_ GE126.out | refine below_set ?_ GE127.out) | exact HB.out)) hb); clear BK126; clear BK127; clear HB; have BK126 := n0_; have BK127 := n1_; have HB := n2_; clear n0_ n1_ n2_; (try clear hb); (try clear hb2); (try clear hk); (try clear hi); have hcz25_0 : w24.cell? ⟨gb127, 0, none⟩ = some (.int .i64 a1_0) := (blk_cell BK127.out 0).trans rfl; have hcz25_1 : w24.cell? ⟨gb127, 1, none⟩ = some (.int .i64 a1_1) := (blk_cell BK127.out 1).trans rfl; have hcz25_2 : w24.cell? ⟨gb127, 2, none⟩ = some (.int .i64 a1_2) := (blk_cell BK127.out 2).trans rfl; have hcz25_3 : w24.cell? ⟨gb127, 3, none⟩ = some (.int .i64 a1_3) := (blk_cell BK127.out 3).trans rfl; have hcz25_4 : w24.cell? ⟨gb127, 4, none⟩ = some (.int .i64 a1_4) := (blk_cell BK127.out 4).trans rfl; have hcz25_5 : w24.cell? ⟨gb127, 5, none⟩ = some (.int .i64 a1_5) := (blk_cell BK127.out 5).trans rfl; have hcz25_6 : w24.cell? ⟨gb127, 6, none⟩ = some (.int .i64 a1_6) := (blk_cell BK127.out 6).trans rfl; have hcz25_7 : w24.cell? ⟨gb127, 7, none⟩ = some (.int .i64 a1_7) := (blk_cell BK127.out 7).trans rfl; have hfz25_0 := blk_frozen BK127.out 0; have hfz25_1 := blk_frozen BK127.out 1; have hfz25_2 := blk_frozen BK127.out 2; have hfz25_3 := blk_frozen BK127.out 3; have hfz25_4 := blk_frozen BK127.out 4; have hfz25_5 := blk_frozen BK127.out 5; have hfz25_6 := blk_frozen BK127.out 6; have hfz25_7 := blk_frozen BK127.out 7) | ((with_reducible refine gate_callee (f := 18) rfl ?_); refine goesL_ (some 13) rfl rfl Try.func18 (by kernel_rfl) rfl #[.agg #[.int .i64 a1_0, .int .i64 a1_1, .int .i64 a1_2, .int .i64 a1_3, .int .i64 a1_4, .int .i64 a1_5, .int .i64 a1_6, .int .i64 a1_7]] rfl (by (try simp only [List.map_toArray, List.map_cons, List.map_nil]); first | done | rfl | (simp only [List.length_drop, List.length_take]; rfl)) ?_; (with_reducible refine (spillwayref06_Valid.calls a1_0 a1_1 a1_2 a1_3 a1_4 a1_5 a1_6 a1_7 true _ A5.out).mono ?_); rintro e w26 ⟨rfl, hb⟩; refine ⟨_, rfl, ?_⟩; have n0_ := Aside0.mk (blk_below (g := gb126) (o := .cells #[.int .i64 a0_0, .int .i64 a0_1, .int .i64 a0_2] 23 (0, 0)) (by (with_reducible repeat (first | refine blk_drewN ?_ _ | refine blk_drew ?_ | refine blk_alloc ?_ _)); exact BK126.out) hb); have n1_ := Aside0.mk (blk_below (g := gb127) (o := .cells #[.int .i64 a1_0, .int .i64 a1_1, .int .i64 a1_2, .int .i64 a1_3, .int .i64 a1_4, .int .i64 a1_5, .int .i64 a1_6, .int .i64 a1_7] 25 (0, 0)) (by (with_reducible repeat (first | refine blk_drewN ?_ _ | refine blk_drew ?_ | refine blk_alloc ?_ _)); exact BK127.out) hb); have n2_ := Aside0.mk (below_step (by repeat (first | (with_reducible first | exact HB.out | apply below_alloc | apply pw_below_drewN | apply below_drew1 | refine below_set ?_ GE126.out | refine below_set ?_ GE127.out) | exact HB.out)) hb); clear BK126; clear BK127; clear HB; have BK126 := n0_; have BK127 := n1_; have HB := n2_; clear n0_ n1_ n2_; (try clear hb); (try clear hb2); (try clear hk); (try clear hi); have hcz27_0 : w26.cell? ⟨gb126, 0, none⟩ = some (.int .i64 a0_0) := (blk_cell BK126.out 0).trans rfl; have hcz27_1 : w26.cell? ⟨gb126, 1, none⟩ = some (.int .i64 a0_1) := (blk_cell BK126.out 1).trans rfl; have hcz27_2 : w26.cell? ⟨gb126, 2, none⟩ = some (.int .i64 a0_2) := (blk_cell BK126.out 2).trans rfl; have hfz27_0 := blk_frozen BK126.out 0; have hfz27_1 := blk_frozen BK126.out 1; have hfz27_2 := blk_frozen BK126.out 2; have hcz28_0 : w26.cell? ⟨gb127, 0, none⟩ = some (.int .i64 a1_0) := (blk_cell BK127.out 0).trans rfl; have hcz28_1 : w26.cell? ⟨gb127, 1, none⟩ = some (.int .i64 a1_1) := (blk_cell BK127.out 1).trans rfl; have hcz28_2 : w26.cell? ⟨gb127, 2, none⟩ = some (.int .i64 a1_2) := (blk_cell BK127.out 2).trans rfl; have hcz28_3 : w26.cell? ⟨gb127, 3, none⟩ = some (.int .i64 a1_3) := (blk_cell BK127.out 3).trans rfl; have hcz28_4 : w26.cell? ⟨gb127, 4, none⟩ = some (.int .i64 a1_4) := (blk_cell BK127.out 4).trans rfl; have hcz28_5 : w26.cell? ⟨gb127, 5, none⟩ = some (.int .i64 a1_5) := (blk_cell BK127.out 5).trans rfl; have hcz28_6 : w26.cell? ⟨gb127, 6, none⟩ = some (.int .i64 a1_6) := (blk_cell BK127.out 6).trans rfl; have hcz28_7 : w26.cell? ⟨gb127, 7, none⟩ = some (.int .i64 a1_7) := (blk_cell BK127.out 7).trans rfl; have hfz28_0 := blk_frozen BK127.out 0; have hfz28_1 := blk_frozen BK127.out 1; have hfz28_2 := blk_frozen BK127.out 2; have hfz28_3 := blk_frozen BK127.out 3; have hfz28_4 := blk_frozen BK127.out 4; have hfz28_5 := blk_frozen BK127.out 5; have hfz28_6 := blk_frozen BK127.out 6; have hfz28_7 := blk_frozen BK127.out 7) | ((with_reducible refine gate_callee (f := 45) rfl ?_); refine goesL_ (some 27) rfl rfl Try.func45 (by kernel_rfl) rfl #[.int .i64 (wrap64 ((wrap64 (a0_0 + a1_4)) + a1_6)), .int .i64 a1_0, .int .i64 a1_2] rfl (by (try simp only [List.map_toArray, List.map_cons, List.map_nil]); first | done | rfl | (simp only [List.length_drop, List.length_take]; rfl)) ?_; (with_reducible refine (spillwayref06_count.calls k (wrap64 ((wrap64 (a0_0 + a1_4)) + a1_6)) a1_0 a1_2 t130 _ A7.out).mono ?_); rintro e w' ⟨rfl, ⟨nd, rfl⟩⟩; refine ⟨_, rfl, ?_⟩) | ((with_reducible refine gate_callee (f := 45) rfl ?_); refine goesL_ (some 40) rfl rfl Try.func45 (by kernel_rfl) rfl #[.int .i64 (wrap64 ((wrap64 (a0_1 + a1_5)) + a1_7)), .int .i64 a1_1, .int .i64 a1_3] rfl (by (try simp only [List.map_toArray, List.map_cons, List.map_nil]); first | done | rfl | (simp only [List.length_drop, List.length_take]; rfl)) ?_; (with_reducible refine (spillwayref06_count.calls k (wrap64 ((wrap64 (a0_1 + a1_5)) + a1_7)) a1_1 a1_3 t131 _ A8.out).mono ?_); rintro e w' ⟨rfl, ⟨nd, rfl⟩⟩; refine ⟨_, rfl, ?_⟩))
          go_ret3
          exact ⟨by first | rfl | (simp [errW_none, errW_some] <;> rfl) | (simp [*, errW_none, errW_some] <;> rfl), by repeat (first | (with_reducible first | exact HB.out | apply below_alloc | apply pw_below_drewN | apply below_drew1 | refine below_set ?_ GE126.out | refine below_set ?_ GE127.out) | exact HB.out)⟩
        · rw [if_neg c19] at H
          have c19b0 : (t131 == 0) = false := beq_eq_false_iff_ne.mpr c19
          have c19b1 : (t131 != 0) = true := bne_iff_ne.mpr c19
          simp only [Option.some.injEq, Prod.mk.injEq] at H
          obtain ⟨rfl, rfl, rfl⟩ := H
          go_enter Try.func15, Try.ntmps15
          go_wp2_with (first | ((with_reducible refine gate_dst (N := 2) rfl ?_); refine box_event ?hg (N := 2) ?hd (cs := #[.int .i64 a0_0, .int .i64 a0_1, .int .i64 a0_2]) (t := 23) ?hr ?_; (case hd => rfl); (case hg => rfl); (case hr => first | (go_simp; done) | (go_simp; rfl)); intro gb126 hg w29 hbox hb; have n0_ := Aside0.mk (below_step (by repeat (first | (with_reducible first | exact HB.out | apply below_alloc | apply pw_below_drewN | apply below_drew1) | exact HB.out)) hb); have n1_ := Aside0.mk (hbox); have n2_ := Aside0.mk ((by rw [hg]; exact (below_size (by repeat (first | (with_reducible first | exact HB.out | apply below_alloc | apply pw_below_drewN | apply below_drew1) | exact HB.out))) : w.heap.size ≤ gb126)); have n3_ := Aside0.mk ((by rw [hg]; exact (below_size (by repeat (first | (with_reducible first | exact HB.out | apply below_alloc | apply pw_below_drewN | apply below_drew1) | exact HB.out))) : w.heap.size ≤ gb126)); clear HB; have HB := n0_; have BK126 := n1_; have GW126 := n2_; have GE126 := n3_; clear n0_ n1_ n2_ n3_; clear hb hbox hg) | ((with_reducible refine gate_dst (N := 3) rfl ?_); refine box_event ?hg (N := 3) ?hd (cs := #[.int .i64 a1_0, .int .i64 a1_1, .int .i64 a1_2, .int .i64 a1_3, .int .i64 a1_4, .int .i64 a1_5, .int .i64 a1_6, .int .i64 a1_7]) (t := 25) ?hr ?_; (case hd => rfl); (case hg => rfl); (case hr => first | (go_simp; done) | (go_simp; rfl)); intro gb127 hg w30 hbox hb; have n0_ := Aside0.mk (blk_below (g := gb126) (o := .cells #[.int .i64 a0_0, .int .i64 a0_1, .int .i64 a0_2] 23 (0, 0)) (by (with_reducible repeat (first | refine blk_drewN ?_ _ | refine blk_drew ?_ | refine blk_alloc ?_ _)); exact BK126.out) hb); have n1_ := Aside0.mk (below_step (by repeat (first | (with_reducible first | exact HB.out | apply below_alloc | apply pw_below_drewN | apply below_drew1 | refine below_set ?_ GE126.out) | exact HB.out)) hb); have n2_ := Aside0.mk (hbox); have n3_ := Aside0.mk ((by rw [hg]; exact (below_size (by repeat (first | (with_reducible first | exact HB.out | apply below_alloc | apply pw_below_drewN | apply below_drew1 | refine below_set ?_ GE126.out) | exact HB.out))) : w.heap.size ≤ gb127)); have n4_ := Aside0.mk ((by rw [hg]; exact (below_size (by repeat (first | (with_reducible first | exact HB.out | apply below_alloc | apply pw_below_drewN | apply below_drew1 | refine below_set ?_ GE126.out) | exact HB.out))) : w.heap.size ≤ gb127)); have n5_ := Aside0.mk ((by rw [hg]; exact Nat.ne_of_lt (blk_lt (g := gb126) (o := .cells #[.int .i64 a0_0, .int .i64 a0_1, .int .i64 a0_2] 23 (0, 0)) (by (with_reducible repeat (first | refine blk_drewN ?_ _ | refine blk_drew ?_ | refine blk_alloc ?_ _)); exact BK126.out)) : gb126 ≠ gb127)); have n6_ := Aside0.mk ((by rw [hg]; exact Nat.ne_of_gt (blk_lt (g := gb126) (o := .cells #[.int .i64 a0_0, .int .i64 a0_1, .int .i64 a0_2] 23 (0, 0)) (by (with_reducible repeat (first | refine blk_drewN ?_ _ | refine blk_drew ?_ | refine blk_alloc ?_ _)); exact BK126.out)) : gb127 ≠ gb126)); clear BK126; clear HB; have BK126 := n0_; have HB := n1_; have BK127 := n2_; have GW127 := n3_; have GE127 := n4_; have NB126_127 := n5_; have NB127_126 := n6_; clear n0_ n1_ n2_ n3_ n4_ n5_ n6_; clear hb hbox hg; have hnb31 := NB126_127.out; have hnc31 := NB127_126.out; have hcz32_0 : w30.cell? ⟨gb126, 0, none⟩ = some (.int .i64 a0_0) := (blk_cell BK126.out 0).trans rfl; have hcz32_1 : w30.cell? ⟨gb126, 1, none⟩ = some (.int .i64 a0_1) := (blk_cell BK126.out 1).trans rfl; have hcz32_2 : w30.cell? ⟨gb126, 2, none⟩ = some (.int .i64 a0_2) := (blk_cell BK126.out 2).trans rfl; have hfz32_0 := blk_frozen BK126.out 0; have hfz32_1 := blk_frozen BK126.out 1; have hfz32_2 := blk_frozen BK126.out 2) | ((with_reducible refine gate_callee (f := 44) rfl ?_); refine goesL_ (some 10) rfl rfl Try.func44 (by kernel_rfl) rfl #[.agg #[.int .i64 a0_0, .int .i64 a0_1, .int .i64 a0_2]] rfl (by (try simp only [List.map_toArray, List.map_cons, List.map_nil]); first | done | rfl | (simp only [List.length_drop, List.length_take]; rfl)) ?_; (with_reducible refine (spillwayref05_Valid.calls a0_0 a0_1 a0_2 true _ A3.out).mono ?_); rintro e w33 ⟨rfl, hb⟩; refine ⟨_, rfl, ?_⟩; have n0_ := Aside0.mk (blk_below (g := gb126) (o := .cells #[.int .i64 a0_0, .int .i64 a0_1, .int .i64 a0_2] 23 (0, 0)) (by (with_reducible repeat (first | refine blk_drewN ?_ _ | refine blk_drew ?_ | refine blk_alloc ?_ _)); exact BK126.out) hb); have n1_ := Aside0.mk (blk_below (g := gb127) (o := .cells #[.int .i64 a1_0, .int .i64 a1_1, .int .i64 a1_2, .int .i64 a1_3, .int .i64 a1_4, .int .i64 a1_5, .int .i64 a1_6, .int .i64 a1_7] 25 (0, 0)) (by (with_reducible repeat (first | refine blk_drewN ?_ _ | refine blk_drew ?_ | refine blk_alloc ?_ _)); exact BK127.out) hb); have n2_ := Aside0.mk (below_step (by repeat (first | (with_reducible first | exact HB.out | apply below_alloc | apply pw_below_drewN | apply below_drew1 | refine below_set ?_ GE126.out | refine below_set ?_ GE127.out) | exact HB.out)) hb); clear BK126; clear BK127; clear HB; have BK126 := n0_; have BK127 := n1_; have HB := n2_; clear n0_ n1_ n2_; (try clear hb); (try clear hb2); (try clear hk); (try clear hi); have hcz34_0 : w33.cell? ⟨gb127, 0, none⟩ = some (.int .i64 a1_0) := (blk_cell BK127.out 0).trans rfl; have hcz34_1 : w33.cell? ⟨gb127, 1, none⟩ = some (.int .i64 a1_1) := (blk_cell BK127.out 1).trans rfl; have hcz34_2 : w33.cell? ⟨gb127, 2, none⟩ = some (.int .i64 a1_2) := (blk_cell BK127.out 2).trans rfl; have hcz34_3 : w33.cell? ⟨gb127, 3, none⟩ = some (.int .i64 a1_3) := (blk_cell BK127.out 3).trans rfl; have hcz34_4 : w33.cell? ⟨gb127, 4, none⟩ = some (.int .i64 a1_4) := (blk_cell BK127.out 4).trans rfl; have hcz34_5 : w33.cell? ⟨gb127, 5, none⟩ = some (.int .i64 a1_5) := (blk_cell BK127.out 5).trans rfl; have hcz34_6 : w33.cell? ⟨gb127, 6, none⟩ = some (.int .i64 a1_6) := (blk_cell BK127.out 6).trans rfl; have hcz34_7 : w33.cell? ⟨gb127, 7, none⟩ = some (.int .i64 a1_7) := (blk_cell BK127.out 7).trans rfl; have hfz34_0 := blk_frozen BK127.out 0; have hfz34_1 := blk_frozen BK127.out 1; have hfz34_2 := blk_frozen BK127.out 2; have hfz34_3 := blk_frozen BK127.out 3; have hfz34_4 := blk_frozen BK127.out 4; have hfz34_5 := blk_frozen BK127.out 5; have hfz34_6 := blk_frozen BK127.out 6; have hfz34_7 := blk_frozen BK127.out 7) | ((with_reducible refine gate_callee (f := 18) rfl ?_); refine goesL_ (some 13) rfl rfl Try.func18 (by kernel_rfl) rfl #[.agg #[.int .i64 a1_0, .int .i64 a1_1, .int .i64 a1_2, .int .i64 a1_3, .int .i64 a1_4, .int .i64 a1_5, .int .i64 a1_6, .int .i64 a1_7]] rfl (by (try simp only [List.map_toArray, List.map_cons, List.map_nil]); first | done | rfl | (simp only [List.length_drop, List.length_take]; rfl)) ?_; (with_reducible refine (spillwayref06_Valid.calls a1_0 a1_1 a1_2 a1_3 a1_4 a1_5 a1_6 a1_7 true _ A5.out).mono ?_); rintro e w35 ⟨rfl, hb⟩; refine ⟨_, rfl, ?_⟩; have n0_ := Aside0.mk (blk_below (g := gb126) (o := .cells #[.int .i64 a0_0, .int .i64 a0_1, .int .i64 a0_2] 23 (0, 0)) (by (with_reducible repeat (first | refine blk_drewN ?_ _ | refine blk_drew ?_ | refine blk_alloc ?_ _)); exact BK126.out) hb); have n1_ := Aside0.mk (blk_below (g := gb127) (o := .cells #[.int .i64 a1_0, .int .i64 a1_1, .int .i64 a1_2, .int .i64 a1_3, .int .i64 a1_4, .int .i64 a1_5, .int .i64 a1_6, .int .i64 a1_7] 25 (0, 0)) (by (with_reducible repeat (first | refine blk_drewN ?_ _ | refine blk_drew ?_ | refine blk_alloc ?_ _)); exact BK127.out) hb); have n2_ := Aside0.mk (below_step (by repeat (first | (with_reducible first | exact HB.out | apply below_alloc | apply pw_below_drewN | apply below_drew1 | refine below_set ?_ GE126.out | refine below_set ?_ GE127.out) | exact HB.out)) hb); clear BK126; clear BK127; clear HB; have BK126 := n0_; have BK127 := n1_; have HB := n2_; clear n0_ n1_ n2_; (try clear hb); (try clear hb2); (try clear hk); (try clear hi); have hcz36_0 : w35.cell? ⟨gb126, 0, none⟩ = some (.int .i64 a0_0) := (blk_cell BK126.out 0).trans rfl; have hcz36_1 : w35.cell? ⟨gb126, 1, none⟩ = some (.int .i64 a0_1) := (blk_cell BK126.out 1).trans rfl; have hcz36_2 : w35.cell? ⟨gb126, 2, none⟩ = some (.int .i64 a0_2) := (blk_cell BK126.out 2).trans rfl; have hfz36_0 := blk_frozen BK126.out 0; have hfz36_1 := blk_frozen BK126.out 1; have hfz36_2 := blk_frozen BK126.out 2; have hcz37_0 : w35.cell? ⟨gb127, 0, none⟩ = some (.int .i64 a1_0) := (blk_cell BK127.out 0).trans rfl; have hcz37_1 : w35.cell? ⟨gb127, 1, none⟩ = some (.int .i64 a1_1) := (blk_cell BK127.out 1).trans rfl; have hcz37_2 : w35.cell? ⟨gb127, 2, none⟩ = some (.int .i64 a1_2) := (blk_cell BK127.out 2).trans rfl; have hcz37_3 : w35.cell? ⟨gb127, 3, none⟩ = some (.int .i64 a1_3) := (blk_cell BK127.out 3).trans rfl; have hcz37_4 : w35.cell? ⟨gb127, 4, none⟩ = some (.int .i64 a1_4) := (blk_cell BK127.out 4).trans rfl; have hcz37_5 : w35.cell? ⟨gb127, 5, none⟩ = some (.int .i64 a1_5) := (blk_cell BK127.out 5).trans rfl; have hcz37_6 : w35.cell? ⟨gb127, 6, none⟩ = some (.int .i64 a1_6) := (blk_cell BK127.out 6).trans rfl; have hcz37_7 : w35.cell? ⟨gb127, 7, none⟩ = some (.int .i64 a1_7) := (blk_cell BK127.out 7).trans rfl; have hfz37_0 := blk_frozen BK127.out 0; have hfz37_1 := blk_frozen BK127.out 1; have hfz37_2 := blk_frozen BK127.out 2; have hfz37_3 := blk_frozen BK127.out 3; have hfz37_4 := blk_frozen BK127.out 4; have hfz37_5 := blk_frozen BK127.out 5; have hfz37_6 := blk_frozen BK127.out 6; have hfz37_7 := blk_frozen BK127.out 7) | ((with_reducible refine gate_callee (f := 45) rfl ?_); refine goesL_ (some 27) rfl rfl Try.func45 (by kernel_rfl) rfl #[.int .i64 (wrap64 ((wrap64 (a0_0 + a1_4)) + a1_6)), .int .i64 a1_0, .int .i64 a1_2] rfl (by (try simp only [List.map_toArray, List.map_cons, List.map_nil]); first | done | rfl | (simp only [List.length_drop, List.length_take]; rfl)) ?_; (with_reducible refine (spillwayref06_count.calls k (wrap64 ((wrap64 (a0_0 + a1_4)) + a1_6)) a1_0 a1_2 t130 _ A7.out).mono ?_); rintro e w' ⟨rfl, ⟨nd, rfl⟩⟩; refine ⟨_, rfl, ?_⟩) | ((with_reducible refine gate_callee (f := 45) rfl ?_); refine goesL_ (some 40) rfl rfl Try.func45 (by kernel_rfl) rfl #[.int .i64 (wrap64 ((wrap64 (a0_1 + a1_5)) + a1_7)), .int .i64 a1_1, .int .i64 a1_3] rfl (by (try simp only [List.map_toArray, List.map_cons, List.map_nil]); first | done | rfl | (simp only [List.length_drop, List.length_take]; rfl)) ?_; (with_reducible refine (spillwayref06_count.calls k (wrap64 ((wrap64 (a0_1 + a1_5)) + a1_7)) a1_1 a1_3 t131 _ A8.out).mono ?_); rintro e w' ⟨rfl, ⟨nd, rfl⟩⟩; refine ⟨_, rfl, ?_⟩))
          go_ret3
          exact ⟨by first | rfl | (simp [errW_none, errW_some] <;> rfl) | (simp [*, errW_none, errW_some] <;> rfl), by repeat (first | (with_reducible first | exact HB.out | apply below_alloc | apply pw_below_drewN | apply below_drew1 | refine below_set ?_ GE126.out | refine below_set ?_ GE127.out) | exact HB.out)⟩
    · replace c6 := Bool.eq_false_iff.mpr c6
      subst c6
      have H1 : (some (0, 0, 60)) = some (r1, r2, r3) := by rw [if_neg (show ¬ (false = true) by decide)] at H; exact H
      clear H
      have H := H1
      clear H1
      simp only [Option.some.injEq, Prod.mk.injEq] at H
      obtain ⟨rfl, rfl, rfl⟩ := H
      go_enter Try.func15, Try.ntmps15
      go_wp2_with (first | ((with_reducible refine gate_dst (N := 2) rfl ?_); refine box_event ?hg (N := 2) ?hd (cs := #[.int .i64 a0_0, .int .i64 a0_1, .int .i64 a0_2]) (t := 23) ?hr ?_; (case hd => rfl); (case hg => rfl); (case hr => first | (go_simp; done) | (go_simp; rfl)); intro gb126 hg w38 hbox hb; have n0_ := Aside0.mk (below_step (by repeat (first | (with_reducible first | exact HB.out | apply below_alloc | apply pw_below_drewN | apply below_drew1) | exact HB.out)) hb); have n1_ := Aside0.mk (hbox); have n2_ := Aside0.mk ((by rw [hg]; exact (below_size (by repeat (first | (with_reducible first | exact HB.out | apply below_alloc | apply pw_below_drewN | apply below_drew1) | exact HB.out))) : w.heap.size ≤ gb126)); have n3_ := Aside0.mk ((by rw [hg]; exact (below_size (by repeat (first | (with_reducible first | exact HB.out | apply below_alloc | apply pw_below_drewN | apply below_drew1) | exact HB.out))) : w.heap.size ≤ gb126)); clear HB; have HB := n0_; have BK126 := n1_; have GW126 := n2_; have GE126 := n3_; clear n0_ n1_ n2_ n3_; clear hb hbox hg) | ((with_reducible refine gate_dst (N := 3) rfl ?_); refine box_event ?hg (N := 3) ?hd (cs := #[.int .i64 a1_0, .int .i64 a1_1, .int .i64 a1_2, .int .i64 a1_3, .int .i64 a1_4, .int .i64 a1_5, .int .i64 a1_6, .int .i64 a1_7]) (t := 25) ?hr ?_; (case hd => rfl); (case hg => rfl); (case hr => first | (go_simp; done) | (go_simp; rfl)); intro gb127 hg w39 hbox hb; have n0_ := Aside0.mk (blk_below (g := gb126) (o := .cells #[.int .i64 a0_0, .int .i64 a0_1, .int .i64 a0_2] 23 (0, 0)) (by (with_reducible repeat (first | refine blk_drewN ?_ _ | refine blk_drew ?_ | refine blk_alloc ?_ _)); exact BK126.out) hb); have n1_ := Aside0.mk (below_step (by repeat (first | (with_reducible first | exact HB.out | apply below_alloc | apply pw_below_drewN | apply below_drew1 | refine below_set ?_ GE126.out) | exact HB.out)) hb); have n2_ := Aside0.mk (hbox); have n3_ := Aside0.mk ((by rw [hg]; exact (below_size (by repeat (first | (with_reducible first | exact HB.out | apply below_alloc | apply pw_below_drewN | apply below_drew1 | refine below_set ?_ GE126.out) | exact HB.out))) : w.heap.size ≤ gb127)); have n4_ := Aside0.mk ((by rw [hg]; exact (below_size (by repeat (first | (with_reducible first | exact HB.out | apply below_alloc | apply pw_below_drewN | apply below_drew1 | refine below_set ?_ GE126.out) | exact HB.out))) : w.heap.size ≤ gb127)); have n5_ := Aside0.mk ((by rw [hg]; exact Nat.ne_of_lt (blk_lt (g := gb126) (o := .cells #[.int .i64 a0_0, .int .i64 a0_1, .int .i64 a0_2] 23 (0, 0)) (by (with_reducible repeat (first | refine blk_drewN ?_ _ | refine blk_drew ?_ | refine blk_alloc ?_ _)); exact BK126.out)) : gb126 ≠ gb127)); have n6_ := Aside0.mk ((by rw [hg]; exact Nat.ne_of_gt (blk_lt (g := gb126) (o := .cells #[.int .i64 a0_0, .int .i64 a0_1, .int .i64 a0_2] 23 (0, 0)) (by (with_reducible repeat (first | refine blk_drewN ?_ _ | refine blk_drew ?_ | refine blk_alloc ?_ _)); exact BK126.out)) : gb127 ≠ gb126)); clear BK126; clear HB; have BK126 := n0_; have HB := n1_; have BK127 := n2_; have GW127 := n3_; have GE127 := n4_; have NB126_127 := n5_; have NB127_126 := n6_; clear n0_ n1_ n2_ n3_ n4_ n5_ n6_; clear hb hbox hg; have hnb40 := NB126_127.out; have hnc40 := NB127_126.out; have hcz41_0 : w39.cell? ⟨gb126, 0, none⟩ = some (.int .i64 a0_0) := (blk_cell BK126.out 0).trans rfl; have hcz41_1 : w39.cell? ⟨gb126, 1, none⟩ = some (.int .i64 a0_1) := (blk_cell BK126.out 1).trans rfl; have hcz41_2 : w39.cell? ⟨gb126, 2, none⟩ = some (.int .i64 a0_2) := (blk_cell BK126.out 2).trans rfl; have hfz41_0 := blk_frozen BK126.out 0; have hfz41_1 := blk_frozen BK126.out 1; have hfz41_2 := blk_frozen BK126.out 2) | ((with_reducible refine gate_callee (f := 44) rfl ?_); refine goesL_ (some 10) rfl rfl Try.func44 (by kernel_rfl) rfl #[.agg #[.int .i64 a0_0, .int .i64 a0_1, .int .i64 a0_2]] rfl (by (try simp only [List.map_toArray, List.map_cons, List.map_nil]); first | done | rfl | (simp only [List.length_drop, List.length_take]; rfl)) ?_; (with_reducible refine (spillwayref05_Valid.calls a0_0 a0_1 a0_2 true _ A3.out).mono ?_); rintro e w42 ⟨rfl, hb⟩; refine ⟨_, rfl, ?_⟩; have n0_ := Aside0.mk (blk_below (g := gb126) (o := .cells #[.int .i64 a0_0, .int .i64 a0_1, .int .i64 a0_2] 23 (0, 0)) (by (with_reducible repeat (first | refine blk_drewN ?_ _ | refine blk_drew ?_ | refine blk_alloc ?_ _)); exact BK126.out) hb); have n1_ := Aside0.mk (blk_below (g := gb127) (o := .cells #[.int .i64 a1_0, .int .i64 a1_1, .int .i64 a1_2, .int .i64 a1_3, .int .i64 a1_4, .int .i64 a1_5, .int .i64 a1_6, .int .i64 a1_7] 25 (0, 0)) (by (with_reducible repeat (first | refine blk_drewN ?_ _ | refine blk_drew ?_ | refine blk_alloc ?_ _)); exact BK127.out) hb); have n2_ := Aside0.mk (below_step (by repeat (first | (with_reducible first | exact HB.out | apply below_alloc | apply pw_below_drewN | apply below_drew1 | refine below_set ?_ GE126.out | refine below_set ?_ GE127.out) | exact HB.out)) hb); clear BK126; clear BK127; clear HB; have BK126 := n0_; have BK127 := n1_; have HB := n2_; clear n0_ n1_ n2_; (try clear hb); (try clear hb2); (try clear hk); (try clear hi); have hcz43_0 : w42.cell? ⟨gb127, 0, none⟩ = some (.int .i64 a1_0) := (blk_cell BK127.out 0).trans rfl; have hcz43_1 : w42.cell? ⟨gb127, 1, none⟩ = some (.int .i64 a1_1) := (blk_cell BK127.out 1).trans rfl; have hcz43_2 : w42.cell? ⟨gb127, 2, none⟩ = some (.int .i64 a1_2) := (blk_cell BK127.out 2).trans rfl; have hcz43_3 : w42.cell? ⟨gb127, 3, none⟩ = some (.int .i64 a1_3) := (blk_cell BK127.out 3).trans rfl; have hcz43_4 : w42.cell? ⟨gb127, 4, none⟩ = some (.int .i64 a1_4) := (blk_cell BK127.out 4).trans rfl; have hcz43_5 : w42.cell? ⟨gb127, 5, none⟩ = some (.int .i64 a1_5) := (blk_cell BK127.out 5).trans rfl; have hcz43_6 : w42.cell? ⟨gb127, 6, none⟩ = some (.int .i64 a1_6) := (blk_cell BK127.out 6).trans rfl; have hcz43_7 : w42.cell? ⟨gb127, 7, none⟩ = some (.int .i64 a1_7) := (blk_cell BK127.out 7).trans rfl; have hfz43_0 := blk_frozen BK127.out 0; have hfz43_1 := blk_frozen BK127.out 1; have hfz43_2 := blk_frozen BK127.out 2; have hfz43_3 := blk_frozen BK127.out 3; have hfz43_4 := blk_frozen BK127.out 4; have hfz43_5 := blk_frozen BK127.out 5; have hfz43_6 := blk_frozen BK127.out 6; have hfz43_7 := blk_frozen BK127.out 7) | ((with_reducible refine gate_callee (f := 18) rfl ?_); refine goesL_ (some 13) rfl rfl Try.func18 (by kernel_rfl) rfl #[.agg #[.int .i64 a1_0, .int .i64 a1_1, .int .i64 a1_2, .int .i64 a1_3, .int .i64 a1_4, .int .i64 a1_5, .int .i64 a1_6, .int .i64 a1_7]] rfl (by (try simp only [List.map_toArray, List.map_cons, List.map_nil]); first | done | rfl | (simp only [List.length_drop, List.length_take]; rfl)) ?_; (with_reducible refine (spillwayref06_Valid.calls a1_0 a1_1 a1_2 a1_3 a1_4 a1_5 a1_6 a1_7 false _ A5.out).mono ?_); rintro e w44 ⟨rfl, hb⟩; refine ⟨_, rfl, ?_⟩; have n0_ := Aside0.mk (blk_below (g := gb126) (o := .cells #[.int .i64 a0_0, .int .i64 a0_1, .int .i64 a0_2] 23 (0, 0)) (by (with_reducible repeat (first | refine blk_drewN ?_ _ | refine blk_drew ?_ | refine blk_alloc ?_ _)); exact BK126.out) hb); have n1_ := Aside0.mk (blk_below (g := gb127) (o := .cells #[.int .i64 a1_0, .int .i64 a1_1, .int .i64 a1_2, .int .i64 a1_3, .int .i64 a1_4, .int .i64 a1_5, .int .i64 a1_6, .int .i64 a1_7] 25 (0, 0)) (by (with_reducible repeat (first | refine blk_drewN ?_ _ | refine blk_drew ?_ | refine blk_alloc ?_ _)); exact BK127.out) hb); have n2_ := Aside0.mk (below_step (by repeat (first | (with_reducible first | exact HB.out | apply below_alloc | apply pw_below_drewN | apply below_drew1 | refine below_set ?_ GE126.out | refine below_set ?_ GE127.out) | exact HB.out)) hb); clear BK126; clear BK127; clear HB; have BK126 := n0_; have BK127 := n1_; have HB := n2_; clear n0_ n1_ n2_; (try clear hb); (try clear hb2); (try clear hk); (try clear hi)))
      go_ret3
      exact ⟨by first | rfl | (simp [errW_none, errW_some] <;> rfl) | (simp [*, errW_none, errW_some] <;> rfl), by repeat (first | (with_reducible first | exact HB.out | apply below_alloc | apply pw_below_drewN | apply below_drew1 | refine below_set ?_ GE126.out | refine below_set ?_ GE127.out) | exact HB.out)⟩
  · replace c4 := Bool.eq_false_iff.mpr c4
    subst c4
    have H1 : (some (0, 0, 50)) = some (r1, r2, r3) := by rw [if_neg (show ¬ (false = true) by decide)] at H; exact H
    clear H
    have H := H1
    clear H1
    simp only [Option.some.injEq, Prod.mk.injEq] at H
    obtain ⟨rfl, rfl, rfl⟩ := H
    go_enter Try.func15, Try.ntmps15
    go_wp2_with (first | ((with_reducible refine gate_dst (N := 2) rfl ?_); refine box_event ?hg (N := 2) ?hd (cs := #[.int .i64 a0_0, .int .i64 a0_1, .int .i64 a0_2]) (t := 23) ?hr ?_; (case hd => rfl); (case hg => rfl); (case hr => first | (go_simp; done) | (go_simp; rfl)); intro gb126 hg w45 hbox hb; have n0_ := Aside0.mk (below_step (by repeat (first | (with_reducible first | exact HB.out | apply below_alloc | apply pw_below_drewN | apply below_drew1) | exact HB.out)) hb); have n1_ := Aside0.mk (hbox); have n2_ := Aside0.mk ((by rw [hg]; exact (below_size (by repeat (first | (with_reducible first | exact HB.out | apply below_alloc | apply pw_below_drewN | apply below_drew1) | exact HB.out))) : w.heap.size ≤ gb126)); have n3_ := Aside0.mk ((by rw [hg]; exact (below_size (by repeat (first | (with_reducible first | exact HB.out | apply below_alloc | apply pw_below_drewN | apply below_drew1) | exact HB.out))) : w.heap.size ≤ gb126)); clear HB; have HB := n0_; have BK126 := n1_; have GW126 := n2_; have GE126 := n3_; clear n0_ n1_ n2_ n3_; clear hb hbox hg) | ((with_reducible refine gate_dst (N := 3) rfl ?_); refine box_event ?hg (N := 3) ?hd (cs := #[.int .i64 a1_0, .int .i64 a1_1, .int .i64 a1_2, .int .i64 a1_3, .int .i64 a1_4, .int .i64 a1_5, .int .i64 a1_6, .int .i64 a1_7]) (t := 25) ?hr ?_; (case hd => rfl); (case hg => rfl); (case hr => first | (go_simp; done) | (go_simp; rfl)); intro gb127 hg w46 hbox hb; have n0_ := Aside0.mk (blk_below (g := gb126) (o := .cells #[.int .i64 a0_0, .int .i64 a0_1, .int .i64 a0_2] 23 (0, 0)) (by (with_reducible repeat (first | refine blk_drewN ?_ _ | refine blk_drew ?_ | refine blk_alloc ?_ _)); exact BK126.out) hb); have n1_ := Aside0.mk (below_step (by repeat (first | (with_reducible first | exact HB.out | apply below_alloc | apply pw_below_drewN | apply below_drew1 | refine below_set ?_ GE126.out) | exact HB.out)) hb); have n2_ := Aside0.mk (hbox); have n3_ := Aside0.mk ((by rw [hg]; exact (below_size (by repeat (first | (with_reducible first | exact HB.out | apply below_alloc | apply pw_below_drewN | apply below_drew1 | refine below_set ?_ GE126.out) | exact HB.out))) : w.heap.size ≤ gb127)); have n4_ := Aside0.mk ((by rw [hg]; exact (below_size (by repeat (first | (with_reducible first | exact HB.out | apply below_alloc | apply pw_below_drewN | apply below_drew1 | refine below_set ?_ GE126.out) | exact HB.out))) : w.heap.size ≤ gb127)); have n5_ := Aside0.mk ((by rw [hg]; exact Nat.ne_of_lt (blk_lt (g := gb126) (o := .cells #[.int .i64 a0_0, .int .i64 a0_1, .int .i64 a0_2] 23 (0, 0)) (by (with_reducible repeat (first | refine blk_drewN ?_ _ | refine blk_drew ?_ | refine blk_alloc ?_ _)); exact BK126.out)) : gb126 ≠ gb127)); have n6_ := Aside0.mk ((by rw [hg]; exact Nat.ne_of_gt (blk_lt (g := gb126) (o := .cells #[.int .i64 a0_0, .int .i64 a0_1, .int .i64 a0_2] 23 (0, 0)) (by (with_reducible repeat (first | refine blk_drewN ?_ _ | refine blk_drew ?_ | refine blk_alloc ?_ _)); exact BK126.out)) : gb127 ≠ gb126)); clear BK126; clear HB; have BK126 := n0_; have HB := n1_; have BK127 := n2_; have GW127 := n3_; have GE127 := n4_; have NB126_127 := n5_; have NB127_126 := n6_; clear n0_ n1_ n2_ n3_ n4_ n5_ n6_; clear hb hbox hg; have hnb47 := NB126_127.out; have hnc47 := NB127_126.out; have hcz48_0 : w46.cell? ⟨gb126, 0, none⟩ = some (.int .i64 a0_0) := (blk_cell BK126.out 0).trans rfl; have hcz48_1 : w46.cell? ⟨gb126, 1, none⟩ = some (.int .i64 a0_1) := (blk_cell BK126.out 1).trans rfl; have hcz48_2 : w46.cell? ⟨gb126, 2, none⟩ = some (.int .i64 a0_2) := (blk_cell BK126.out 2).trans rfl; have hfz48_0 := blk_frozen BK126.out 0; have hfz48_1 := blk_frozen BK126.out 1; have hfz48_2 := blk_frozen BK126.out 2) | ((with_reducible refine gate_callee (f := 44) rfl ?_); refine goesL_ (some 10) rfl rfl Try.func44 (by kernel_rfl) rfl #[.agg #[.int .i64 a0_0, .int .i64 a0_1, .int .i64 a0_2]] rfl (by (try simp only [List.map_toArray, List.map_cons, List.map_nil]); first | done | rfl | (simp only [List.length_drop, List.length_take]; rfl)) ?_; (with_reducible refine (spillwayref05_Valid.calls a0_0 a0_1 a0_2 false _ A3.out).mono ?_); rintro e w49 ⟨rfl, hb⟩; refine ⟨_, rfl, ?_⟩; have n0_ := Aside0.mk (blk_below (g := gb126) (o := .cells #[.int .i64 a0_0, .int .i64 a0_1, .int .i64 a0_2] 23 (0, 0)) (by (with_reducible repeat (first | refine blk_drewN ?_ _ | refine blk_drew ?_ | refine blk_alloc ?_ _)); exact BK126.out) hb); have n1_ := Aside0.mk (blk_below (g := gb127) (o := .cells #[.int .i64 a1_0, .int .i64 a1_1, .int .i64 a1_2, .int .i64 a1_3, .int .i64 a1_4, .int .i64 a1_5, .int .i64 a1_6, .int .i64 a1_7] 25 (0, 0)) (by (with_reducible repeat (first | refine blk_drewN ?_ _ | refine blk_drew ?_ | refine blk_alloc ?_ _)); exact BK127.out) hb); have n2_ := Aside0.mk (below_step (by repeat (first | (with_reducible first | exact HB.out | apply below_alloc | apply pw_below_drewN | apply below_drew1 | refine below_set ?_ GE126.out | refine below_set ?_ GE127.out) | exact HB.out)) hb); clear BK126; clear BK127; clear HB; have BK126 := n0_; have BK127 := n1_; have HB := n2_; clear n0_ n1_ n2_; (try clear hb); (try clear hb2); (try clear hk); (try clear hi)))
    go_ret3
    exact ⟨by first | rfl | (simp [errW_none, errW_some] <;> rfl) | (simp [*, errW_none, errW_some] <;> rfl), by repeat (first | (with_reducible first | exact HB.out | apply below_alloc | apply pw_below_drewN | apply below_drew1 | refine below_set ?_ GE126.out | refine below_set ?_ GE127.out) | exact HB.out)⟩

/-! ### window_Taps: function 20 -/
section
open Go.Shelf
attribute [local go_sem] Oper.semAt_some
def winY (kw top k : Int) : Int := wrap64 (top + wrap64 (k / kw))
def winX (kw left k : Int) : Int := wrap64 (left + k % kw)
def winPlace (h w kw top left k : Int) : Int :=
  if winY kw top k < 0 ∨ wrap64 (h - 1) < winY kw top k ∨ winX kw left k < 0 ∨ wrap64 (w - 1) < winX kw left k then -1
  else wrap64 (wrap64 (winY kw top k * w) + winX kw left k)

set_option maxRecDepth 100000 in
set_option maxHeartbeats 4000000 in
theorem winTaps_in (n : Nat) (hn : 1 ≤ n) (l lo hi bW bT bL bS : Nat) (H W KH KW top left : Int) (N : Nat) (h1 : 1 ≤ KH) (h2 : KH ≤ 32) (h3 : 1 ≤ KW) (h4 : KW ≤ 32) (hN : KH * KW = (N : Int))
    (gW : lo ≤ bW ∧ bW < hi) (gT : lo ≤ bT ∧ bT < hi) (gL : lo ≤ bL ∧ bL < hi) (gS : lo ≤ bS ∧ bS < hi) (J Jx : List (Int × Int) → World → Prop) (B : Nat) (hJ : AbidesFrom B J)
    (hY : ∀ pre x W, J pre W → pre.length < N → YieldAt Fence.wide (n - 1) Try.prog l (winEnc x) W fun e W' =>
      (e = .returned (.bool true) ∧ J (pre ++ [x]) W' ∧ Keeps lo hi W W') ∨ (e = .returned (.bool false) ∧ Jx (pre ++ [x]) W'))
    (W0 : World) (hW0 : W0.cell? ⟨bW, 0, none⟩ = some (.int .i64 KH)) (hW1 : W0.cell? ⟨bW, 1, none⟩ = some (.int .i64 KW)) (hT : W0.cell? ⟨bT, 0, none⟩ = some (.int .i64 top)) (hL : W0.cell? ⟨bL, 0, none⟩ = some (.int .i64 left))
    (hS0 : W0.cell? ⟨bS, 0, none⟩ = some (.int .i64 H)) (hS1 : W0.cell? ⟨bS, 1, none⟩ = some (.int .i64 W)) (h0 : J [] W0) :
    CallsIn Fence.wide n Try.prog 49 #[.func (.yield l) #[] #[], .pointer (some ⟨bW, 0, none⟩), .pointer (some ⟨bT, 0, none⟩), .pointer (some ⟨bL, 0, none⟩), .pointer (some ⟨bS, 0, none⟩)] W0 fun e W' => (∃ v, e = .returned v) ∧
      ((∃ ys, ys = upto (fun j => ((j : Int), winPlace H W KW top left j)) N ∧ J ys W') ∨ (∃ pre, (∃ k, k ≤ N ∧ pre = upto (fun j => ((j : Int), winPlace H W KW top left j)) k) ∧ Jx pre W')) := by
  have hN2 : KH * KW ≤ 1024 := by
    have : KH * KW ≤ 32 * 32 := Int.mul_le_mul h2 h4 (by omega) (by omega)
    omega
  have hwr : wrap64 (KH * KW) = (N : Int) := by rw [hN]; exact (by unfold wrap64; omega)
  refine callsIn_of_wp Try.func49 rfl trivial ?_ rfl
  simp only [Try.ntmps49, List.size_toArray, List.length_cons, List.length_nil, Nat.reduceAdd, Nat.reduceSub, Array.replicate_succ, Array.replicate_zero, List.push_toArray, List.append_toArray, List.nil_append, List.cons_append]
  gi_wp2
  gi_loopw [15] (fun i wr => ∃ k : Nat, k ≤ N ∧ i = .int .i64 k ∧ J (upto (fun j => ((j : Int), winPlace H W KW top left j)) k) wr ∧ Keeps lo hi W0 wr)
    (fun i _ => N - (intOf i).toNat)
  case atStart => exact ⟨0, Nat.zero_le _, rfl, h0, Keeps.refl _ _ _⟩
  case round =>
    obtain ⟨k, hk, rfl, hJs, hnx⟩ := hrel
    have kW0 := (hnx.cell (p := ⟨bW, 0, none⟩) gW.1 gW.2).trans hW0
    have kW1 := (hnx.cell (p := ⟨bW, 1, none⟩) gW.1 gW.2).trans hW1
    have kT := (hnx.cell (p := ⟨bT, 0, none⟩) gT.1 gT.2).trans hT
    have kL := (hnx.cell (p := ⟨bL, 0, none⟩) gL.1 gL.2).trans hL
    have kS0 := (hnx.cell (p := ⟨bS, 0, none⟩) gS.1 gS.2).trans hS0
    have kS1 := (hnx.cell (p := ⟨bS, 1, none⟩) gS.1 gS.2).trans hS1
    by_cases hlt : k < N
    · have hne : KW ≠ 0 := by omega
      have hne1 : (KW == 0) = false := by simp [hne]
      have dW0 : wr.drew.cell? ⟨bW, 0, none⟩ = _ := kW0
      have dW1 : wr.drew.cell? ⟨bW, 1, none⟩ = _ := kW1
      have dS0 : wr.drew.cell? ⟨bS, 0, none⟩ = _ := kS0
      have dS1 : wr.drew.cell? ⟨bS, 1, none⟩ = _ := kS1
      have hJd := abides_drew hJ hJs
      have hnd0 := hnx.drew
      clear hW0 hW1 hT hL hS0
      by_cases c1 : 0 ≤ wrap64 (top + wrap64 (k / KW)) ∧ wrap64 (top + wrap64 (k / KW)) ≤ wrap64 (H - 1)
      · by_cases c2 : 0 ≤ wrap64 (left + k % KW) ∧ wrap64 (left + k % KW) ≤ wrap64 (W - 1)
        · have hP : Aside0 (winPlace H W KW top left k = wrap64 (wrap64 (wrap64 (top + wrap64 (k / KW)) * W) + wrap64 (left + k % KW))) := Aside0.mk (by
            unfold winPlace winY winX; rw [if_neg (by omega)])
          have A1 : Aside0 (∀ w, CallsIn Fence.wide (n - 1) Try.prog 50 #[.int .i64 (wrap64 (top + wrap64 (k / KW))), .int .i64 0, .int .i64 (wrap64 (H - 1))] w fun e w' => e = .returned (.bool true) ∧ Drawn0 w w') := Aside0.mk (fun w => callsIn_wide.2 (window_within.calls _ _ _ true w (by unfold window_within.f; rw [if_pos (by omega), decide_eq_true (by omega)])))
          have A2 : Aside0 (∀ w, CallsIn Fence.wide (n - 1) Try.prog 50 #[.int .i64 (wrap64 (left + k % KW)), .int .i64 0, .int .i64 (wrap64 (W - 1))] w fun e w' => e = .returned (.bool true) ∧ Drawn0 w w') := Aside0.mk (fun w => callsIn_wide.2 (window_within.calls _ _ _ true w (by unfold window_within.f; rw [if_pos (by omega), decide_eq_true (by omega)])))
          clear c1 c2
          gi_wp2
          gi_region
          gi_wp2_with (first | (refine ⟨trivial, ?_⟩; gi_at_call 50; with_reducible refine (A1.out _).mono ?_; rintro e w1 ⟨rfl, hd⟩; have hJ1 := abides_drawn hJ hJd hd; have hnd1 := keeps_drawn hnd0 hd; clear hd; have eS1 := (hnd1.cell (p := ⟨bS, 1, none⟩) gS.1 gS.2).trans hS1) | (refine ⟨trivial, ?_⟩; gi_at_call 50; with_reducible refine (A2.out _).mono ?_; rintro e w2 ⟨rfl, hd⟩; have hJY := abides_drawn hJ hJ1 hd; have hnd := keeps_drawn hnd1 hd; clear hd; have fS1 := (hnd.cell (p := ⟨bS, 1, none⟩) gS.1 gS.2).trans hS1; have hZ := hY _ ((k : Int), winPlace H W KW top left k) _ (hJY) (by rw [upto_length]; exact hlt); unfold YieldAt at hZ; obtain ⟨fn, tmps, assign, body, hy, hR⟩ := hZ; dsimp only [winEnc] at hy; rw [hP.out] at hy))
          gi_wp2
          refine hR.mono ?_
          rintro e W3 (⟨rfl, hJ3, hk3⟩ | ⟨rfl, hJx3⟩)
          · gi_wp2
            go_roundw
            case rel => exact ⟨k + 1, by omega, by simp, by rw [upto_succ]; exact hJ3, hnd.trans hk3⟩
            case measure => simp [intOf]; omega
          · gi_wp2
            refine bodyPost_ret (results_none rfl _ _ _) rfl ?_
            exact ⟨⟨_, rfl⟩, .inr ⟨_, ⟨k + 1, by omega, (upto_succ _ _).symm⟩, hJx3⟩⟩
        · have hP : Aside0 (winPlace H W KW top left k = -1) := Aside0.mk (by
            unfold winPlace winY winX; rw [if_pos (by omega)])
          have A1 : Aside0 (∀ w, CallsIn Fence.wide (n - 1) Try.prog 50 #[.int .i64 (wrap64 (top + wrap64 (k / KW))), .int .i64 0, .int .i64 (wrap64 (H - 1))] w fun e w' => e = .returned (.bool true) ∧ Drawn0 w w') := Aside0.mk (fun w => callsIn_wide.2 (window_within.calls _ _ _ true w (by unfold window_within.f; rw [if_pos (by omega), decide_eq_true (by omega)])))
          have A2 : Aside0 (∀ w, CallsIn Fence.wide (n - 1) Try.prog 50 #[.int .i64 (wrap64 (left + k % KW)), .int .i64 0, .int .i64 (wrap64 (W - 1))] w fun e w' => e = .returned (.bool false) ∧ Drawn0 w w') := Aside0.mk (fun w => callsIn_wide.2 (window_within.calls _ _ _ false w (by unfold window_within.f; split; (· rw [decide_eq_false (by omega)]); rfl)))
          clear c1 c2
          gi_wp2
          gi_region
          gi_wp2_with (first | (refine ⟨trivial, ?_⟩; gi_at_call 50; with_reducible refine (A1.out _).mono ?_; rintro e w1 ⟨rfl, hd⟩; have hJ1 := abides_drawn hJ hJd hd; have hnd1 := keeps_drawn hnd0 hd; clear hd; have eS1 := (hnd1.cell (p := ⟨bS, 1, none⟩) gS.1 gS.2).trans hS1) | (refine ⟨trivial, ?_⟩; gi_at_call 50; with_reducible refine (A2.out _).mono ?_; rintro e w2 ⟨rfl, hd⟩; have hJY := abides_drawn hJ hJ1 hd; have hnd := keeps_drawn hnd1 hd; clear hd; have fS1 := (hnd.cell (p := ⟨bS, 1, none⟩) gS.1 gS.2).trans hS1; have hZ := hY _ ((k : Int), winPlace H W KW top left k) _ (hJY) (by rw [upto_length]; exact hlt); unfold YieldAt at hZ; obtain ⟨fn, tmps, assign, body, hy, hR⟩ := hZ; dsimp only [winEnc] at hy; rw [hP.out] at hy))
          gi_wp2
          refine hR.mono ?_
          rintro e W3 (⟨rfl, hJ3, hk3⟩ | ⟨rfl, hJx3⟩)
          · gi_wp2
            go_roundw
            case rel => exact ⟨k + 1, by omega, by simp, by rw [upto_succ]; exact hJ3, hnd.trans hk3⟩
            case measure => simp [intOf]; omega
          · gi_wp2
            refine bodyPost_ret (results_none rfl _ _ _) rfl ?_
            exact ⟨⟨_, rfl⟩, .inr ⟨_, ⟨k + 1, by omega, (upto_succ _ _).symm⟩, hJx3⟩⟩
      · have hP : Aside0 (winPlace H W KW top left k = -1) := Aside0.mk (by
          unfold winPlace winY winX; rw [if_pos (by omega)])
        have A1 : Aside0 (∀ w, CallsIn Fence.wide (n - 1) Try.prog 50 #[.int .i64 (wrap64 (top + wrap64 (k / KW))), .int .i64 0, .int .i64 (wrap64 (H - 1))] w fun e w' => e = .returned (.bool false) ∧ Drawn0 w w') := Aside0.mk (fun w => callsIn_wide.2 (window_within.calls _ _ _ false w (by unfold window_within.f; split; (· rw [decide_eq_false (by omega)]); rfl)))
        clear c1
        gi_wp2
        gi_region
        gi_wp2_with (first | (refine ⟨trivial, ?_⟩; gi_at_call 50; with_reducible refine (A1.out _).mono ?_; rintro e w1 ⟨rfl, hd⟩; have hJY := abides_drawn hJ hJd hd; have hnd := keeps_drawn hnd0 hd; clear hd; have hZ := hY _ ((k : Int), winPlace H W KW top left k) _ (hJY) (by rw [upto_length]; exact hlt); unfold YieldAt at hZ; obtain ⟨fn, tmps, assign, body, hy, hR⟩ := hZ; dsimp only [winEnc] at hy; rw [hP.out] at hy))
        refine ⟨trivial, ?_⟩
        gi_wp2
        refine hR.mono ?_
        rintro e W3 (⟨rfl, hJ3, hk3⟩ | ⟨rfl, hJx3⟩)
        · gi_wp2
          go_roundw
          case rel => exact ⟨k + 1, by omega, by simp, by rw [upto_succ]; exact hJ3, hnd.trans hk3⟩
          case measure => simp [intOf]; omega
        · gi_wp2
          refine bodyPost_ret (results_none rfl _ _ _) rfl ?_
          exact ⟨⟨_, rfl⟩, .inr ⟨_, ⟨k + 1, by omega, (upto_succ _ _).symm⟩, hJx3⟩⟩
    · obtain rfl : k = N := by omega
      gi_wp2
      go_end0
      exact ⟨⟨_, rfl⟩, .inl ⟨_, rfl, hJs⟩⟩
/-- a value that is ranged over: whatever the body, as long as it keeps what was laid for it (from lo on): all of xs, in order, or a part ahead of it -/
def SeqVal (gf : Nat) (lb : Array Value) (xs : List (Int × Int)) (lo : Nat) (w : World) : Prop :=
  (∀ args w, (callFunc gf args).run Try.prog w = .ok (.enter gf args) w) ∧
  ∀ n, 1 ≤ n → SeqStopsK Fence.wide n Try.prog gf lb winEnc (Keeps lo w.heap.size) (fun ys => ys = xs) (fun pre => ∃ k, k ≤ xs.length ∧ pre = xs.take k) xs.length w
def winTop (at_ cols SH To : Int) : Int := wrap64 (wrap64 (wrap64 (Int.tdiv at_ cols) * SH) - To)
def winLeft (at_ cols SW Le : Int) : Int := wrap64 (wrap64 (at_ % cols * SW) - Le)
def winList (H W KH KW top left : Int) : List (Int × Int) := upto (fun j => ((j : Int), winPlace H W KW top left j)) (KH * KW).toNat
theorem winList_length (H W KH KW top left : Int) : (winList H W KH KW top left).length = (KH * KW).toNat := upto_length _ _
theorem winSeq (lo bW bT bL bS : Nat) (H W KH KW top left : Int) (h1 : 1 ≤ KH) (h2 : KH ≤ 32) (h3 : 1 ≤ KW) (h4 : KW ≤ 32) (w : World)
    (gW : lo ≤ bW ∧ bW < w.heap.size) (gT : lo ≤ bT ∧ bT < w.heap.size) (gL : lo ≤ bL ∧ bL < w.heap.size) (gS : lo ≤ bS ∧ bS < w.heap.size)
    (hW0 : w.cell? ⟨bW, 0, none⟩ = some (.int .i64 KH)) (hW1 : w.cell? ⟨bW, 1, none⟩ = some (.int .i64 KW)) (hT : w.cell? ⟨bT, 0, none⟩ = some (.int .i64 top)) (hL : w.cell? ⟨bL, 0, none⟩ = some (.int .i64 left))
    (hS0 : w.cell? ⟨bS, 0, none⟩ = some (.int .i64 H)) (hS1 : w.cell? ⟨bS, 1, none⟩ = some (.int .i64 W)) :
    SeqVal 49 #[.pointer (some ⟨bW, 0, none⟩), .pointer (some ⟨bT, 0, none⟩), .pointer (some ⟨bL, 0, none⟩), .pointer (some ⟨bS, 0, none⟩)] (winList H W KH KW top left) lo w := by
  refine ⟨enters_of Try.func49 (by kernel_rfl) rfl, fun n hn l J Jx W0 hb hJ hJx hY h0 => ?_⟩
  rw [winList_length] at hY
  have hpos : 0 ≤ KH * KW := Int.mul_nonneg (by omega) (by omega)
  refine (winTaps_in n hn l lo w.heap.size bW bT bL bS H W KH KW top left (KH * KW).toNat h1 h2 h3 h4 (by omega) gW gT gL gS J Jx _ hJ hY W0
    ((hb.cell (p := ⟨bW, 0, none⟩) gW.2).trans hW0) ((hb.cell (p := ⟨bW, 1, none⟩) gW.2).trans hW1) ((hb.cell (p := ⟨bT, 0, none⟩) gT.2).trans hT) ((hb.cell (p := ⟨bL, 0, none⟩) gL.2).trans hL)
    ((hb.cell (p := ⟨bS, 0, none⟩) gS.2).trans hS0) ((hb.cell (p := ⟨bS, 1, none⟩) gS.2).trans hS1) h0).mono ?_
  rintro e W' ⟨he, ⟨ys, rfl, hj⟩ | ⟨pre, ⟨k, hk, rfl⟩, hj⟩⟩
  · exact ⟨he, .inl ⟨_, rfl, hj⟩⟩
  · exact ⟨he, .inr ⟨_, ⟨k, by rw [winList_length]; exact hk, upto_take _ hk⟩, hj⟩⟩
set_option maxHeartbeats 1000000 in
theorem nilSeq (lo : Nat) (w : World) : SeqVal 48 #[] [] lo w := by
  refine ⟨enters_of Try.func48 (by kernel_rfl) rfl, fun n hn l J Jx W0 hb hJ hJx hY h0 => ?_⟩
  refine callsIn_of_wp Try.func48 rfl trivial ?_ rfl
  simp only [Try.ntmps48, List.size_toArray, List.length_cons, List.length_nil, Nat.reduceAdd, Nat.reduceSub, Array.replicate_succ, Array.replicate_zero, List.push_toArray, List.append_toArray, List.nil_append, List.cons_append]
  gi_wp2
  go_end0
  exact ⟨⟨_, rfl⟩, .inl ⟨_, rfl, h0⟩⟩
def window_Taps.f (a0_0 : Int) (a0_1 : Int) (a0_2 : Int) (a1_0 : Int) (a1_1 : Int) (a1_2 : Int) (a1_3 : Int) (a1_4 : Int) (a1_5 : Int) (a1_6 : Int) (a1_7 : Int) (a2 : Int) : Option (List (Int × Int)) :=
  (window_Out.f a0_0 a0_1 a0_2 a1_0 a1_1 a1_2 a1_3 a1_4 a1_5 a1_6 a1_7).bind fun o =>
    if o.2.2 ≠ 0 ∨ a2 < 0 ∨ wrap64 (o.1 * o.2.1) ≤ a2 then some [] else
    if 1 ≤ o.2.1 ∧ 1 ≤ a1_0 ∧ a1_0 ≤ 32 ∧ 1 ≤ a1_1 ∧ a1_1 ≤ 32 then some (winList a0_0 a0_1 a1_0 a1_1 (winTop a2 o.2.1 a1_2 a1_4) (winLeft a2 o.2.1 a1_3 a1_5)) else none
set_option maxHeartbeats 8000000 in
set_option maxRecDepth 100000 in
theorem window_Taps.calls (a0_0 : Int) (a0_1 : Int) (a0_2 : Int) (a1_0 : Int) (a1_1 : Int) (a1_2 : Int) (a1_3 : Int) (a1_4 : Int) (a1_5 : Int) (a1_6 : Int) (a1_7 : Int) (a2 : Int) (xs : List (Int × Int)) (w : World)
    (h : window_Taps.f a0_0 a0_1 a0_2 a1_0 a1_1 a1_2 a1_3 a1_4 a1_5 a1_6 a1_7 a2 = some xs) :
    Calls Try.prog 20 #[.agg #[.int .i64 a0_0, .int .i64 a0_1, .int .i64 a0_2], .agg #[.int .i64 a1_0, .int .i64 a1_1, .int .i64 a1_2, .int .i64 a1_3, .int .i64 a1_4, .int .i64 a1_5, .int .i64 a1_6, .int .i64 a1_7], .int .i64 a2] w fun e w' =>
      ∃ gf lb, e = .returned (.func (.func gf) #[] lb) ∧ SeqVal gf lb xs w.heap.size w' ∧ Below w.heap.size w w' := by
  have hu23 := Try.underlying23
  have hu25 := Try.underlying25
  unfold window_Taps.f at h
  obtain ⟨⟨rows, cols, eo⟩, ho, h⟩ := Option.bind_eq_some_iff.mp h
  dsimp only at h
  have HO := Aside0.mk ho
  clear ho
  by_cases c1 : eo ≠ 0
  · rw [if_pos (.inl c1)] at h
    obtain rfl := (Option.some.inj h)
    go_enter Try.func20, Try.ntmps20
    go_wp2_with (first | (go_at_call 14; refine (window_Out.calls a0_0 a0_1 a0_2 a1_0 a1_1 a1_2 a1_3 a1_4 a1_5 a1_6 a1_7 rows cols eo _ HO.out).mono ?_; rintro e w1 ⟨rfl, hb⟩; have hB1 : Below w.heap.size w w1 := (((Below.refl _ w).alloc (Nat.le_refl _) _).alloc (by simp) _).trans (hb.mono (by simp; omega)); have hS0 := (hb.block w.heap.size (by simp; omega)); have hS1 := hb.block (w.heap.size + 1) (by simp); have hsz := hb.size; simp only [World.size_alloc] at hsz; clear hb))
    go_ret
    exact ⟨48, #[], rfl, nilSeq _ _, hB1⟩
  obtain rfl : eo = 0 := by omega
  by_cases c2 : a2 < 0
  · rw [if_pos (.inr (.inl c2))] at h
    obtain rfl := (Option.some.inj h)
    go_enter Try.func20, Try.ntmps20
    go_wp2_with (first | (go_at_call 14; refine (window_Out.calls a0_0 a0_1 a0_2 a1_0 a1_1 a1_2 a1_3 a1_4 a1_5 a1_6 a1_7 rows cols 0 _ HO.out).mono ?_; rintro e w1 ⟨rfl, hb⟩; have hB1 : Below w.heap.size w w1 := (((Below.refl _ w).alloc (Nat.le_refl _) _).alloc (by simp) _).trans (hb.mono (by simp; omega)); have hS0 := (hb.block w.heap.size (by simp; omega)); have hS1 := hb.block (w.heap.size + 1) (by simp); have hsz := hb.size; simp only [World.size_alloc] at hsz; clear hb))
    go_ret
    exact ⟨48, #[], rfl, nilSeq _ _, hB1⟩
  by_cases c3 : wrap64 (rows * cols) ≤ a2
  · rw [if_pos (.inr (.inr c3))] at h
    obtain rfl := (Option.some.inj h)
    go_enter Try.func20, Try.ntmps20
    go_wp2_with (first | (go_at_call 14; refine (window_Out.calls a0_0 a0_1 a0_2 a1_0 a1_1 a1_2 a1_3 a1_4 a1_5 a1_6 a1_7 rows cols 0 _ HO.out).mono ?_; rintro e w1 ⟨rfl, hb⟩; have hB1 : Below w.heap.size w w1 := (((Below.refl _ w).alloc (Nat.le_refl _) _).alloc (by simp) _).trans (hb.mono (by simp; omega)); have hS0 := (hb.block w.heap.size (by simp; omega)); have hS1 := hb.block (w.heap.size + 1) (by simp); have hsz := hb.size; simp only [World.size_alloc] at hsz; clear hb))
    go_ret
    exact ⟨48, #[], rfl, nilSeq _ _, hB1⟩
  rw [if_neg (by omega)] at h
  by_cases c4 : 1 ≤ cols ∧ 1 ≤ a1_0 ∧ a1_0 ≤ 32 ∧ 1 ≤ a1_1 ∧ a1_1 ≤ 32
  · rw [if_pos c4] at h
    obtain rfl := (Option.some.inj h)
    obtain ⟨d1, d2, d3, d4, d5⟩ := c4
    have e1 : cols ≠ 0 := by omega
    have e2 : 0 ≤ a2 := by omega
    go_enter Try.func20, Try.ntmps20
    go_wp2_with (first | (go_at_call 14; refine (window_Out.calls a0_0 a0_1 a0_2 a1_0 a1_1 a1_2 a1_3 a1_4 a1_5 a1_6 a1_7 rows cols 0 _ HO.out).mono ?_; rintro e w1 ⟨rfl, hb⟩; have hB1 : Below w.heap.size w w1 := (((Below.refl _ w).alloc (Nat.le_refl _) _).alloc (by simp) _).trans (hb.mono (by simp; omega)); have hS0 := (hb.block w.heap.size (by simp; omega)); have hS1 := hb.block (w.heap.size + 1) (by simp); have hsz := hb.size; simp only [World.size_alloc] at hsz; clear hb; have BS : w1.heap[w.heap.size]? = some (.cells #[.int .i64 a0_0, .int .i64 a0_1, .int .i64 a0_2] 23 (0, 0)) := hS0.trans (box2a _ _ _); have BW : w1.heap[w.heap.size + 1]? = some (.cells #[.int .i64 a1_0, .int .i64 a1_1, .int .i64 a1_2, .int .i64 a1_3, .int .i64 a1_4, .int .i64 a1_5, .int .i64 a1_6, .int .i64 a1_7] 25 (0, 0)) := hS1.trans (box2b _ _ _); clear hS0 hS1; have q2 : w1.cell? ⟨w.heap.size + 1, 2, none⟩ = some (.int .i64 a1_2) := (blk_cell BW 2).trans rfl; have q3 : w1.cell? ⟨w.heap.size + 1, 3, none⟩ = some (.int .i64 a1_3) := (blk_cell BW 3).trans rfl; have q4 : w1.cell? ⟨w.heap.size + 1, 4, none⟩ = some (.int .i64 a1_4) := (blk_cell BW 4).trans rfl; have q5 : w1.cell? ⟨w.heap.size + 1, 5, none⟩ = some (.int .i64 a1_5) := (blk_cell BW 5).trans rfl; have g1 : w.heap.size + 1 < w1.heap.size := (by omega); have g2 : w.heap.size + 1 < w1.heap.size + 1 := (by omega); have g3 : w.heap.size < w1.heap.size := (by omega)))
    go_region
    all_goals go_wp2
    all_goals (
      go_ret
      refine ⟨49, _, rfl, winSeq _ _ _ _ _ _ _ _ _ _ _ d2 d3 d4 d5 _ ?_ ?_ ?_ ?_ ?_ ?_ ?_ ?_ ?_ ?_, ?_⟩
      all_goals first
        | (simp only [World.size_drew, World.size_alloc]; omega)
        | exact (blk_cell (blk_drew (blk_alloc (blk_alloc BW _) _)) _).trans rfl
        | exact (blk_cell (blk_drew (blk_alloc (blk_alloc BS _) _)) _).trans rfl
        | exact (blk_cell (blk_drew (box2a _ _ _)) _).trans rfl
        | exact (blk_cell (blk_drew (box2b _ _ _)) _).trans rfl
        | exact ((hB1.alloc (by omega) _).alloc (by simp only [World.size_alloc]; omega) _).drew)
  · rw [if_neg c4] at h; exact absurd h (by simp)
end

/-! ### spillwaylaw06_pairs: function 22 -/
section
open Go.Shelf
attribute [local go_sem] Oper.semAt_some
def spillwaylaw06_pairs.f (a0_0 : Int) (a0_1 : Int) (a0_2 : Int) (a1_0 : Int) (a1_1 : Int) (a1_2 : Int) (a1_3 : Int) (a1_4 : Int) (a1_5 : Int) (a1_6 : Int) (a1_7 : Int) (a2 : Int) (a3 : Int) : Option (List Int × Bool) :=
  (window_Taps.f a0_0 a0_1 a0_2 a1_0 a1_1 a1_2 a1_3 a1_4 a1_5 a1_6 a1_7 a2).bind fun xs => if xs.length ≤ 1024 then some (flat (xs.take a3.toNat), true) else none
theorem spillwaylaw06_pairs.info : (Try.prog.info? 3).map (fun i => (i.zero, i.size, i.bytes)) = some (some (.int .i64 0), 1, 8) := by kernel_rfl
theorem spillwaylaw06_pairs.ne_nil (gf : Nat) (lb : Array Value) (w : World) : (binOp .eql 40 (.func (.func gf) #[] lb) Value.nilFunc).run Try.prog w = .ok (.bool false) w := by
  first | kernel_rfl | simp [binOp, go_sem, Try.underlying40]
set_option maxHeartbeats 8000000 in
set_option maxRecDepth 100000 in
theorem spillwaylaw06_pairs.calls (a0_0 : Int) (a0_1 : Int) (a0_2 : Int) (a1_0 : Int) (a1_1 : Int) (a1_2 : Int) (a1_3 : Int) (a1_4 : Int) (a1_5 : Int) (a1_6 : Int) (a1_7 : Int) (a2 : Int) (a3 : Int) (r1 : List Int) (r2 : Bool) (w : World)
    (h : spillwaylaw06_pairs.f a0_0 a0_1 a0_2 a1_0 a1_1 a1_2 a1_3 a1_4 a1_5 a1_6 a1_7 a2 a3 = some (r1, r2)) :
    Calls Try.prog 22 #[.agg #[.int .i64 a0_0, .int .i64 a0_1, .int .i64 a0_2], .agg #[.int .i64 a1_0, .int .i64 a1_1, .int .i64 a1_2, .int .i64 a1_3, .int .i64 a1_4, .int .i64 a1_5, .int .i64 a1_6, .int .i64 a1_7], .int .i64 a2, .int .i64 a3] w fun e w' =>
      ∃ v0_ : Value, e = .returned (.tuple #[v0_, .bool r2]) ∧ Kd.R (Kd.int .i64) 3 w' w.heap.size (fun _ => True) v0_ r1 ∧ Below w.heap.size w w' := by
  have hu23 := Try.underlying23
  have hu25 := Try.underlying25
  unfold spillwaylaw06_pairs.f at h
  obtain ⟨xs, hx, h⟩ := Option.bind_eq_some_iff.mp h
  by_cases hl : xs.length ≤ 1024
  · rw [if_pos hl] at h
    simp only [Option.some.injEq, Prod.mk.injEq] at h
    obtain ⟨rfl, rfl⟩ := h
    have HT := Aside0.mk (fun w => callsIn_wide (n := 2).2 (window_Taps.calls a0_0 a0_1 a0_2 a1_0 a1_1 a1_2 a1_3 a1_4 a1_5 a1_6 a1_7 a2 xs w hx))
    clear hx
    have hq := spillwaylaw06_pairs.ne_nil
    obtain ⟨i0, hi, hz0, hz1, hz2⟩ := info_parts spillwaylaw06_pairs.info
    refine callsIn_wide (n := 3).1 ?_
    refine callsIn_of_wp_marks Try.func22 rfl trivial ?_ rfl
    simp only [Try.ntmps22, List.size_toArray, List.length_cons, List.length_nil, Nat.reduceAdd, Nat.reduceSub, Array.replicate_succ, Array.replicate_zero, List.push_toArray, List.append_toArray, List.nil_append, List.cons_append]
    gi_wp2_with (refine ⟨trivial, ?_⟩; gi_at_call 20; refine (HT.out _).mono ?_; rintro e w1 ⟨gf, lb, rfl, hseq, hb⟩; have bM : Boxed w1 (w.heap.size + 1 + 1) 3 (.int .i64 a3) := (hb.block _ (by simp)).trans (four3 _ _ _ _ _); have bO : Boxed w1 (w.heap.size + 1 + 1 + 1) 34 (.slice none 0 0) := (hb.block _ (by simp)).trans (four4 _ _ _ _ _); have hB1 := (four_below w _ _ _ _).trans (hb.mono (by simp; omega)); have hsz := hb.size; simp only [World.size_alloc] at hsz hseq; clear hb)
    refine wpIn_rangeFunc_ownG rfl (by omega) (gf := gf) (lb := lb) rfl trivial hseq.1
      (hseq.2 2 (by omega)) keeps_t (keeps_b (Nat.le_refl _)) (Below.refl _ _) (fun _ => rfl)
      (fun pre W => pre.length ≤ a3.toNat ∧ Boxed W (w.heap.size + 1 + 1) 3 (.int .i64 a3) ∧ Col w w1.heap.size (w.heap.size + 1 + 1 + 1) 34 3 (flatV pre) W)
      (fun c pre W => c = .exit 0 ∧ ∃ p1, p1.length = a3.toNat ∧ p1 <+: pre ∧ Boxed W (w.heap.size + 1 + 1) 3 (.int .i64 a3) ∧ Col w w1.heap.size (w.heap.size + 1 + 1 + 1) 34 3 (flatV p1) W)
      (fun s X Y row hs hg hr => ⟨hs.1, boxed_grown hs.2.1 (by omega) hg hr, hs.2.2.grown (by omega) (by omega) hg hr⟩)
      (fun c s X Y row hs hg hr => by obtain ⟨h1, p1, h2, h3, h4, h5⟩ := hs; exact ⟨h1, p1, h2, h3, boxed_grown h4 (by omega) hg hr, h5.grown (by omega) (by omega) hg hr⟩)
      ⟨Nat.zero_le _, bM, ⟨none, 0, bO, World.ownsRow_nil _ _ _ _⟩, hB1, Nat.le_refl _⟩
      (fun x => { tmps := #[.agg #[.int .i64 a0_0, .int .i64 a0_1, .int .i64 a0_2], .agg #[.int .i64 a1_0, .int .i64 a1_1, .int .i64 a1_2, .int .i64 a1_3, .int .i64 a1_4, .int .i64 a1_5, .int .i64 a1_6, .int .i64 a1_7], .int .i64 a2, .int .i64 a3, .pointer (some ⟨w.heap.size, 0, none⟩), .pointer (some ⟨w.heap.size + 1, 0, none⟩), undef, .pointer (some ⟨w.heap.size + 1 + 1, 0, none⟩), .slice none 0 0, .bool false, .pointer (some ⟨w.heap.size + 1 + 1 + 1, 0, none⟩), .func (.func gf) #[] lb, .int .i64 x.1, .int .i64 x.2, .agg #[.int .i64 a0_0, .int .i64 a0_1, .int .i64 a0_2], .agg #[.int .i64 a1_0, .int .i64 a1_1, .int .i64 a1_2, .int .i64 a1_3, .int .i64 a1_4, .int .i64 a1_5, .int .i64 a1_6, .int .i64 a1_7], .int .i64 a2, .func (.func gf) #[] lb, .func (.func gf) #[] lb, .bool false, .func (.func gf) #[] lb, .int .i64 x.1, .int .i64 x.2, undef, undef, undef, undef, undef, undef, undef, undef, undef, undef, undef], defers := [] }) ?assign ?body ?done ?stop
    case assign =>
      intro l x W K hK
      gi_wp2
      exact hK
    case body =>
      rintro l pre x W ⟨hk, bm, ⟨A, c, hv, hrow⟩, hB, hs⟩ hlt
      have hc := hv.cell
      have hcm := bm.cell
      have hlen := flatV_length pre
      rw [flatV_length] at hc
      gi_wp2_with (gi_at_builtin; refine wpListIn_append_own _ rfl _ _ 34 rfl w1.heap.size 3 i0 (.int .i64 0) 1 8 Try.underlying34 hi hz0 hz1 hz2 rfl (by decide) (.slice A (2 * pre.length) c) _ _ rfl ((hlen ▸ hrow).alloc _) ⟨W.heap.size, 0, none⟩ 2 2 [.int .i64 x.1, .int .i64 x.2] rfl rfl (cell_two_new _ _ _ _) (by simp [Value.oneCell']) (by simp only [maxLen]; omega) (by omega) (by simp; omega) ?_; intro v' w2 hown' hgrow _; obtain ⟨g', cap', rfl⟩ := ownsRow_succ hown'; have hb1 := box_app (by decide) hv hrow (by rw [hlen]; exact hgrow); have hc1 := hb1.cell; have hf1 := hb1.frozen; rw [flatV_length] at hc1)
      · exact ⟨KeepsFrom.refl _ _, rfl, pre, by omega, List.prefix_append _ _, bm, ⟨A, c, hv, hrow⟩, hB, hs⟩
      · have hap := Col.append (lo := w.heap.size + 1 + 1 + 1 + 1) (m := 2) (ys := [.int .i64 x.1, .int .i64 x.2]) (by decide) (by omega) (by omega) (by omega) hv hrow hB hs (by rw [hlen]; exact hown') (by rw [hlen]; exact hgrow) rfl
        have hbm2 : Boxed w2 (w.heap.size + 1 + 1) 3 (.int .i64 a3) := (bm.alloc _).kept hgrow (by
          intro e'; have := own_base hrow _ (by rw [hlen]; exact e'.symm); omega)
        refine ⟨hap.1, hap.2.1, by simp; omega, hbm2.kept (grownBy_setCell' w2 _ _) (by simp), ?_⟩
        rw [flatV_snoc]; exact hap.2.2
    case done =>
      rintro D ys W hD rfl ⟨hk, bm, ⟨A, c, hv, hrow⟩, hB, hs⟩ hK
      have hc := hv.cell
      rw [flatV_length] at hc
      gi_wp2
      refine ⟨by simp, .inl ⟨_, _, rfl, run_takeDeferred hK, ?_⟩⟩
      refine ⟨_, results_tmp2 rfl _ _ _, _, rfl, ?_, hB.trans (belowK_b (w := w) (Nat.le_refl _) W D _ _ (by omega) hK rfl rfl)⟩
      rw [List.take_of_length_le hk]
      have ho := own_weaken (ownsRow_putObj hrow (.deferred none) hK rfl) (show w.heap.size ≤ w1.heap.size by omega)
      exact Kd.R_of_own (by rw [flat_length]; rw [flatV_length] at ho; exact ho) (fun _ _ => trivial)
    case stop =>
      rintro D c pre W hD ⟨k, hk, rfl⟩ ⟨rfl, p1, hp1, hpre, bm, ⟨A, c, hv, hrow⟩, hB, hs⟩ hK
      have hc := hv.cell
      rw [flatV_length] at hc
      gi_wp2
      refine ⟨by simp, .inl ⟨_, _, rfl, run_takeDeferred hK, ?_⟩⟩
      refine ⟨_, results_tmp2 rfl _ _ _, _, rfl, ?_, hB.trans (belowK_b (w := w) (Nat.le_refl _) W D _ _ (by omega) hK rfl rfl)⟩
      have hp : p1 = xs.take a3.toNat := by
        rw [← hp1]; exact List.prefix_iff_eq_take.mp (hpre.trans (List.take_prefix _ _))
      rw [← hp]
      have ho := own_weaken (ownsRow_putObj hrow (.deferred none) hK rfl) (show w.heap.size ≤ w1.heap.size by omega)
      exact Kd.R_of_own (by rw [flat_length, hp1]; rw [flatV_length, hp1] at ho; exact ho) (fun _ _ => trivial)
  · rw [if_neg hl] at h; exact absurd h (by simp)
end

/-! ### spillwaylaw06_same: function 23 -/
def spillwaylaw06_same.l0 : Nat → List Int → List Int → Int → Int → Option (Bool)
  | 0, _, _, _, _ => none
  | k + 1, x0, x1, x12, x13 => if x13 < x12 then (if 0 ≤ x13 then (if x13 < (x0.length : Int) then (if x13 < (x1.length : Int) then (if (rd x0 x13) = (rd x1 x13) then (spillwaylaw06_same.l0 k x0 x1 x12 (wrap64 (x13 + 1))) else (some false)) else (none)) else (none)) else (none)) else (some true)
def spillwaylaw06_same.f (k : Nat) (l0 : List Int) (l1 : List Int) : Option (Bool) := if (l0.length : Int) = (l1.length : Int) then (spillwaylaw06_same.l0 k l0 l1 (l0.length : Int) 0) else (some false)
theorem spillwaylaw06_same.mono_l : ∀ k, (∀ y0 y1 y2 y3, LeO (spillwaylaw06_same.l0 k y0 y1 y2 y3) (spillwaylaw06_same.l0 (k + 1) y0 y1 y2 y3))
  | 0 => fun _ _ _ _ r h => by simp [spillwaylaw06_same.l0] at h
  | k + 1 => by
    have ih0 := spillwaylaw06_same.mono_l k
    · intro y0 y1 y2 y3
      unfold spillwaylaw06_same.l0
      repeat' first
      | (with_reducible exact ih0 _ _ _ _)
      | (with_reducible exact LeO.refl _)
      | (with_reducible exact LeO.none _)
      | (with_reducible refine LeO.ite ?_ ?_)
      | (with_reducible refine LeO.bind ?_ (fun _ => ?_))
      | exact ih0 _ _ _ _
      | exact LeO.none _
      | refine LeO.ite ?_ ?_
      | refine LeO.bind ?_ (fun _ => ?_)
theorem spillwaylaw06_same.mono : ∀ a0 a1 k, LeO (spillwaylaw06_same.f k a0 a1) (spillwaylaw06_same.f (k + 1) a0 a1) := by
  intro a0 a1 k
  have ih0 := spillwaylaw06_same.mono_l k
  unfold spillwaylaw06_same.f
  repeat' first
      | (with_reducible exact ih0 _ _ _ _)
      | (with_reducible exact LeO.refl _)
      | (with_reducible exact LeO.none _)
      | (with_reducible refine LeO.ite ?_ ?_)
      | (with_reducible refine LeO.bind ?_ (fun _ => ?_))
      | exact ih0 _ _ _ _
      | exact LeO.none _
      | refine LeO.ite ?_ ?_
      | refine LeO.bind ?_ (fun _ => ?_)
set_option maxHeartbeats 8000000 in
set_option maxRecDepth 100000 in
theorem spillwaylaw06_same.calls (k : Nat) (A0 : Option Addr) (c0 : Nat) (l0 : List Int) (A1 : Option Addr) (c1 : Nat) (l1 : List Int) (r : Bool) (w : World) (hr0 : Kd.C (Kd.int .i64) w A0 l0.length l0) (hc0 : l0.length ≤ c0) (hr1 : Kd.C (Kd.int .i64) w A1 l1.length l1) (hc1 : l1.length ≤ c1) (h : spillwaylaw06_same.f k l0 l1 = some r) :
    Calls Try.prog 23 #[.slice A0 l0.length c0, .slice A1 l1.length c1] w fun e w' => e = .returned (.bool r) ∧ Drawn0 w w' := by
  have HR0 := Aside0.mk hr0
  have HC0 := Aside0.mk hc0
  clear hr0 hc0
  have HR1 := Aside0.mk hr1
  have HC1 := Aside0.mk hc1
  clear hr1 hc1
  have H : (if (l0.length : Int) = (l1.length : Int) then (spillwaylaw06_same.l0 k l0 l1 (l0.length : Int) 0) else (some false)) = some r := h
  clear h
  by_cases c3 : (l0.length : Int) = (l1.length : Int)
  · rw [if_pos c3] at H
    have c3b0 : ((l0.length : Int) == (l1.length : Int)) = true := beq_iff_eq.mpr c3
    have c3b1 : ((l0.length : Int) != (l1.length : Int)) = false := bne_eq_false_iff_eq.mpr c3
    have c3b2 : (l0.length == l1.length) = true := by first | simpa using c3 | (simp at c3 ⊢; omega)
    clear c3
    have H' := Aside0.mk H
    clear H
    go_enter Try.func23, Try.ntmps23
    go_wp2
    repeat (go_quiet (fail); try go_wp2)
    go_loopg [13] k (fun kq v13 w' => ∃ (x13_1 : Int), v13 = .int .i64 x13_1 ∧ Aside0 (spillwaylaw06_same.l0 kq l0 l1 (l0.length : Int) x13_1 = some r) ∧ Aside0 (kq ≤ k) ∧ Drawn0 w w')
    case atStart => exact ⟨(0), (by first | rfl | (simp; done) | (simp [*]; done)), H', ⟨Nat.le_refl _⟩, by repeat (first | exact Drawn0.refl _ | apply Drawn0.step)⟩
    case round =>
      clear H'
      try clear c1
      try clear c2
      try clear p2
      try clear c3
      try clear c3b0
      try clear c3b1
      try clear c3b2
      obtain ⟨x13_1, rfl, HA, HK1, ⟨m1, rfl⟩⟩ := hrel
      cases gk with
      | zero => exact absurd HA.out (by simp [spillwaylaw06_same.l0])
      | succ k1 =>
        have H := HA.out
        clear HA
        simp only [spillwaylaw06_same.l0] at H
        by_cases c4 : x13_1 < (l0.length : Int)
        · rw [if_pos c4] at H
          have c4b0 : decide (x13_1 < (l0.length : Int)) = true := decide_eq_true c4
          clear c4
          by_cases c5 : 0 ≤ x13_1
          · rw [if_pos c5] at H
            have c5b0 : decide (0 ≤ x13_1) = true := decide_eq_true c5
            clear c5
            by_cases c6 : x13_1 < (l0.length : Int)
            · rw [if_pos c6] at H
              have c6b0 : decide (x13_1 < (l0.length : Int)) = true := decide_eq_true c6
              clear c6
              by_cases c7 : x13_1 < (l1.length : Int)
              · rw [if_pos c7] at H
                have c7b0 : decide (x13_1 < (l1.length : Int)) = true := decide_eq_true c7
                clear c7
                by_cases c8 : (rd l0 x13_1) = (rd l1 x13_1)
                · rw [if_pos c8] at H
                  have c8b0 : ((rd l0 x13_1) == (rd l1 x13_1)) = true := beq_iff_eq.mpr c8
                  have c8b1 : ((rd l0 x13_1) != (rd l1 x13_1)) = false := bne_eq_false_iff_eq.mpr c8
                  clear c8
                  have H' := Aside0.mk H
                  clear H
                  have p132 : 0 ≤ (x13_1 : Int) := of_decide_eq_true (by first | (with_reducible assumption) | assumption)
                  have q132 : x13_1 < (l0.length : Int) := of_decide_eq_true (by first | (with_reducible assumption) | assumption)
                  obtain ⟨ad132, e132, hx132_0⟩ := Kd.at_int HR0.out x13_1 p132 q132
                  cases e132
                  replace p132 := eq_true p132
                  replace q132 := eq_true q132
                  have p133 : 0 ≤ (x13_1 : Int) := of_decide_eq_true (by first | (with_reducible assumption) | assumption)
                  have q133 : x13_1 < (l1.length : Int) := of_decide_eq_true (by first | (with_reducible assumption) | assumption)
                  obtain ⟨ad133, e133, hx133_0⟩ := Kd.at_int HR1.out x13_1 p133 q133
                  cases e133
                  replace p133 := eq_true p133
                  replace q133 := eq_true q133
                  go_wp2
                  repeat (go_quiet (fail); try go_wp2)
                  go_roundg k1
                  case measure => have := HK1.out; omega
                  case rel => exact ⟨(wrap64 (x13_1 + 1)), (by first | rfl | (simp; done) | (simp [*]; done)), H', ⟨by have := HK1.out; omega⟩, by repeat (first | exact Drawn0.refl _ | apply Drawn0.step)⟩
                · rw [if_neg c8] at H
                  have c8b0 : ((rd l0 x13_1) == (rd l1 x13_1)) = false := beq_eq_false_iff_ne.mpr c8
                  have c8b1 : ((rd l0 x13_1) != (rd l1 x13_1)) = true := bne_iff_ne.mpr c8
                  obtain rfl := Option.some.inj H
                  have p132 : 0 ≤ (x13_1 : Int) := of_decide_eq_true (by first | (with_reducible assumption) | assumption)
                  have q132 : x13_1 < (l0.length : Int) := of_decide_eq_true (by first | (with_reducible assumption) | assumption)
                  obtain ⟨ad132, e132, hx132_0⟩ := Kd.at_int HR0.out x13_1 p132 q132
                  cases e132
                  replace p132 := eq_true p132
                  replace q132 := eq_true q132
                  have p133 : 0 ≤ (x13_1 : Int) := of_decide_eq_true (by first | (with_reducible assumption) | assumption)
                  have q133 : x13_1 < (l1.length : Int) := of_decide_eq_true (by first | (with_reducible assumption) | assumption)
                  obtain ⟨ad133, e133, hx133_0⟩ := Kd.at_int HR1.out x13_1 p133 q133
                  cases e133
                  replace p133 := eq_true p133
                  replace q133 := eq_true q133
                  go_wp2
                  repeat (go_quiet (fail); try go_wp2)
                  go_ret
                  exact ⟨by first | rfl | (simp; done) | (simp [*]; done), by repeat (first | exact Drawn0.refl _ | apply Drawn0.step)⟩
              · rw [if_neg c7] at H
                exact absurd H (by simp)
            · rw [if_neg c6] at H
              exact absurd H (by simp)
          · rw [if_neg c5] at H
            exact absurd H (by simp)
        · rw [if_neg c4] at H
          have c4b0 : decide (x13_1 < (l0.length : Int)) = false := decide_eq_false c4
          clear c4
          obtain rfl := Option.some.inj H
          go_wp2
          repeat (go_quiet (fail); try go_wp2)
          go_ret
          exact ⟨by first | rfl | (simp; done) | (simp [*]; done), by repeat (first | exact Drawn0.refl _ | apply Drawn0.step)⟩
  · rw [if_neg c3] at H
    have c3b0 : ((l0.length : Int) == (l1.length : Int)) = false := beq_eq_false_iff_ne.mpr c3
    have c3b1 : ((l0.length : Int) != (l1.length : Int)) = true := bne_iff_ne.mpr c3
    have c3b2 : (l0.length == l1.length) = false := by first | simpa using c3 | (simp at c3 ⊢; omega)
    obtain rfl := Option.some.inj H
    go_enter Try.func23, Try.ntmps23
    go_wp2
    repeat (go_quiet (fail); try go_wp2)
    go_ret
    exact ⟨by first | rfl | (simp; done) | (simp [*]; done), by repeat (first | exact Drawn0.refl _ | apply Drawn0.step)⟩

/-! ### spillwaylaw06_fixed: function 16 -/
def spillwaylaw06_fixed.f (k : Nat)  : Option (Bool) := (window_Out.f 4 4 1 3 3 1 1 1 1 1 1).bind fun bt134 => ((spillwaylaw06_pairs.f 2 2 1 2 2 1 1 1 1 0 0 0 9).bind fun bt137 => (if bt134.1 = 4 then (if bt134.2.1 = 4 then (if bt134.2.2 = 0 then (if bt137.2 = true then ((spillwaylaw06_same.f k bt137.1 (([0, (-1), 1, (-1), 2, (-1), 3, 0] : List Int))).bind fun t144 => (some t144)) else (some false)) else (some false)) else (some false)) else (some false)))
theorem spillwaylaw06_fixed.mono : ∀ k, LeO (spillwaylaw06_fixed.f k ) (spillwaylaw06_fixed.f (k + 1) ) := by
  intro  k
  unfold spillwaylaw06_fixed.f
  repeat' first
      | (with_reducible exact spillwaylaw06_same.mono _ _ _)
      | (with_reducible exact LeO.refl _)
      | (with_reducible exact LeO.none _)
      | (with_reducible refine LeO.ite ?_ ?_)
      | (with_reducible refine LeO.bind ?_ (fun _ => ?_))
      | exact spillwaylaw06_same.mono _ _ _
      | exact LeO.none _
      | refine LeO.ite ?_ ?_
      | refine LeO.bind ?_ (fun _ => ?_)
set_option maxHeartbeats 8000000 in
set_option maxRecDepth 100000 in
theorem spillwaylaw06_fixed.calls (k : Nat)  (r : Bool) (w : World) (h : spillwaylaw06_fixed.f k  = some r) :
    Calls Try.prog 16 #[] w fun e w' => e = .returned (.bool r) ∧ Below w.heap.size w w' := by
  have hu23 := Try.underlying23
  have hu25 := Try.underlying25
  have HB := Aside0.mk (Below.refl w.heap.size w)
  have H : ((window_Out.f 4 4 1 3 3 1 1 1 1 1 1).bind fun bt134 => ((spillwaylaw06_pairs.f 2 2 1 2 2 1 1 1 1 0 0 0 9).bind fun bt137 => (if bt134.1 = 4 then (if bt134.2.1 = 4 then (if bt134.2.2 = 0 then (if bt137.2 = true then ((spillwaylaw06_same.f k bt137.1 (([0, (-1), 1, (-1), 2, (-1), 3, 0] : List Int))).bind fun t144 => (some t144)) else (some false)) else (some false)) else (some false)) else (some false)))) = some r := h
  clear h
  replace H := Option.bind_eq_some_iff.mp H
  obtain ⟨⟨t134, t135, t136⟩, A10, H⟩ := H
  replace H : ((spillwaylaw06_pairs.f 2 2 1 2 2 1 1 1 1 0 0 0 9).bind fun bt137 => (if t134 = 4 then (if t135 = 4 then (if t136 = 0 then (if bt137.2 = true then ((spillwaylaw06_same.f k bt137.1 (([0, (-1), 1, (-1), 2, (-1), 3, 0] : List Int))).bind fun t144 => (some t144)) else (some false)) else (some false)) else (some false)) else (some false))) = some r := H
  have A1 := Aside0.mk A10
  clear A10
  replace H := Option.bind_eq_some_iff.mp H
  obtain ⟨⟨t137, t140⟩, A20, H⟩ := H
  replace H : (if t134 = 4 then (if t135 = 4 then (if t136 = 0 then (if t140 = true then ((spillwaylaw06_same.f k t137 (([0, (-1), 1, (-1), 2, (-1), 3, 0] : List Int))).bind fun t144 => (some t144)) else (some false)) else (some false)) else (some false)) else (some false)) = some r := H
  have A2 := Aside0.mk A20
  clear A20
  by_cases c3 : t134 = 4
  · rw [if_pos c3] at H
    have c3b0 : (t134 == 4) = true := beq_iff_eq.mpr c3
    have c3b1 : (t134 != 4) = false := bne_eq_false_iff_eq.mpr c3
    clear c3
    by_cases c4 : t135 = 4
    · rw [if_pos c4] at H
      have c4b0 : (t135 == 4) = true := beq_iff_eq.mpr c4
      have c4b1 : (t135 != 4) = false := bne_eq_false_iff_eq.mpr c4
      clear c4
      by_cases c5 : t136 = 0
      · rw [if_pos c5] at H
        have c5b0 : (t136 == 0) = true := beq_iff_eq.mpr c5
        have c5b1 : (t136 != 0) = false := bne_eq_false_iff_eq.mpr c5
        clear c5
        by_cases c6 : t140 = true
        · subst c6
          have H1 : ((spillwaylaw06_same.f k t137 (([0, (-1), 1, (-1), 2, (-1), 3, 0] : List Int))).bind fun t144 => (some t144)) = some r := by rw [if_pos rfl] at H; exact H
          clear H
          have H := H1
          clear H1
          obtain ⟨y141, hy141⟩ : ∃ y_ : List Int, y_ = (([0, (-1), 1, (-1), 2, (-1), 3, 0] : List Int)) := ⟨_, rfl⟩
          replace H : ((spillwaylaw06_same.f k t137 y141).bind fun t144 => (some t144)) = some r := by first | (rw [hy141]; with_reducible exact H) | (have H2_ := (Option.bind_some _ _).symm.trans H; rw [hy141]; with_reducible exact H2_) | (have H2_ := (Option.bind_some _ _).symm.trans H; with_reducible exact H2_) | with_reducible exact H | (rw [hy141]; exact H) | exact H
          have Ny141 := Aside0.mk hy141
          clear hy141
          replace H := Option.bind_eq_some_iff.mp H
          obtain ⟨t144, A70, H⟩ := H
          replace H : (some t144) = some r := H
          have A7 := Aside0.mk A70
          clear A70
          obtain rfl := Option.some.inj H
          go_enter Try.func16, Try.ntmps16
          go_wp2_with (first | ((with_reducible refine gate_callee (f := 14) rfl ?_); refine goesL_ (some 9) rfl rfl Try.func14 (by kernel_rfl) rfl #[.agg #[.int .i64 4, .int .i64 4, .int .i64 1], .agg #[.int .i64 3, .int .i64 3, .int .i64 1, .int .i64 1, .int .i64 1, .int .i64 1, .int .i64 1, .int .i64 1]] rfl (by (try simp only [List.map_toArray, List.map_cons, List.map_nil]); first | done | rfl | (simp only [List.length_drop, List.length_take]; rfl)) ?_; (with_reducible refine (window_Out.calls 4 4 1 3 3 1 1 1 1 1 1 t134 t135 t136 _ A1.out).mono ?_); rintro e w8 ⟨rfl, hb⟩; refine ⟨_, rfl, ?_⟩; have n0_ := Aside0.mk (below_step (by repeat (first | (with_reducible first | exact HB.out | apply below_alloc | apply pw_below_drewN | apply below_drew1) | exact HB.out)) hb); clear HB; have HB := n0_; clear n0_; (try clear hb); (try clear hb2); (try clear hk); (try clear hi)) | ((with_reducible refine gate_callee (f := 22) rfl ?_); refine goesL_ (some 16) rfl rfl Try.func22 (by kernel_rfl) rfl #[.agg #[.int .i64 2, .int .i64 2, .int .i64 1], .agg #[.int .i64 2, .int .i64 2, .int .i64 1, .int .i64 1, .int .i64 1, .int .i64 1, .int .i64 0, .int .i64 0], .int .i64 0, .int .i64 9] rfl (by (try simp only [List.map_toArray, List.map_cons, List.map_nil]); first | done | rfl | (simp only [List.length_drop, List.length_take]; rfl)) ?_; (with_reducible refine (spillwaylaw06_pairs.calls 2 2 1 2 2 1 1 1 1 0 0 0 9 t137 true _ A2.out).mono ?_); rintro e w9 ⟨v138, rfl, ho0, hb⟩; refine ⟨_, rfl, ?_⟩; have n0_ := Aside0.mk (Kd.R_lower ho0 (below_size (by repeat (first | (with_reducible first | exact HB.out | apply below_alloc | apply pw_below_drewN | apply below_drew1) | exact HB.out)))); have n1_ := Aside0.mk (below_step (by repeat (first | (with_reducible first | exact HB.out | apply below_alloc | apply pw_below_drewN | apply below_drew1) | exact HB.out)) hb); clear HB; have HO139 := n0_; have HB := n1_; clear n0_ n1_; (try clear hb); (try clear hb2); (try clear hk); (try clear hi); (try clear ho0)) | ((with_reducible refine gate_dst (N := 34) rfl ?_); (try (refine gate_guard (by rfl) ?_; dsimp only)); refine Kd.R_lit (Kd.int .i64) _ 3 ?hg (N := 34) ?hd (xs := ([0, (-1), 1, (-1), 2, (-1), 3, 0] : List Int)) (inner := [.int .i64 0, .int .i64 (-1), .int .i64 1, .int .i64 (-1), .int .i64 2, .int .i64 (-1), .int .i64 3, .int .i64 0]) (ok := fun _ => True) (okp := fun _ => True) ?hr ?hp (fun _ hk => hk) trivial (Below.refl _ _) (Nat.le_refl _) (by simp) ?_; (case hd => rfl); (case hg => rfl); (case hr => first | (go_simp; done) | (go_simp; rfl)); (case hp => exact (Reps.one (show Kd.M (Kd.int .i64) _ _ _ 0 [.int .i64 0] from rfl) (Reps.one (show Kd.M (Kd.int .i64) _ _ _ (-1) [.int .i64 (-1)] from rfl) (Reps.one (show Kd.M (Kd.int .i64) _ _ _ 1 [.int .i64 1] from rfl) (Reps.one (show Kd.M (Kd.int .i64) _ _ _ (-1) [.int .i64 (-1)] from rfl) (Reps.one (show Kd.M (Kd.int .i64) _ _ _ 2 [.int .i64 2] from rfl) (Reps.one (show Kd.M (Kd.int .i64) _ _ _ (-1) [.int .i64 (-1)] from rfl) (Reps.one (show Kd.M (Kd.int .i64) _ _ _ 3 [.int .i64 3] from rfl) (Reps.one (show Kd.M (Kd.int .i64) _ _ _ 0 [.int .i64 0] from rfl) (Reps.none _ _)))))))))); intro v142 w10 ho11 hb hg_ hnew_; clear hg_ hnew_; (first | rw [← Ny141.out] at ho11 | (simp only [Int.reduceToNat] at ho11; rw [← Ny141.out] at ho11)); have n0_ := Aside0.mk (Kd.R_elder' (by (with_reducible repeat (first | apply Kd.R_alloc | apply Kd.R_drewN | apply Kd.R_drew)); exact HO139.out) (Kd.R_base ho11) hb); have n1_ := Aside0.mk (Kd.R_lower (Kd.R_new' ho11 (Kd.R_lt (by (with_reducible repeat (first | apply Kd.R_alloc | apply Kd.R_drewN | apply Kd.R_drew)); exact HO139.out))) (below_size (by repeat (first | (with_reducible first | exact HB.out | apply below_alloc | apply pw_below_drewN | apply below_drew1) | exact HB.out)))); have n2_ := Aside0.mk (below_step (by repeat (first | (with_reducible first | exact HB.out | apply below_alloc | apply pw_below_drewN | apply below_drew1) | exact HB.out)) hb); clear HO139; clear HB; have HO139 := n0_; have HO143 := n1_; have HB := n2_; clear n0_ n1_ n2_; clear hb ho11; obtain ⟨Ao12, co12, eo12⟩ := Kd.R_slice HO139.out; subst eo12; obtain ⟨Ao13, co13, eo13⟩ := Kd.R_slice HO143.out; subst eo13) | (go_at_call 23; (with_reducible refine (spillwaylaw06_same.calls k _ _ t137 _ _ y141 t144 _ ?side1 ?side2 ?side3 ?side4 A7.out).mono ?_); (case side1 => repeat (first | exact (Kd.R_reads' HO139.out).2.2 | (with_reducible refine Kd.C_alloc ?_ _) | (with_reducible refine Kd.C_drewN ?_ _) | (with_reducible refine Kd.C_drew ?_))); (case side2 => exact (Kd.R_reads' HO139.out).2.1); (case side3 => repeat (first | exact (Kd.R_reads' HO143.out).2.2 | (with_reducible refine Kd.C_alloc ?_ _) | (with_reducible refine Kd.C_drewN ?_ _) | (with_reducible refine Kd.C_drew ?_))); (case side4 => exact (Kd.R_reads' HO143.out).2.1); rintro e w' ⟨rfl, ⟨nd, rfl⟩⟩))
          go_ret
          exact ⟨by first | rfl | (simp [errW_none, errW_some] <;> rfl) | (simp [*, errW_none, errW_some] <;> rfl), by repeat (first | (with_reducible first | exact HB.out | apply below_alloc | apply pw_below_drewN | apply below_drew1) | exact HB.out)⟩
        · replace c6 := Bool.eq_false_iff.mpr c6
          subst c6
          have H1 : (some false) = some r := by rw [if_neg (show ¬ (false = true) by decide)] at H; exact H
          clear H
          have H := H1
          clear H1
          obtain rfl := Option.some.inj H
          go_enter Try.func16, Try.ntmps16
          go_wp2_with (first | ((with_reducible refine gate_callee (f := 14) rfl ?_); refine goesL_ (some 9) rfl rfl Try.func14 (by kernel_rfl) rfl #[.agg #[.int .i64 4, .int .i64 4, .int .i64 1], .agg #[.int .i64 3, .int .i64 3, .int .i64 1, .int .i64 1, .int .i64 1, .int .i64 1, .int .i64 1, .int .i64 1]] rfl (by (try simp only [List.map_toArray, List.map_cons, List.map_nil]); first | done | rfl | (simp only [List.length_drop, List.length_take]; rfl)) ?_; (with_reducible refine (window_Out.calls 4 4 1 3 3 1 1 1 1 1 1 t134 t135 t136 _ A1.out).mono ?_); rintro e w14 ⟨rfl, hb⟩; refine ⟨_, rfl, ?_⟩; have n0_ := Aside0.mk (below_step (by repeat (first | (with_reducible first | exact HB.out | apply below_alloc | apply pw_below_drewN | apply below_drew1) | exact HB.out)) hb); clear HB; have HB := n0_; clear n0_; (try clear hb); (try clear hb2); (try clear hk); (try clear hi)) | ((with_reducible refine gate_callee (f := 22) rfl ?_); refine goesL_ (some 16) rfl rfl Try.func22 (by kernel_rfl) rfl #[.agg #[.int .i64 2, .int .i64 2, .int .i64 1], .agg #[.int .i64 2, .int .i64 2, .int .i64 1, .int .i64 1, .int .i64 1, .int .i64 1, .int .i64 0, .int .i64 0], .int .i64 0, .int .i64 9] rfl (by (try simp only [List.map_toArray, List.map_cons, List.map_nil]); first | done | rfl | (simp only [List.length_drop, List.length_take]; rfl)) ?_; (with_reducible refine (spillwaylaw06_pairs.calls 2 2 1 2 2 1 1 1 1 0 0 0 9 t137 false _ A2.out).mono ?_); rintro e w15 ⟨v138, rfl, ho0, hb⟩; refine ⟨_, rfl, ?_⟩; have n0_ := Aside0.mk (Kd.R_lower ho0 (below_size (by repeat (first | (with_reducible first | exact HB.out | apply below_alloc | apply pw_below_drewN | apply below_drew1) | exact HB.out)))); have n1_ := Aside0.mk (below_step (by repeat (first | (with_reducible first | exact HB.out | apply below_alloc | apply pw_below_drewN | apply below_drew1) | exact HB.out)) hb); clear HB; have HO139 := n0_; have HB := n1_; clear n0_ n1_; (try clear hb); (try clear hb2); (try clear hk); (try clear hi); (try clear ho0)))
          go_ret
          exact ⟨by first | rfl | (simp [errW_none, errW_some] <;> rfl) | (simp [*, errW_none, errW_some] <;> rfl), by repeat (first | (with_reducible first | exact HB.out | apply below_alloc | apply pw_below_drewN | apply below_drew1) | exact HB.out)⟩
      · rw [if_neg c5] at H
        have c5b0 : (t136 == 0) = false := beq_eq_false_iff_ne.mpr c5
        have c5b1 : (t136 != 0) = true := bne_iff_ne.mpr c5
        obtain rfl := Option.some.inj H
        go_enter Try.func16, Try.ntmps16
        go_wp2_with (first | ((with_reducible refine gate_callee (f := 14) rfl ?_); refine goesL_ (some 9) rfl rfl Try.func14 (by kernel_rfl) rfl #[.agg #[.int .i64 4, .int .i64 4, .int .i64 1], .agg #[.int .i64 3, .int .i64 3, .int .i64 1, .int .i64 1, .int .i64 1, .int .i64 1, .int .i64 1, .int .i64 1]] rfl (by (try simp only [List.map_toArray, List.map_cons, List.map_nil]); first | done | rfl | (simp only [List.length_drop, List.length_take]; rfl)) ?_; (with_reducible refine (window_Out.calls 4 4 1 3 3 1 1 1 1 1 1 t134 t135 t136 _ A1.out).mono ?_); rintro e w16 ⟨rfl, hb⟩; refine ⟨_, rfl, ?_⟩; have n0_ := Aside0.mk (below_step (by repeat (first | (with_reducible first | exact HB.out | apply below_alloc | apply pw_below_drewN | apply below_drew1) | exact HB.out)) hb); clear HB; have HB := n0_; clear n0_; (try clear hb); (try clear hb2); (try clear hk); (try clear hi)) | ((with_reducible refine gate_callee (f := 22) rfl ?_); refine goesL_ (some 16) rfl rfl Try.func22 (by kernel_rfl) rfl #[.agg #[.int .i64 2, .int .i64 2, .int .i64 1], .agg #[.int .i64 2, .int .i64 2, .int .i64 1, .int .i64 1, .int .i64 1, .int .i64 1, .int .i64 0, .int .i64 0], .int .i64 0, .int .i64 9] rfl (by (try simp only [List.map_toArray, List.map_cons, List.map_nil]); first | done | rfl | (simp only [List.length_drop, List.length_take]; rfl)) ?_; (with_reducible refine (spillwaylaw06_pairs.calls 2 2 1 2 2 1 1 1 1 0 0 0 9 t137 t140 _ A2.out).mono ?_); rintro e w17 ⟨v138, rfl, ho0, hb⟩; refine ⟨_, rfl, ?_⟩; have n0_ := Aside0.mk (Kd.R_lower ho0 (below_size (by repeat (first | (with_reducible first | exact HB.out | apply below_alloc | apply pw_below_drewN | apply below_drew1) | exact HB.out)))); have n1_ := Aside0.mk (below_step (by repeat (first | (with_reducible first | exact HB.out | apply below_alloc | apply pw_below_drewN | apply below_drew1) | exact HB.out)) hb); clear HB; have HO139 := n0_; have HB := n1_; clear n0_ n1_; (try clear hb); (try clear hb2); (try clear hk); (try clear hi); (try clear ho0)))
        go_ret
        exact ⟨by first | rfl | (simp [errW_none, errW_some] <;> rfl) | (simp [*, errW_none, errW_some] <;> rfl), by repeat (first | (with_reducible first | exact HB.out | apply below_alloc | apply pw_below_drewN | apply below_drew1) | exact HB.out)⟩
    · rw [if_neg c4] at H
      have c4b0 : (t135 == 4) = false := beq_eq_false_iff_ne.mpr c4
      have c4b1 : (t135 != 4) = true := bne_iff_ne.mpr c4
      obtain rfl := Option.some.inj H
      go_enter Try.func16, Try.ntmps16
      go_wp2_with (first | ((with_reducible refine gate_callee (f := 14) rfl ?_); refine goesL_ (some 9) rfl rfl Try.func14 (by kernel_rfl) rfl #[.agg #[.int .i64 4, .int .i64 4, .int .i64 1], .agg #[.int .i64 3, .int .i64 3, .int .i64 1, .int .i64 1, .int .i64 1, .int .i64 1, .int .i64 1, .int .i64 1]] rfl (by (try simp only [List.map_toArray, List.map_cons, List.map_nil]); first | done | rfl | (simp only [List.length_drop, List.length_take]; rfl)) ?_; (with_reducible refine (window_Out.calls 4 4 1 3 3 1 1 1 1 1 1 t134 t135 t136 _ A1.out).mono ?_); rintro e w18 ⟨rfl, hb⟩; refine ⟨_, rfl, ?_⟩; have n0_ := Aside0.mk (below_step (by repeat (first | (with_reducible first | exact HB.out | apply below_alloc | apply pw_below_drewN | apply below_drew1) | exact HB.out)) hb); clear HB; have HB := n0_; clear n0_; (try clear hb); (try clear hb2); (try clear hk); (try clear hi)) | ((with_reducible refine gate_callee (f := 22) rfl ?_); refine goesL_ (some 16) rfl rfl Try.func22 (by kernel_rfl) rfl #[.agg #[.int .i64 2, .int .i64 2, .int .i64 1], .agg #[.int .i64 2, .int .i64 2, .int .i64 1, .int .i64 1, .int .i64 1, .int .i64 1, .int .i64 0, .int .i64 0], .int .i64 0, .int .i64 9] rfl (by (try simp only [List.map_toArray, List.map_cons, List.map_nil]); first | done | rfl | (simp only [List.length_drop, List.length_take]; rfl)) ?_; (with_reducible refine (spillwaylaw06_pairs.calls 2 2 1 2 2 1 1 1 1 0 0 0 9 t137 t140 _ A2.out).mono ?_); rintro e w19 ⟨v138, rfl, ho0, hb⟩; refine ⟨_, rfl, ?_⟩; have n0_ := Aside0.mk (Kd.R_lower ho0 (below_size (by repeat (first | (with_reducible first | exact HB.out | apply below_alloc | apply pw_below_drewN | apply below_drew1) | exact HB.out)))); have n1_ := Aside0.mk (below_step (by repeat (first | (with_reducible first | exact HB.out | apply below_alloc | apply pw_below_drewN | apply below_drew1) | exact HB.out)) hb); clear HB; have HO139 := n0_; have HB := n1_; clear n0_ n1_; (try clear hb); (try clear hb2); (try clear hk); (try clear hi); (try clear ho0)))
      go_ret
      exact ⟨by first | rfl | (simp [errW_none, errW_some] <;> rfl) | (simp [*, errW_none, errW_some] <;> rfl), by repeat (first | (with_reducible first | exact HB.out | apply below_alloc | apply pw_below_drewN | apply below_drew1) | exact HB.out)⟩
  · rw [if_neg c3] at H
    have c3b0 : (t134 == 4) = false := beq_eq_false_iff_ne.mpr c3
    have c3b1 : (t134 != 4) = true := bne_iff_ne.mpr c3
    obtain rfl := Option.some.inj H
    go_enter Try.func16, Try.ntmps16
    go_wp2_with (first | ((with_reducible refine gate_callee (f := 14) rfl ?_); refine goesL_ (some 9) rfl rfl Try.func14 (by kernel_rfl) rfl #[.agg #[.int .i64 4, .int .i64 4, .int .i64 1], .agg #[.int .i64 3, .int .i64 3, .int .i64 1, .int .i64 1, .int .i64 1, .int .i64 1, .int .i64 1, .int .i64 1]] rfl (by (try simp only [List.map_toArray, List.map_cons, List.map_nil]); first | done | rfl | (simp only [List.length_drop, List.length_take]; rfl)) ?_; (with_reducible refine (window_Out.calls 4 4 1 3 3 1 1 1 1 1 1 t134 t135 t136 _ A1.out).mono ?_); rintro e w20 ⟨rfl, hb⟩; refine ⟨_, rfl, ?_⟩; have n0_ := Aside0.mk (below_step (by repeat (first | (with_reducible first | exact HB.out | apply below_alloc | apply pw_below_drewN | apply below_drew1) | exact HB.out)) hb); clear HB; have HB := n0_; clear n0_; (try clear hb); (try clear hb2); (try clear hk); (try clear hi)) | ((with_reducible refine gate_callee (f := 22) rfl ?_); refine goesL_ (some 16) rfl rfl Try.func22 (by kernel_rfl) rfl #[.agg #[.int .i64 2, .int .i64 2, .int .i64 1], .agg #[.int .i64 2, .int .i64 2, .int .i64 1, .int .i64 1, .int .i64 1, .int .i64 1, .int .i64 0, .int .i64 0], .int .i64 0, .int .i64 9] rfl (by (try simp only [List.map_toArray, List.map_cons, List.map_nil]); first | done | rfl | (simp only [List.length_drop, List.length_take]; rfl)) ?_; (with_reducible refine (spillwaylaw06_pairs.calls 2 2 1 2 2 1 1 1 1 0 0 0 9 t137 t140 _ A2.out).mono ?_); rintro e w21 ⟨v138, rfl, ho0, hb⟩; refine ⟨_, rfl, ?_⟩; have n0_ := Aside0.mk (Kd.R_lower ho0 (below_size (by repeat (first | (with_reducible first | exact HB.out | apply below_alloc | apply pw_below_drewN | apply below_drew1) | exact HB.out)))); have n1_ := Aside0.mk (below_step (by repeat (first | (with_reducible first | exact HB.out | apply below_alloc | apply pw_below_drewN | apply below_drew1) | exact HB.out)) hb); clear HB; have HO139 := n0_; have HB := n1_; clear n0_ n1_; (try clear hb); (try clear hb2); (try clear hk); (try clear hi); (try clear ho0)))
    go_ret
    exact ⟨by first | rfl | (simp [errW_none, errW_some] <;> rfl) | (simp [*, errW_none, errW_some] <;> rfl), by repeat (first | (with_reducible first | exact HB.out | apply below_alloc | apply pw_below_drewN | apply below_drew1) | exact HB.out)⟩

end Go.Proofs.Ytnbhimgojnclbaa.CWowOuts
