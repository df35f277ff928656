-- PRINTED by print.py (a twelfth state) out of the translation. Not trusted: Lean checks it.
import Derived.Test.YthjfmgdldjbkgaaCFMeanOfx0
import Derived.Test.YthjfmgdldjbkgaaCFMeanOfx1
import Derived.Test.YthjfmgdldjbkgaaCFMeanOfx2
import Derived.Test.YthjfmgdldjbkgaaCFMeanOfx3
namespace Go.Proofs.Ythjfmgdldjbkgaa.CFMeanOf
open Go.RowKit Go.Proofs.YthjfmgdldjbkgaaW.PrintWords Go.Proofs.YthjfmgdldjbkgaaW.PrintLast Go.Proofs.YthjfmgdldjbkgaaW.PrintMore
attribute [local go_sem] max2_int min2_int max_two min_two max_three min_three max_four min_four   -- for this text's walks alone
set_option linter.unusedVariables false
set_option linter.unusedSimpArgs false

/-! ### spillwaylaw02_FixqMeanOf: function 15 -/
mutual
def spillwaylaw02_FixqMeanOf.j0 : Nat → Int → Int → Int → Bool → Option (Bool)
  | 0, _, _, _, _ => none
  | k + 1, x0, x1, x2, x30 => if x30 = true then ((fixq_Mean.f k (wrap64 (x0 * x1)) x1).bind fun bt128 => ((fixq_Mean.f k x0 x1).bind fun bt130 => (if bt128.2 = 0 then (if bt130.2 = 0 then (if bt128.1 = x0 then (if x1 = 0 then (none) else (if (wrap64 (bt130.1 - (wrap64 (Int.tdiv x0 x1)))) > 1 then (some false) else (if (wrap64 ((wrap64 (Int.tdiv x0 x1)) - bt130.1)) > 1 then (some false) else (spillwaylaw02_FixqMeanOf.j1 k x0 x2)))) else (some false)) else (some false)) else (some false)))) else (spillwaylaw02_FixqMeanOf.j1 k x0 x2)
def spillwaylaw02_FixqMeanOf.j1 : Nat → Int → Int → Option (Bool)
  | 0, _, _ => none
  | k + 1, x0, x2 => if x2 < 0 then (spillwaylaw02_FixqMeanOf.j2 k x0 x2 true) else (spillwaylaw02_FixqMeanOf.j2 k x0 x2 (decide (x2 > 60)))
def spillwaylaw02_FixqMeanOf.j2 : Nat → Int → Int → Bool → Option (Bool)
  | 0, _, _, _ => none
  | k + 1, x0, x2, x77 => if x77 = true then (some true) else ((fixq_Shift.f k x0 x2).bind fun bt132 => (if 0 ≤ (IntKind.u64.wrap (x2)) then ((fixq_Mean.f k x0 (shl .i64 1 (IntKind.u64.wrap (x2)))).bind fun bt134 => (if bt132.2 = 0 then (if bt134.2 = 0 then (some (bt132.1 == bt134.1)) else (some false)) else (some false))) else (none)))
end
def spillwaylaw02_FixqMeanOf.f (k : Nat) (a0 : Int) (a1 : Int) (a2 : Int) : Option (Bool) := (spillwaylaw02_fixed.f k).bind fun t127 => (if t127 = true then (if a1 ≥ 1 then (if a1 ≤ 1048576 then (if a0 ≥ (-1099511627776) then (spillwaylaw02_FixqMeanOf.j0 k a0 a1 a2 (decide (a0 ≤ 1099511627776))) else (spillwaylaw02_FixqMeanOf.j0 k a0 a1 a2 false)) else (spillwaylaw02_FixqMeanOf.j0 k a0 a1 a2 false)) else (spillwaylaw02_FixqMeanOf.j0 k a0 a1 a2 false)) else (some false))
theorem spillwaylaw02_FixqMeanOf.mono_l : ∀ k, (∀ y0 y1 y2 y3, LeO (spillwaylaw02_FixqMeanOf.j0 k y0 y1 y2 y3) (spillwaylaw02_FixqMeanOf.j0 (k + 1) y0 y1 y2 y3)) ∧ (∀ y0 y1, LeO (spillwaylaw02_FixqMeanOf.j1 k y0 y1) (spillwaylaw02_FixqMeanOf.j1 (k + 1) y0 y1)) ∧ (∀ y0 y1 y2, LeO (spillwaylaw02_FixqMeanOf.j2 k y0 y1 y2) (spillwaylaw02_FixqMeanOf.j2 (k + 1) y0 y1 y2))
  | 0 => ⟨fun _ _ _ _ r h => by simp [spillwaylaw02_FixqMeanOf.j0] at h, fun _ _ r h => by simp [spillwaylaw02_FixqMeanOf.j1] at h, fun _ _ _ r h => by simp [spillwaylaw02_FixqMeanOf.j2] at h⟩
  | k + 1 => by
    obtain ⟨ih0, ih1, ih2⟩ := spillwaylaw02_FixqMeanOf.mono_l k
    refine ⟨?_, ?_, ?_⟩
    · intro y0 y1 y2 y3
      unfold spillwaylaw02_FixqMeanOf.j0
      repeat' first
      | (with_reducible exact ih0 _ _ _ _)
      | (with_reducible exact ih1 _ _)
      | (with_reducible exact ih2 _ _ _)
      | (with_reducible exact fixq_Mean.mono _ _ _)
      | (with_reducible exact fixq_Shift.mono _ _ _)
      | (with_reducible exact spillwaylaw02_fixed.mono _)
      | (with_reducible exact LeO.refl _)
      | (with_reducible exact LeO.none _)
      | (with_reducible refine LeO.ite ?_ ?_)
      | (with_reducible refine LeO.bind ?_ (fun _ => ?_))
      | exact ih0 _ _ _ _
      | exact ih1 _ _
      | exact ih2 _ _ _
      | exact fixq_Mean.mono _ _ _
      | exact fixq_Shift.mono _ _ _
      | exact spillwaylaw02_fixed.mono _
      | exact LeO.none _
      | refine LeO.ite ?_ ?_
      | refine LeO.bind ?_ (fun _ => ?_)
    · intro y0 y1
      unfold spillwaylaw02_FixqMeanOf.j1
      repeat' first
      | (with_reducible exact ih0 _ _ _ _)
      | (with_reducible exact ih1 _ _)
      | (with_reducible exact ih2 _ _ _)
      | (with_reducible exact fixq_Mean.mono _ _ _)
      | (with_reducible exact fixq_Shift.mono _ _ _)
      | (with_reducible exact spillwaylaw02_fixed.mono _)
      | (with_reducible exact LeO.refl _)
      | (with_reducible exact LeO.none _)
      | (with_reducible refine LeO.ite ?_ ?_)
      | (with_reducible refine LeO.bind ?_ (fun _ => ?_))
      | exact ih0 _ _ _ _
      | exact ih1 _ _
      | exact ih2 _ _ _
      | exact fixq_Mean.mono _ _ _
      | exact fixq_Shift.mono _ _ _
      | exact spillwaylaw02_fixed.mono _
      | exact LeO.none _
      | refine LeO.ite ?_ ?_
      | refine LeO.bind ?_ (fun _ => ?_)
    · intro y0 y1 y2
      unfold spillwaylaw02_FixqMeanOf.j2
      repeat' first
      | (with_reducible exact ih0 _ _ _ _)
      | (with_reducible exact ih1 _ _)
      | (with_reducible exact ih2 _ _ _)
      | (with_reducible exact fixq_Mean.mono _ _ _)
      | (with_reducible exact fixq_Shift.mono _ _ _)
      | (with_reducible exact spillwaylaw02_fixed.mono _)
      | (with_reducible exact LeO.refl _)
      | (with_reducible exact LeO.none _)
      | (with_reducible refine LeO.ite ?_ ?_)
      | (with_reducible refine LeO.bind ?_ (fun _ => ?_))
      | exact ih0 _ _ _ _
      | exact ih1 _ _
      | exact ih2 _ _ _
      | exact fixq_Mean.mono _ _ _
      | exact fixq_Shift.mono _ _ _
      | exact spillwaylaw02_fixed.mono _
      | exact LeO.none _
      | refine LeO.ite ?_ ?_
      | refine LeO.bind ?_ (fun _ => ?_)
theorem spillwaylaw02_FixqMeanOf.mono : ∀ a0 a1 a2 k, LeO (spillwaylaw02_FixqMeanOf.f k a0 a1 a2) (spillwaylaw02_FixqMeanOf.f (k + 1) a0 a1 a2) := by
  intro a0 a1 a2 k
  obtain ⟨ih0, ih1, ih2⟩ := spillwaylaw02_FixqMeanOf.mono_l k
  unfold spillwaylaw02_FixqMeanOf.f
  repeat' first
      | (with_reducible exact ih0 _ _ _ _)
      | (with_reducible exact ih1 _ _)
      | (with_reducible exact ih2 _ _ _)
      | (with_reducible exact fixq_Mean.mono _ _ _)
      | (with_reducible exact fixq_Shift.mono _ _ _)
      | (with_reducible exact spillwaylaw02_fixed.mono _)
      | (with_reducible exact LeO.refl _)
      | (with_reducible exact LeO.none _)
      | (with_reducible refine LeO.ite ?_ ?_)
      | (with_reducible refine LeO.bind ?_ (fun _ => ?_))
      | exact ih0 _ _ _ _
      | exact ih1 _ _
      | exact ih2 _ _ _
      | exact fixq_Mean.mono _ _ _
      | exact fixq_Shift.mono _ _ _
      | exact spillwaylaw02_fixed.mono _
      | exact LeO.none _
      | refine LeO.ite ?_ ?_
      | refine LeO.bind ?_ (fun _ => ?_)
set_option maxHeartbeats 8000000 in
set_option maxRecDepth 100000 in
theorem spillwaylaw02_FixqMeanOf.calls (k : Nat) (a0 : Int) (a1 : Int) (a2 : Int) (r : Bool) (w : World) (hrt : r = true) (h : spillwaylaw02_FixqMeanOf.f k a0 a1 a2 = some r) :
    Calls Try.prog 15 #[.int .i64 a0, .int .i64 a1, .int .i64 a2] w fun e w' => e = .returned (.bool r) ∧ Below w.heap.size w w' := by
  have HB := Aside0.mk (Below.refl w.heap.size w)
  have H : ((spillwaylaw02_fixed.f k).bind fun t127 => (if t127 = true then (if a1 ≥ 1 then (if a1 ≤ 1048576 then (if a0 ≥ (-1099511627776) then (spillwaylaw02_FixqMeanOf.j0 k a0 a1 a2 (decide (a0 ≤ 1099511627776))) else (spillwaylaw02_FixqMeanOf.j0 k a0 a1 a2 false)) else (spillwaylaw02_FixqMeanOf.j0 k a0 a1 a2 false)) else (spillwaylaw02_FixqMeanOf.j0 k a0 a1 a2 false)) else (some false))) = some r := h
  clear h
  have HRT := Aside0.mk hrt
  clear hrt
  replace H := Option.bind_eq_some_iff.mp H
  obtain ⟨t127, A40, H⟩ := H
  replace H : (if t127 = true then (if a1 ≥ 1 then (if a1 ≤ 1048576 then (if a0 ≥ (-1099511627776) then (spillwaylaw02_FixqMeanOf.j0 k a0 a1 a2 (decide (a0 ≤ 1099511627776))) else (spillwaylaw02_FixqMeanOf.j0 k a0 a1 a2 false)) else (spillwaylaw02_FixqMeanOf.j0 k a0 a1 a2 false)) else (spillwaylaw02_FixqMeanOf.j0 k a0 a1 a2 false)) else (some false)) = some r := H
  have A4 := Aside0.mk A40
  clear A40
  by_cases c5 : t127 = true
  · subst c5
    have H1 : (if a1 ≥ 1 then (if a1 ≤ 1048576 then (if a0 ≥ (-1099511627776) then (spillwaylaw02_FixqMeanOf.j0 k a0 a1 a2 (decide (a0 ≤ 1099511627776))) else (spillwaylaw02_FixqMeanOf.j0 k a0 a1 a2 false)) else (spillwaylaw02_FixqMeanOf.j0 k a0 a1 a2 false)) else (spillwaylaw02_FixqMeanOf.j0 k a0 a1 a2 false)) = some r := by rw [if_pos rfl] at H; exact H
    clear H
    have H := H1
    clear H1
    have HC6 := Aside0.mk H
    clear H
    go_enter Try.func15, Try.ntmps15
    go_upto_region 3 with (first | ((with_reducible refine gate_callee (f := 43) rfl ?_); refine goesL_ (some 15) rfl rfl Try.func43 (by kernel_rfl) rfl #[] rfl (by (try simp only [List.map_toArray, List.map_cons, List.map_nil]); first | done | rfl | (simp only [List.length_drop, List.length_take]; rfl)) ?_; (with_reducible refine (spillwaylaw02_fixed.calls k  true _ A4.out).mono ?_); rintro e w7 ⟨rfl, hb⟩; refine ⟨_, rfl, ?_⟩; have n0_ := Aside0.mk (below_step (by repeat (first | (with_reducible first | exact HB.out | apply below_alloc | apply pw_below_drewN | apply below_drew1) | exact HB.out)) hb); clear HB; have HB := n0_; clear n0_; (try clear hb); (try clear hb2); (try clear hk); (try clear hi)))
    (try simp only [Act.put, List.setIfInBounds_toArray, List.set_cons_zero, List.set_cons_succ])
    go_cut [30] (fun v30 wc => ∃ (kq : Nat) (x30_5 : Bool), v30 = .bool x30_5 ∧ Aside0 (spillwaylaw02_FixqMeanOf.j0 kq a0 a1 a2 x30_5 = some r) ∧ Aside0 (kq ≤ k) ∧ Aside0 (Below w.heap.size w wc))
    case first =>
      have H := HC6.out
      clear HC6
      by_cases c8 : a1 ≥ 1
      · rw [if_pos c8] at H
        have c8b0 : decide (1 ≤ a1) = true := decide_eq_true c8
        clear c8
        (first | rw [c8b0] | (simp only [i64_w, i32_w]; rw [c8b0]) | skip)
        by_cases c9 : a1 ≤ 1048576
        · rw [if_pos c9] at H
          have c9b0 : decide (a1 ≤ 1048576) = true := decide_eq_true c9
          clear c9
          by_cases c10 : a0 ≥ (-1099511627776)
          · rw [if_pos c10] at H
            have c10b0 : decide ((-1099511627776) ≤ a0) = true := decide_eq_true c10
            clear c10
            have H' := Aside0.mk H
            clear H
            go_wp2
            go_meet
            case rel => exact ⟨_, (decide (a0 ≤ 1099511627776)), (by first | rfl | (simp; done) | (simp [*]; done)), H', ⟨by first | omega | exact Nat.le_refl _⟩, ⟨by repeat (first | (with_reducible first | exact HB.out | apply below_alloc | apply pw_below_drewN | apply below_drew1) | exact HB.out)⟩⟩
          · rw [if_neg c10] at H
            have c10b0 : decide ((-1099511627776) ≤ a0) = false := decide_eq_false c10
            clear c10
            have H' := Aside0.mk H
            clear H
            go_wp2
            go_meet
            case rel => exact ⟨_, (false), (by first | rfl | (simp; done) | (simp [*]; done)), H', ⟨by first | omega | exact Nat.le_refl _⟩, ⟨by repeat (first | (with_reducible first | exact HB.out | apply below_alloc | apply pw_below_drewN | apply below_drew1) | exact HB.out)⟩⟩
        · rw [if_neg c9] at H
          have c9b0 : decide (a1 ≤ 1048576) = false := decide_eq_false c9
          clear c9
          have H' := Aside0.mk H
          clear H
          go_wp2
          go_meet
          case rel => exact ⟨_, (false), (by first | rfl | (simp; done) | (simp [*]; done)), H', ⟨by first | omega | exact Nat.le_refl _⟩, ⟨by repeat (first | (with_reducible first | exact HB.out | apply below_alloc | apply pw_below_drewN | apply below_drew1) | exact HB.out)⟩⟩
      · rw [if_neg c8] at H
        have c8b0 : decide (1 ≤ a1) = false := decide_eq_false c8
        clear c8
        (first | rw [c8b0] | (simp only [i64_w, i32_w]; rw [c8b0]) | skip)
        have H' := Aside0.mk H
        clear H
        go_wp2
        go_meet
        case rel => exact ⟨_, (false), (by first | rfl | (simp; done) | (simp [*]; done)), H', ⟨by first | omega | exact Nat.le_refl _⟩, ⟨by repeat (first | (with_reducible first | exact HB.out | apply below_alloc | apply pw_below_drewN | apply below_drew1) | exact HB.out)⟩⟩
    case rest =>
      clear HC6
      try clear c1
      try clear p2
      try clear c4
      try clear c5
      try clear c8
      try clear c8b0
      try clear c9
      try clear c9b0
      try clear c10
      try clear c10b0
      obtain ⟨kq, x30_5, rfl, HA, HJ5, HB⟩ := hcut
      cases kq with
      | zero => exact absurd HA.out (by simp [spillwaylaw02_FixqMeanOf.j0])
      | succ kj5 =>
        have H := HA.out
        clear HA
        simp only [spillwaylaw02_FixqMeanOf.j0] at H
        have HC11 := Aside0.mk H
        clear H
        go_upto_if 30 with (fail)
        go_cut [] (fun wc => ∃ (kq : Nat), Aside0 (spillwaylaw02_FixqMeanOf.j1 kq a0 a2 = some r) ∧ Aside0 (kq ≤ kj5) ∧ Aside0 (Below w.heap.size w wc))
        case first =>
          have H := HC11.out
          clear HC11
          by_cases c12 : x30_5 = true
          · subst c12
            have H1 : ((fixq_Mean.f kj5 (wrap64 (a0 * a1)) a1).bind fun bt128 => ((fixq_Mean.f kj5 a0 a1).bind fun bt130 => (if bt128.2 = 0 then (if bt130.2 = 0 then (if bt128.1 = a0 then (if a1 = 0 then (none) else (if (wrap64 (bt130.1 - (wrap64 (Int.tdiv a0 a1)))) > 1 then (some false) else (if (wrap64 ((wrap64 (Int.tdiv a0 a1)) - bt130.1)) > 1 then (some false) else (spillwaylaw02_FixqMeanOf.j1 kj5 a0 a2)))) else (some false)) else (some false)) else (some false)))) = some r := by rw [if_pos rfl] at H; exact H
            clear H
            have H := H1
            clear H1
            replace H := Option.bind_eq_some_iff.mp H
            obtain ⟨⟨t128, t129⟩, A130, H⟩ := H
            replace H : ((fixq_Mean.f kj5 a0 a1).bind fun bt130 => (if t129 = 0 then (if bt130.2 = 0 then (if t128 = a0 then (if a1 = 0 then (none) else (if (wrap64 (bt130.1 - (wrap64 (Int.tdiv a0 a1)))) > 1 then (some false) else (if (wrap64 ((wrap64 (Int.tdiv a0 a1)) - bt130.1)) > 1 then (some false) else (spillwaylaw02_FixqMeanOf.j1 kj5 a0 a2)))) else (some false)) else (some false)) else (some false))) = some r := H
            have A13 := Aside0.mk A130
            clear A130
            replace H := Option.bind_eq_some_iff.mp H
            obtain ⟨⟨t130, t131⟩, A140, H⟩ := H
            replace H : (if t129 = 0 then (if t131 = 0 then (if t128 = a0 then (if a1 = 0 then (none) else (if (wrap64 (t130 - (wrap64 (Int.tdiv a0 a1)))) > 1 then (some false) else (if (wrap64 ((wrap64 (Int.tdiv a0 a1)) - t130)) > 1 then (some false) else (spillwaylaw02_FixqMeanOf.j1 kj5 a0 a2)))) else (some false)) else (some false)) else (some false)) = some r := H
            have A14 := Aside0.mk A140
            clear A140
            by_cases c15 : t129 = 0
            · rw [if_pos c15] at H
              have c15b0 : (t129 == 0) = true := beq_iff_eq.mpr c15
              have c15b1 : (t129 != 0) = false := bne_eq_false_iff_eq.mpr c15
              clear c15
              (first | rw [c15b0] | (simp only [i64_w, i32_w]; rw [c15b0]) | skip)
              by_cases c16 : t131 = 0
              · rw [if_pos c16] at H
                have c16b0 : (t131 == 0) = true := beq_iff_eq.mpr c16
                have c16b1 : (t131 != 0) = false := bne_eq_false_iff_eq.mpr c16
                clear c16
                by_cases c17 : t128 = a0
                · rw [if_pos c17] at H
                  have c17b0 : (t128 == a0) = true := beq_iff_eq.mpr c17
                  have c17b1 : (t128 != a0) = false := bne_eq_false_iff_eq.mpr c17
                  clear c17
                  by_cases c18 : a1 = 0
                  · rw [if_pos c18] at H
                    exact absurd H (by simp)
                  · rw [if_neg c18] at H
                    have c18b0 : (a1 == 0) = false := beq_eq_false_iff_ne.mpr c18
                    have c18b1 : (a1 != 0) = true := bne_iff_ne.mpr c18
                    by_cases c19 : (wrap64 (t130 - (wrap64 (Int.tdiv a0 a1)))) > 1
                    · rw [if_pos c19] at H
                      have c19b0 : decide (1 < (wrap64 (t130 - (wrap64 (Int.tdiv a0 a1))))) = true := decide_eq_true c19
                      clear c19
                      exact absurd ((Option.some.inj H).trans HRT.out) Bool.false_ne_true
                    · rw [if_neg c19] at H
                      have c19b0 : decide (1 < (wrap64 (t130 - (wrap64 (Int.tdiv a0 a1))))) = false := decide_eq_false c19
                      clear c19
                      by_cases c20 : (wrap64 ((wrap64 (Int.tdiv a0 a1)) - t130)) > 1
                      · rw [if_pos c20] at H
                        have c20b0 : decide (1 < (wrap64 ((wrap64 (Int.tdiv a0 a1)) - t130))) = true := decide_eq_true c20
                        clear c20
                        exact absurd ((Option.some.inj H).trans HRT.out) Bool.false_ne_true
                      · rw [if_neg c20] at H
                        have c20b0 : decide (1 < (wrap64 ((wrap64 (Int.tdiv a0 a1)) - t130))) = false := decide_eq_false c20
                        clear c20
                        have H' := Aside0.mk H
                        clear H
                        go_wp2_with (first | ((with_reducible refine gate_callee (f := 48) rfl ?_); refine goesL_ (some 36) rfl rfl Try.func48 (by kernel_rfl) rfl #[.int .i64 (wrap64 (a0 * a1)), .int .i64 a1] rfl (by (try simp only [List.map_toArray, List.map_cons, List.map_nil]); first | done | rfl | (simp only [List.length_drop, List.length_take]; rfl)) ?_; (with_reducible refine (fixq_Mean.calls kj5 (wrap64 (a0 * a1)) a1 t128 t129 _ A13.out).mono ?_); rintro e w' ⟨rfl, ⟨nd, rfl⟩⟩; refine ⟨_, rfl, ?_⟩) | ((with_reducible refine gate_callee (f := 48) rfl ?_); refine goesL_ (some 42) rfl rfl Try.func48 (by kernel_rfl) rfl #[.int .i64 a0, .int .i64 a1] rfl (by (try simp only [List.map_toArray, List.map_cons, List.map_nil]); first | done | rfl | (simp only [List.length_drop, List.length_take]; rfl)) ?_; (with_reducible refine (fixq_Mean.calls kj5 a0 a1 t130 t131 _ A14.out).mono ?_); rintro e w' ⟨rfl, ⟨nd, rfl⟩⟩; refine ⟨_, rfl, ?_⟩))
                        go_meet
                        case rel => exact ⟨_, H', ⟨by have := HJ5.out; first | omega | exact Nat.le_refl _⟩, ⟨by repeat (first | (with_reducible first | exact HB.out | apply below_alloc | apply pw_below_drewN | apply below_drew1) | exact HB.out)⟩⟩
                · rw [if_neg c17] at H
                  have c17b0 : (t128 == a0) = false := beq_eq_false_iff_ne.mpr c17
                  have c17b1 : (t128 != a0) = true := bne_iff_ne.mpr c17
                  exact absurd ((Option.some.inj H).trans HRT.out) Bool.false_ne_true
              · rw [if_neg c16] at H
                have c16b0 : (t131 == 0) = false := beq_eq_false_iff_ne.mpr c16
                have c16b1 : (t131 != 0) = true := bne_iff_ne.mpr c16
                exact absurd ((Option.some.inj H).trans HRT.out) Bool.false_ne_true
            · rw [if_neg c15] at H
              have c15b0 : (t129 == 0) = false := beq_eq_false_iff_ne.mpr c15
              have c15b1 : (t129 != 0) = true := bne_iff_ne.mpr c15
              (first | rw [c15b0] | (simp only [i64_w, i32_w]; rw [c15b0]) | skip)
              exact absurd ((Option.some.inj H).trans HRT.out) Bool.false_ne_true
          · replace c12 := Bool.eq_false_iff.mpr c12
            subst c12
            have H1 : (spillwaylaw02_FixqMeanOf.j1 kj5 a0 a2) = some r := by rw [if_neg (show ¬ (false = true) by decide)] at H; exact H
            clear H
            have H := H1
            clear H1
            have H' := Aside0.mk H
            clear H
            go_wp2
            go_meet
            case rel => exact ⟨_, H', ⟨by have := HJ5.out; first | omega | exact Nat.le_refl _⟩, ⟨by repeat (first | (with_reducible first | exact HB.out | apply below_alloc | apply pw_below_drewN | apply below_drew1) | exact HB.out)⟩⟩
        case rest =>
          clear HC11
          try clear c1
          try clear c2
          try clear p2
          try clear c4
          try clear c5
          try clear p6
          try clear c8
          try clear c8b0
          try clear c9
          try clear c9b0
          try clear c10
          try clear c10b0
          try clear c12
          try clear c15
          try clear c15b0
          try clear c15b1
          try clear c16
          try clear c16b0
          try clear c16b1
          try clear c17
          try clear c17b0
          try clear c17b1
          try clear c18
          try clear c18b0
          try clear c18b1
          try clear c19
          try clear c19b0
          try clear c20
          try clear c20b0
          try clear p2
          obtain ⟨kq, HA, HJ10, HB⟩ := hcut
          cases kq with
          | zero => exact absurd HA.out (by simp [spillwaylaw02_FixqMeanOf.j1])
          | succ kj10 =>
            have H := HA.out
            clear HA
            simp only [spillwaylaw02_FixqMeanOf.j1] at H
            have HC21 := Aside0.mk H
            clear H
            go_upto_region 8 with (fail)
            go_cut [77] (fun v77 wc => ∃ (kq : Nat) (x77_20 : Bool), v77 = .bool x77_20 ∧ Aside0 (spillwaylaw02_FixqMeanOf.j2 kq a0 a2 x77_20 = some r) ∧ Aside0 (kq ≤ kj10) ∧ Aside0 (Below w.heap.size w wc))
            case first =>
              have H := HC21.out
              clear HC21
              by_cases c22 : a2 < 0
              · rw [if_pos c22] at H
                have c22b0 : decide (a2 < 0) = true := decide_eq_true c22
                clear c22
                (first | rw [c22b0] | (simp only [i64_w, i32_w]; rw [c22b0]) | skip)
                have H' := Aside0.mk H
                clear H
                go_wp2
                go_meet
                case rel => exact ⟨_, (true), (by first | rfl | (simp; done) | (simp [*]; done)), H', ⟨by have := HJ5.out; have := HJ10.out; first | omega | exact Nat.le_refl _⟩, ⟨by repeat (first | (with_reducible first | exact HB.out | apply below_alloc | apply pw_below_drewN | apply below_drew1) | exact HB.out)⟩⟩
              · rw [if_neg c22] at H
                have c22b0 : decide (a2 < 0) = false := decide_eq_false c22
                clear c22
                (first | rw [c22b0] | (simp only [i64_w, i32_w]; rw [c22b0]) | skip)
                have H' := Aside0.mk H
                clear H
                go_wp2
                go_meet
                case rel => exact ⟨_, (decide (a2 > 60)), (by first | rfl | (simp; done) | (simp [*]; done)), H', ⟨by have := HJ5.out; have := HJ10.out; first | omega | exact Nat.le_refl _⟩, ⟨by repeat (first | (with_reducible first | exact HB.out | apply below_alloc | apply pw_below_drewN | apply below_drew1) | exact HB.out)⟩⟩
            case rest =>
              clear HC21
              try clear c1
              try clear c2
              try clear p2
              try clear c4
              try clear c5
              try clear p6
              try clear c8
              try clear c8b0
              try clear c9
              try clear c9b0
              try clear c10
              try clear c10b0
              try clear c12
              try clear c15
              try clear c15b0
              try clear c15b1
              try clear c16
              try clear c16b0
              try clear c16b1
              try clear c17
              try clear c17b0
              try clear c17b1
              try clear c18
              try clear c18b0
              try clear c18b1
              try clear c19
              try clear c19b0
              try clear c20
              try clear c20b0
              try clear c22
              try clear c22b0
              try clear p2
              try clear p6
              obtain ⟨kq, x77_20, rfl, HA, HJ20, HB⟩ := hcut
              cases kq with
              | zero => exact absurd HA.out (by simp [spillwaylaw02_FixqMeanOf.j2])
              | succ kj20 =>
                have H := HA.out
                clear HA
                simp only [spillwaylaw02_FixqMeanOf.j2] at H
                by_cases c23 : x77_20 = true
                · subst c23
                  have H1 : (some true) = some r := by rw [if_pos rfl] at H; exact H
                  clear H
                  have H := H1
                  clear H1
                  obtain rfl := Option.some.inj H
                  go_wp2
                  go_ret
                  exact ⟨by first | rfl | (simp [errW_none, errW_some] <;> rfl) | (simp [*, errW_none, errW_some] <;> rfl), by repeat (first | (with_reducible first | exact HB.out | apply below_alloc | apply pw_below_drewN | apply below_drew1) | exact HB.out)⟩
                · replace c23 := Bool.eq_false_iff.mpr c23
                  subst c23
                  have H1 : ((fixq_Shift.f kj20 a0 a2).bind fun bt132 => (if 0 ≤ (IntKind.u64.wrap (a2)) then ((fixq_Mean.f kj20 a0 (shl .i64 1 (IntKind.u64.wrap (a2)))).bind fun bt134 => (if bt132.2 = 0 then (if bt134.2 = 0 then (some (bt132.1 == bt134.1)) else (some false)) else (some false))) else (none))) = some r := by rw [if_neg (show ¬ (false = true) by decide)] at H; exact H
                  clear H
                  have H := H1
                  clear H1
                  replace H := Option.bind_eq_some_iff.mp H
                  obtain ⟨⟨t132, t133⟩, A240, H⟩ := H
                  replace H : (if 0 ≤ (IntKind.u64.wrap (a2)) then ((fixq_Mean.f kj20 a0 (shl .i64 1 (IntKind.u64.wrap (a2)))).bind fun bt134 => (if t133 = 0 then (if bt134.2 = 0 then (some (t132 == bt134.1)) else (some false)) else (some false))) else (none)) = some r := H
                  have A24 := Aside0.mk A240
                  clear A240
                  obtain ⟨ji25, hji25⟩ : ∃ j_ : Int, (IntKind.u64.wrap (a2)) = j_ := ⟨_, rfl⟩
                  replace H : (if 0 ≤ (ji25) then ((fixq_Mean.f kj20 a0 (shl .i64 1 (ji25))).bind fun bt134 => (if t133 = 0 then (if bt134.2 = 0 then (some (t132 == bt134.1)) else (some false)) else (some false))) else (none)) = some r := by first | (rw [hji25] at H; exact H) | (simp only [hji25] at H ⊢; exact H)
                  (try rw [hji25] at A24)
                  by_cases c26 : 0 ≤ (ji25)
                  · rw [if_pos c26] at H
                    have c26b0 := eq_true c26
                    have c26b1 : decide (0 ≤ (ji25)) = true := decide_eq_true c26
                    clear c26
                    obtain ⟨ji27, hji27⟩ : ∃ j_ : Int, (shl .i64 1 (ji25)) = j_ := ⟨_, rfl⟩
                    replace H : ((fixq_Mean.f kj20 a0 (ji27)).bind fun bt134 => (if t133 = 0 then (if bt134.2 = 0 then (some (t132 == bt134.1)) else (some false)) else (some false))) = some r := by first | (rw [hji27] at H; exact H) | (simp only [hji27] at H ⊢; exact H)
                    (try rw [hji27] at A24)
                    have hji27_ : (IntKind.i64.wrap (1 * 2 ^ min (ji25).toNat 64)) = ji27 := hji27
                    have hji27z : (ji25) ≤ 64 → (IntKind.i64.wrap (1 * 2 ^ (ji25).toNat)) = ji27 := shl_small hji27
                    have hji27u : (IntKind.i64.wrap (2 ^ min (ji25).toNat 64)) = ji27 := by have h_ := hji27_; rw [Int.one_mul] at h_; exact h_
                    have hji27v : (ji25) ≤ 64 → (IntKind.i64.wrap (2 ^ (ji25).toNat)) = ji27 := fun hle_ => by have h_ := hji27z hle_; rw [Int.one_mul] at h_; exact h_
                    have hji27y : (wrap64 (1 * 2 ^ min (ji25).toNat 64)) = ji27 := (i64_w _).symm.trans hji27_
                    have hji27x : (ji25) ≤ 64 → (wrap64 (1 * 2 ^ (ji25).toNat)) = ji27 := fun h_ => (i64_w _).symm.trans (hji27z h_)
                    replace H := Option.bind_eq_some_iff.mp H
                    obtain ⟨⟨t134, t135⟩, A280, H⟩ := H
                    replace H : (if t133 = 0 then (if t135 = 0 then (some (t132 == t134)) else (some false)) else (some false)) = some r := H
                    have A28 := Aside0.mk A280
                    clear A280
                    by_cases c29 : t133 = 0
                    · rw [if_pos c29] at H
                      have c29b0 : (t133 == 0) = true := beq_iff_eq.mpr c29
                      have c29b1 : (t133 != 0) = false := bne_eq_false_iff_eq.mpr c29
                      clear c29
                      by_cases c30 : t135 = 0
                      · rw [if_pos c30] at H
                        have c30b0 : (t135 == 0) = true := beq_iff_eq.mpr c30
                        have c30b1 : (t135 != 0) = false := bne_eq_false_iff_eq.mpr c30
                        clear c30
                        obtain rfl := Option.some.inj H
                        go_wp2_with (first | ((with_reducible refine gate_callee (f := 46) rfl ?_); refine goesL_ (some 81) rfl rfl Try.func46 (by kernel_rfl) rfl #[.int .i64 a0, .int .i64 a2] rfl (by (try simp only [List.map_toArray, List.map_cons, List.map_nil]); first | done | rfl | (simp only [List.length_drop, List.length_take]; rfl)) ?_; (with_reducible refine (fixq_Shift.calls kj20 a0 a2 t132 t133 _ A24.out).mono ?_); rintro e w' ⟨rfl, ⟨nd, rfl⟩⟩; refine ⟨_, rfl, ?_⟩) | ((with_reducible refine gate_callee (f := 48) rfl ?_); refine goesL_ (some 89) rfl rfl Try.func48 (by kernel_rfl) rfl #[.int .i64 a0, .int .i64 ji27] rfl (by (try simp only [List.map_toArray, List.map_cons, List.map_nil]); first | done | (simp only [hji27]; rfl) | rfl | (simp only [List.length_drop, List.length_take]; rfl)) ?_; (with_reducible refine (fixq_Mean.calls kj20 a0 ji27 t134 t135 _ A28.out).mono ?_); rintro e w' ⟨rfl, ⟨nd, rfl⟩⟩; refine ⟨_, rfl, ?_⟩))
                        go_ret
                        exact ⟨by first | rfl | (simp [errW_none, errW_some] <;> rfl) | (simp only [← hji25, ← hji27]; first | rfl | (simp [errW_none, errW_some] <;> rfl)) | (simp [*, errW_none, errW_some] <;> rfl), by repeat (first | (with_reducible first | exact HB.out | apply below_alloc | apply pw_below_drewN | apply below_drew1) | exact HB.out)⟩
                      · rw [if_neg c30] at H
                        have c30b0 : (t135 == 0) = false := beq_eq_false_iff_ne.mpr c30
                        have c30b1 : (t135 != 0) = true := bne_iff_ne.mpr c30
                        exact absurd ((Option.some.inj H).trans HRT.out) Bool.false_ne_true
                    · rw [if_neg c29] at H
                      have c29b0 : (t133 == 0) = false := beq_eq_false_iff_ne.mpr c29
                      have c29b1 : (t133 != 0) = true := bne_iff_ne.mpr c29
                      exact absurd ((Option.some.inj H).trans HRT.out) Bool.false_ne_true
                  · rw [if_neg c26] at H
                    exact absurd H (by simp)
  · replace c5 := Bool.eq_false_iff.mpr c5
    subst c5
    have H1 : (some false) = some r := by rw [if_neg (show ¬ (false = true) by decide)] at H; exact H
    clear H
    have H := H1
    clear H1
    exact absurd ((Option.some.inj H).trans HRT.out) Bool.false_ne_true

end Go.Proofs.Ythjfmgdldjbkgaa.CFMeanOf
