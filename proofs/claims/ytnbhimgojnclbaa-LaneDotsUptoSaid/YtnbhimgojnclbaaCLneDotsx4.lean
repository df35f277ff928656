-- PRINTED by print.py (a twelfth state) out of the translation. Not trusted: Lean checks it.
import Derived.Test.YtnbhimgojnclbaaCLneDotsx0
namespace Go.Proofs.Ytnbhimgojnclbaa.CLneDots
open Go.RowKit Go.Proofs.YtnbhimgojnclbaaW.PrintWords Go.Proofs.YtnbhimgojnclbaaW.PrintLast Go.Proofs.YtnbhimgojnclbaaW.PrintMore
attribute [local go_sem] max2_int min2_int max_two min_two max_three min_three max_four min_four   -- for this text's walks alone
set_option linter.unusedVariables false
set_option linter.unusedSimpArgs false

/-! ### spillwayref20_Check: function 39 -/
mutual
def spillwayref20_Check.j0 : Nat → Int → Int → Int → Bool → Option (Int)
  | 0, _, _, _, _ => none
  | k + 1, x0, x2, x3, x15 => if x15 = true then (some 70) else (if x2 = 16 then (spillwayref20_Check.j1 k x0 x2 x3 false) else (spillwayref20_Check.j1 k x0 x2 x3 (x2 != 32)))
def spillwayref20_Check.j1 : Nat → Int → Int → Int → Bool → Option (Int)
  | 0, _, _, _, _ => none
  | k + 1, x0, x2, x3, x21 => if x21 = true then (some 150) else (if x3 < 1 then (some 151) else (if x3 > x0 then (some 151) else (if x2 = 32 then (if x3 = x0 then (some 0) else (some 151)) else (some 0))))
end
def spillwayref20_Check.f (k : Nat) (a0 : Int) (a1 : Int) (a2 : Int) (a3 : Int) : Option (Int) := if a0 = a1 then (spillwayref20_Check.j0 k a0 a2 a3 (decide (a0 < 1))) else (spillwayref20_Check.j0 k a0 a2 a3 true)
theorem spillwayref20_Check.mono_l : ∀ k, (∀ y0 y1 y2 y3, LeO (spillwayref20_Check.j0 k y0 y1 y2 y3) (spillwayref20_Check.j0 (k + 1) y0 y1 y2 y3)) ∧ (∀ y0 y1 y2 y3, LeO (spillwayref20_Check.j1 k y0 y1 y2 y3) (spillwayref20_Check.j1 (k + 1) y0 y1 y2 y3))
  | 0 => ⟨fun _ _ _ _ r h => by simp [spillwayref20_Check.j0] at h, fun _ _ _ _ r h => by simp [spillwayref20_Check.j1] at h⟩
  | k + 1 => by
    obtain ⟨ih0, ih1⟩ := spillwayref20_Check.mono_l k
    refine ⟨?_, ?_⟩
    · intro y0 y1 y2 y3
      unfold spillwayref20_Check.j0
      repeat' first
      | (with_reducible exact ih0 _ _ _ _)
      | (with_reducible exact ih1 _ _ _ _)
      | (with_reducible exact LeO.refl _)
      | (with_reducible exact LeO.none _)
      | (with_reducible refine LeO.ite ?_ ?_)
      | (with_reducible refine LeO.bind ?_ (fun _ => ?_))
      | exact ih0 _ _ _ _
      | exact ih1 _ _ _ _
      | exact LeO.none _
      | refine LeO.ite ?_ ?_
      | refine LeO.bind ?_ (fun _ => ?_)
    · intro y0 y1 y2 y3
      unfold spillwayref20_Check.j1
      repeat' first
      | (with_reducible exact ih0 _ _ _ _)
      | (with_reducible exact ih1 _ _ _ _)
      | (with_reducible exact LeO.refl _)
      | (with_reducible exact LeO.none _)
      | (with_reducible refine LeO.ite ?_ ?_)
      | (with_reducible refine LeO.bind ?_ (fun _ => ?_))
      | exact ih0 _ _ _ _
      | exact ih1 _ _ _ _
      | exact LeO.none _
      | refine LeO.ite ?_ ?_
      | refine LeO.bind ?_ (fun _ => ?_)
theorem spillwayref20_Check.mono : ∀ a0 a1 a2 a3 k, LeO (spillwayref20_Check.f k a0 a1 a2 a3) (spillwayref20_Check.f (k + 1) a0 a1 a2 a3) := by
  intro a0 a1 a2 a3 k
  obtain ⟨ih0, ih1⟩ := spillwayref20_Check.mono_l k
  unfold spillwayref20_Check.f
  repeat' first
      | (with_reducible exact ih0 _ _ _ _)
      | (with_reducible exact ih1 _ _ _ _)
      | (with_reducible exact LeO.refl _)
      | (with_reducible exact LeO.none _)
      | (with_reducible refine LeO.ite ?_ ?_)
      | (with_reducible refine LeO.bind ?_ (fun _ => ?_))
      | exact ih0 _ _ _ _
      | exact ih1 _ _ _ _
      | exact LeO.none _
      | refine LeO.ite ?_ ?_
      | refine LeO.bind ?_ (fun _ => ?_)
set_option maxHeartbeats 8000000 in
set_option maxRecDepth 100000 in
theorem spillwayref20_Check.calls (k : Nat) (a0 : Int) (a1 : Int) (a2 : Int) (a3 : Int) (r : Int) (w : World) (h : spillwayref20_Check.f k a0 a1 a2 a3 = some r) :
    Calls Try.prog 39 #[.int .i64 a0, .int .i64 a1, .int .i64 a2, .int .i64 a3] w fun e w' => e = .returned (.int .i64 r) ∧ Drawn0 w w' := by
  have H : (if a0 = a1 then (spillwayref20_Check.j0 k a0 a2 a3 (decide (a0 < 1))) else (spillwayref20_Check.j0 k a0 a2 a3 true)) = some r := h
  clear h
  have HC5 := Aside0.mk H
  clear H
  go_enter Try.func39, Try.ntmps39
  go_upto_region 1 with (fail)
  go_cut [15] (fun v15 wc => ∃ (kq : Nat) (x15_4 : Bool), v15 = .bool x15_4 ∧ Aside0 (spillwayref20_Check.j0 kq a0 a2 a3 x15_4 = some r) ∧ Aside0 (kq ≤ k) ∧ Drawn0 w wc)
  case first =>
    have H := HC5.out
    clear HC5
    by_cases c6 : a0 = a1
    · rw [if_pos c6] at H
      have c6b0 : (a0 == a1) = true := beq_iff_eq.mpr c6
      have c6b1 : (a0 != a1) = false := bne_eq_false_iff_eq.mpr c6
      clear c6
      (first | rw [c6b0] | (simp only [i64_w, i32_w]; rw [c6b0]) | skip)
      have H' := Aside0.mk H
      clear H
      go_wp2
      go_meet
      case rel => exact ⟨_, (decide (a0 < 1)), (by first | rfl | (simp; done) | (simp [*]; done)), H', ⟨by first | omega | exact Nat.le_refl _⟩, by repeat (first | exact Drawn0.refl _ | apply Drawn0.step)⟩
    · rw [if_neg c6] at H
      have c6b0 : (a0 == a1) = false := beq_eq_false_iff_ne.mpr c6
      have c6b1 : (a0 != a1) = true := bne_iff_ne.mpr c6
      (first | rw [c6b0] | (simp only [i64_w, i32_w]; rw [c6b0]) | skip)
      have H' := Aside0.mk H
      clear H
      go_wp2
      go_meet
      case rel => exact ⟨_, (true), (by first | rfl | (simp; done) | (simp [*]; done)), H', ⟨by first | omega | exact Nat.le_refl _⟩, by repeat (first | exact Drawn0.refl _ | apply Drawn0.step)⟩
  case rest =>
    clear HC5
    try clear p2
    try clear c3
    try clear c6
    try clear c6b0
    try clear c6b1
    obtain ⟨kq, x15_4, rfl, HA, HJ4, ⟨mc4, rfl⟩⟩ := hcut
    cases kq with
    | zero => exact absurd HA.out (by simp [spillwayref20_Check.j0])
    | succ kj4 =>
      have H := HA.out
      clear HA
      simp only [spillwayref20_Check.j0] at H
      by_cases c7 : x15_4 = true
      · subst c7
        have H1 : (some 70) = some r := by rw [if_pos rfl] at H; exact H
        clear H
        have H := H1
        clear H1
        obtain rfl := Option.some.inj H
        go_wp2
        go_ret
        exact ⟨by first | rfl | (simp; done) | (simp [*]; done), by repeat (first | exact Drawn0.refl _ | apply Drawn0.step)⟩
      · replace c7 := Bool.eq_false_iff.mpr c7
        subst c7
        have H1 : (if a2 = 16 then (spillwayref20_Check.j1 kj4 a0 a2 a3 false) else (spillwayref20_Check.j1 kj4 a0 a2 a3 (a2 != 32))) = some r := by rw [if_neg (show ¬ (false = true) by decide)] at H; exact H
        clear H
        have H := H1
        clear H1
        have HC8 := Aside0.mk H
        clear H
        go_upto_region 3 with (fail)
        go_cut [21] (fun v21 wc => ∃ (kq : Nat) (x21_7 : Bool), v21 = .bool x21_7 ∧ Aside0 (spillwayref20_Check.j1 kq a0 a2 a3 x21_7 = some r) ∧ Aside0 (kq ≤ kj4) ∧ Drawn0 w wc)
        case first =>
          have H := HC8.out
          clear HC8
          by_cases c9 : a2 = 16
          · rw [if_pos c9] at H
            have c9b0 : (a2 == 16) = true := beq_iff_eq.mpr c9
            have c9b1 : (a2 != 16) = false := bne_eq_false_iff_eq.mpr c9
            clear c9
            (first | rw [c9b0] | (simp only [i64_w, i32_w]; rw [c9b0]) | skip)
            have H' := Aside0.mk H
            clear H
            go_wp2
            go_meet
            case rel => exact ⟨_, (false), (by first | rfl | (simp; done) | (simp [*]; done)), H', ⟨by have := HJ4.out; first | omega | exact Nat.le_refl _⟩, by repeat (first | exact Drawn0.refl _ | apply Drawn0.step)⟩
          · rw [if_neg c9] at H
            have c9b0 : (a2 == 16) = false := beq_eq_false_iff_ne.mpr c9
            have c9b1 : (a2 != 16) = true := bne_iff_ne.mpr c9
            (first | rw [c9b0] | (simp only [i64_w, i32_w]; rw [c9b0]) | skip)
            have H' := Aside0.mk H
            clear H
            go_wp2
            go_meet
            case rel => exact ⟨_, ((a2 != 32)), (by first | rfl | (simp; done) | (simp [*]; done)), H', ⟨by have := HJ4.out; first | omega | exact Nat.le_refl _⟩, by repeat (first | exact Drawn0.refl _ | apply Drawn0.step)⟩
        case rest =>
          clear HC8
          try clear p2
          try clear c3
          try clear c4
          try clear c6
          try clear c6b0
          try clear c6b1
          try clear c7
          try clear c9
          try clear c9b0
          try clear c9b1
          try clear p2
          obtain ⟨kq, x21_7, rfl, HA, HJ7, ⟨mc7, rfl⟩⟩ := hcut
          cases kq with
          | zero => exact absurd HA.out (by simp [spillwayref20_Check.j1])
          | succ kj7 =>
            have H := HA.out
            clear HA
            simp only [spillwayref20_Check.j1] at H
            by_cases c10 : x21_7 = true
            · subst c10
              have H1 : (some 150) = some r := by rw [if_pos rfl] at H; exact H
              clear H
              have H := H1
              clear H1
              obtain rfl := Option.some.inj H
              go_wp2
              go_ret
              exact ⟨by first | rfl | (simp; done) | (simp [*]; done), by repeat (first | exact Drawn0.refl _ | apply Drawn0.step)⟩
            · replace c10 := Bool.eq_false_iff.mpr c10
              subst c10
              have H1 : (if a3 < 1 then (some 151) else (if a3 > a0 then (some 151) else (if a2 = 32 then (if a3 = a0 then (some 0) else (some 151)) else (some 0)))) = some r := by rw [if_neg (show ¬ (false = true) by decide)] at H; exact H
              clear H
              have H := H1
              clear H1
              by_cases c11 : a3 < 1
              · rw [if_pos c11] at H
                have c11b0 : decide (a3 < 1) = true := decide_eq_true c11
                clear c11
                obtain rfl := Option.some.inj H
                go_wp2
                go_ret
                exact ⟨by first | rfl | (simp; done) | (simp [*]; done), by repeat (first | exact Drawn0.refl _ | apply Drawn0.step)⟩
              · rw [if_neg c11] at H
                have c11b0 : decide (a3 < 1) = false := decide_eq_false c11
                clear c11
                by_cases c12 : a3 > a0
                · rw [if_pos c12] at H
                  have c12b0 : decide (a0 < a3) = true := decide_eq_true c12
                  clear c12
                  obtain rfl := Option.some.inj H
                  go_wp2
                  go_ret
                  exact ⟨by first | rfl | (simp; done) | (simp [*]; done), by repeat (first | exact Drawn0.refl _ | apply Drawn0.step)⟩
                · rw [if_neg c12] at H
                  have c12b0 : decide (a0 < a3) = false := decide_eq_false c12
                  clear c12
                  by_cases c13 : a2 = 32
                  · rw [if_pos c13] at H
                    have c13b0 : (a2 == 32) = true := beq_iff_eq.mpr c13
                    have c13b1 : (a2 != 32) = false := bne_eq_false_iff_eq.mpr c13
                    clear c13
                    by_cases c14 : a3 = a0
                    · rw [if_pos c14] at H
                      have c14b0 : (a3 == a0) = true := beq_iff_eq.mpr c14
                      have c14b1 : (a3 != a0) = false := bne_eq_false_iff_eq.mpr c14
                      clear c14
                      obtain rfl := Option.some.inj H
                      go_wp2
                      go_ret
                      exact ⟨by first | rfl | (simp; done) | (simp [*]; done), by repeat (first | exact Drawn0.refl _ | apply Drawn0.step)⟩
                    · rw [if_neg c14] at H
                      have c14b0 : (a3 == a0) = false := beq_eq_false_iff_ne.mpr c14
                      have c14b1 : (a3 != a0) = true := bne_iff_ne.mpr c14
                      obtain rfl := Option.some.inj H
                      go_wp2
                      go_ret
                      exact ⟨by first | rfl | (simp; done) | (simp [*]; done), by repeat (first | exact Drawn0.refl _ | apply Drawn0.step)⟩
                  · rw [if_neg c13] at H
                    have c13b0 : (a2 == 32) = false := beq_eq_false_iff_ne.mpr c13
                    have c13b1 : (a2 != 32) = true := bne_iff_ne.mpr c13
                    obtain rfl := Option.some.inj H
                    go_wp2
                    go_ret
                    exact ⟨by first | rfl | (simp; done) | (simp [*]; done), by repeat (first | exact Drawn0.refl _ | apply Drawn0.step)⟩

/-! ### spillwayref01_Wrap: function 52 -/
def spillwayref01_Wrap.f (a0 : Int) (a1 : Int) : Option (Int) := if 0 ≤ (IntKind.u64.wrap (a0)) then (if (shl .i64 1 (IntKind.u64.wrap (a0))) = 0 then (none) else (if (Int.tmod a1 (shl .i64 1 (IntKind.u64.wrap (a0)))) < 0 then (if (wrap64 ((Int.tmod a1 (shl .i64 1 (IntKind.u64.wrap (a0)))) + (shl .i64 1 (IntKind.u64.wrap (a0))))) ≥ (wrap64 (Int.tdiv (shl .i64 1 (IntKind.u64.wrap (a0))) 2)) then (some (wrap64 ((wrap64 ((Int.tmod a1 (shl .i64 1 (IntKind.u64.wrap (a0)))) + (shl .i64 1 (IntKind.u64.wrap (a0))))) - (shl .i64 1 (IntKind.u64.wrap (a0)))))) else (some (wrap64 ((Int.tmod a1 (shl .i64 1 (IntKind.u64.wrap (a0)))) + (shl .i64 1 (IntKind.u64.wrap (a0))))))) else (if (Int.tmod a1 (shl .i64 1 (IntKind.u64.wrap (a0)))) ≥ (wrap64 (Int.tdiv (shl .i64 1 (IntKind.u64.wrap (a0))) 2)) then (some (wrap64 ((Int.tmod a1 (shl .i64 1 (IntKind.u64.wrap (a0)))) - (shl .i64 1 (IntKind.u64.wrap (a0)))))) else (some (Int.tmod a1 (shl .i64 1 (IntKind.u64.wrap (a0)))))))) else (none)
set_option maxHeartbeats 8000000 in
set_option maxRecDepth 100000 in
theorem spillwayref01_Wrap.calls (a0 : Int) (a1 : Int) (r : Int) (w : World) (h : spillwayref01_Wrap.f a0 a1 = some r) :
    Calls Try.prog 52 #[.int .i64 a0, .int .i64 a1] w fun e w' => e = .returned (.int .i64 r) ∧ Drawn0 w w' := by
  have H : (if 0 ≤ (IntKind.u64.wrap (a0)) then (if (shl .i64 1 (IntKind.u64.wrap (a0))) = 0 then (none) else (if (Int.tmod a1 (shl .i64 1 (IntKind.u64.wrap (a0)))) < 0 then (if (wrap64 ((Int.tmod a1 (shl .i64 1 (IntKind.u64.wrap (a0)))) + (shl .i64 1 (IntKind.u64.wrap (a0))))) ≥ (wrap64 (Int.tdiv (shl .i64 1 (IntKind.u64.wrap (a0))) 2)) then (some (wrap64 ((wrap64 ((Int.tmod a1 (shl .i64 1 (IntKind.u64.wrap (a0)))) + (shl .i64 1 (IntKind.u64.wrap (a0))))) - (shl .i64 1 (IntKind.u64.wrap (a0)))))) else (some (wrap64 ((Int.tmod a1 (shl .i64 1 (IntKind.u64.wrap (a0)))) + (shl .i64 1 (IntKind.u64.wrap (a0))))))) else (if (Int.tmod a1 (shl .i64 1 (IntKind.u64.wrap (a0)))) ≥ (wrap64 (Int.tdiv (shl .i64 1 (IntKind.u64.wrap (a0))) 2)) then (some (wrap64 ((Int.tmod a1 (shl .i64 1 (IntKind.u64.wrap (a0)))) - (shl .i64 1 (IntKind.u64.wrap (a0)))))) else (some (Int.tmod a1 (shl .i64 1 (IntKind.u64.wrap (a0)))))))) else (none)) = some r := h
  clear h
  obtain ⟨ji3, hji3⟩ : ∃ j_ : Int, (IntKind.u64.wrap (a0)) = j_ := ⟨_, rfl⟩
  replace H : (if 0 ≤ (ji3) then (if (shl .i64 1 (ji3)) = 0 then (none) else (if (Int.tmod a1 (shl .i64 1 (ji3))) < 0 then (if (wrap64 ((Int.tmod a1 (shl .i64 1 (ji3))) + (shl .i64 1 (ji3)))) ≥ (wrap64 (Int.tdiv (shl .i64 1 (ji3)) 2)) then (some (wrap64 ((wrap64 ((Int.tmod a1 (shl .i64 1 (ji3))) + (shl .i64 1 (ji3)))) - (shl .i64 1 (ji3))))) else (some (wrap64 ((Int.tmod a1 (shl .i64 1 (ji3))) + (shl .i64 1 (ji3)))))) else (if (Int.tmod a1 (shl .i64 1 (ji3))) ≥ (wrap64 (Int.tdiv (shl .i64 1 (ji3)) 2)) then (some (wrap64 ((Int.tmod a1 (shl .i64 1 (ji3))) - (shl .i64 1 (ji3))))) else (some (Int.tmod a1 (shl .i64 1 (ji3))))))) else (none)) = some r := by first | (rw [hji3] at H; exact H) | (simp only [hji3] at H ⊢; exact H)
  by_cases c4 : 0 ≤ (ji3)
  · rw [if_pos c4] at H
    have c4b0 := eq_true c4
    have c4b1 : decide (0 ≤ (ji3)) = true := decide_eq_true c4
    clear c4
    obtain ⟨ji5, hji5⟩ : ∃ j_ : Int, (shl .i64 1 (ji3)) = j_ := ⟨_, rfl⟩
    replace H : (if (ji5) = 0 then (none) else (if (Int.tmod a1 (ji5)) < 0 then (if (wrap64 ((Int.tmod a1 (ji5)) + (ji5))) ≥ (wrap64 (Int.tdiv (ji5) 2)) then (some (wrap64 ((wrap64 ((Int.tmod a1 (ji5)) + (ji5))) - (ji5)))) else (some (wrap64 ((Int.tmod a1 (ji5)) + (ji5))))) else (if (Int.tmod a1 (ji5)) ≥ (wrap64 (Int.tdiv (ji5) 2)) then (some (wrap64 ((Int.tmod a1 (ji5)) - (ji5)))) else (some (Int.tmod a1 (ji5)))))) = some r := by first | (rw [hji5] at H; exact H) | (simp only [hji5] at H ⊢; exact H)
    have hji5_ : (IntKind.i64.wrap (1 * 2 ^ min (ji3).toNat 64)) = ji5 := hji5
    have hji5z : (ji3) ≤ 64 → (IntKind.i64.wrap (1 * 2 ^ (ji3).toNat)) = ji5 := shl_small hji5
    have hji5u : (IntKind.i64.wrap (2 ^ min (ji3).toNat 64)) = ji5 := by have h_ := hji5_; rw [Int.one_mul] at h_; exact h_
    have hji5v : (ji3) ≤ 64 → (IntKind.i64.wrap (2 ^ (ji3).toNat)) = ji5 := fun hle_ => by have h_ := hji5z hle_; rw [Int.one_mul] at h_; exact h_
    have hji5y : (wrap64 (1 * 2 ^ min (ji3).toNat 64)) = ji5 := (i64_w _).symm.trans hji5_
    have hji5x : (ji3) ≤ 64 → (wrap64 (1 * 2 ^ (ji3).toNat)) = ji5 := fun h_ => (i64_w _).symm.trans (hji5z h_)
    by_cases c6 : (ji5) = 0
    · rw [if_pos c6] at H
      exact absurd H (by simp)
    · rw [if_neg c6] at H
      have c6b0 : ((ji5) == 0) = false := beq_eq_false_iff_ne.mpr c6
      have c6b1 : ((ji5) != 0) = true := bne_iff_ne.mpr c6
      by_cases c7 : (Int.tmod a1 (ji5)) < 0
      · rw [if_pos c7] at H
        have c7b0 : decide ((Int.tmod a1 (ji5)) < 0) = true := decide_eq_true c7
        clear c7
        by_cases c8 : (wrap64 ((Int.tmod a1 (ji5)) + (ji5))) ≥ (wrap64 (Int.tdiv (ji5) 2))
        · rw [if_pos c8] at H
          have c8b0 : decide ((wrap64 (Int.tdiv (ji5) 2)) ≤ (wrap64 ((Int.tmod a1 (ji5)) + (ji5)))) = true := decide_eq_true c8
          clear c8
          obtain rfl := Option.some.inj H
          go_enter Try.func52, Try.ntmps52
          go_wp2
          go_ret
          exact ⟨by first | rfl | (simp; done) | (simp only [← hji3, ← hji5] <;> (first | rfl | simp)) | (simp [*]; done), by repeat (first | exact Drawn0.refl _ | apply Drawn0.step)⟩
        · rw [if_neg c8] at H
          have c8b0 : decide ((wrap64 (Int.tdiv (ji5) 2)) ≤ (wrap64 ((Int.tmod a1 (ji5)) + (ji5)))) = false := decide_eq_false c8
          clear c8
          obtain rfl := Option.some.inj H
          go_enter Try.func52, Try.ntmps52
          go_wp2
          go_ret
          exact ⟨by first | rfl | (simp; done) | (simp only [← hji3, ← hji5] <;> (first | rfl | simp)) | (simp [*]; done), by repeat (first | exact Drawn0.refl _ | apply Drawn0.step)⟩
      · rw [if_neg c7] at H
        have c7b0 : decide ((Int.tmod a1 (ji5)) < 0) = false := decide_eq_false c7
        clear c7
        by_cases c9 : (Int.tmod a1 (ji5)) ≥ (wrap64 (Int.tdiv (ji5) 2))
        · rw [if_pos c9] at H
          have c9b0 : decide ((wrap64 (Int.tdiv (ji5) 2)) ≤ (Int.tmod a1 (ji5))) = true := decide_eq_true c9
          clear c9
          obtain rfl := Option.some.inj H
          go_enter Try.func52, Try.ntmps52
          go_wp2
          go_ret
          exact ⟨by first | rfl | (simp; done) | (simp only [← hji3, ← hji5] <;> (first | rfl | simp)) | (simp [*]; done), by repeat (first | exact Drawn0.refl _ | apply Drawn0.step)⟩
        · rw [if_neg c9] at H
          have c9b0 : decide ((wrap64 (Int.tdiv (ji5) 2)) ≤ (Int.tmod a1 (ji5))) = false := decide_eq_false c9
          clear c9
          obtain rfl := Option.some.inj H
          go_enter Try.func52, Try.ntmps52
          go_wp2
          go_ret
          exact ⟨by first | rfl | (simp; done) | (simp only [← hji3, ← hji5] <;> (first | rfl | simp)) | (simp [*]; done), by repeat (first | exact Drawn0.refl _ | apply Drawn0.step)⟩
  · rw [if_neg c4] at H
    exact absurd H (by simp)

/-! ### spillwayref01_Fits: function 53 -/
def spillwayref01_Fits.f (a0 : Int) (a1 : Int) : Option (Bool) := if 0 ≤ (IntKind.u64.wrap (wrap64 (a0 - 1))) then (if a1 ≥ (wrap64 (-(shl .i64 1 (IntKind.u64.wrap (wrap64 (a0 - 1)))))) then (some (decide (a1 < (shl .i64 1 (IntKind.u64.wrap (wrap64 (a0 - 1))))))) else (some false)) else (none)
set_option maxHeartbeats 8000000 in
set_option maxRecDepth 100000 in
theorem spillwayref01_Fits.calls (a0 : Int) (a1 : Int) (r : Bool) (w : World) (h : spillwayref01_Fits.f a0 a1 = some r) :
    Calls Try.prog 53 #[.int .i64 a0, .int .i64 a1] w fun e w' => e = .returned (.bool r) ∧ Drawn0 w w' := by
  have H : (if 0 ≤ (IntKind.u64.wrap (wrap64 (a0 - 1))) then (if a1 ≥ (wrap64 (-(shl .i64 1 (IntKind.u64.wrap (wrap64 (a0 - 1)))))) then (some (decide (a1 < (shl .i64 1 (IntKind.u64.wrap (wrap64 (a0 - 1))))))) else (some false)) else (none)) = some r := h
  clear h
  obtain ⟨ji3, hji3⟩ : ∃ j_ : Int, (IntKind.u64.wrap (wrap64 (a0 - 1))) = j_ := ⟨_, rfl⟩
  replace H : (if 0 ≤ (ji3) then (if a1 ≥ (wrap64 (-(shl .i64 1 (ji3)))) then (some (decide (a1 < (shl .i64 1 (ji3))))) else (some false)) else (none)) = some r := by first | (rw [hji3] at H; exact H) | (simp only [hji3] at H ⊢; exact H)
  by_cases c4 : 0 ≤ (ji3)
  · rw [if_pos c4] at H
    have c4b0 := eq_true c4
    have c4b1 : decide (0 ≤ (ji3)) = true := decide_eq_true c4
    clear c4
    obtain ⟨ji5, hji5⟩ : ∃ j_ : Int, (shl .i64 1 (ji3)) = j_ := ⟨_, rfl⟩
    replace H : (if a1 ≥ (wrap64 (-(ji5))) then (some (decide (a1 < (ji5)))) else (some false)) = some r := by first | (rw [hji5] at H; exact H) | (simp only [hji5] at H ⊢; exact H)
    have hji5_ : (IntKind.i64.wrap (1 * 2 ^ min (ji3).toNat 64)) = ji5 := hji5
    have hji5z : (ji3) ≤ 64 → (IntKind.i64.wrap (1 * 2 ^ (ji3).toNat)) = ji5 := shl_small hji5
    have hji5u : (IntKind.i64.wrap (2 ^ min (ji3).toNat 64)) = ji5 := by have h_ := hji5_; rw [Int.one_mul] at h_; exact h_
    have hji5v : (ji3) ≤ 64 → (IntKind.i64.wrap (2 ^ (ji3).toNat)) = ji5 := fun hle_ => by have h_ := hji5z hle_; rw [Int.one_mul] at h_; exact h_
    have hji5y : (wrap64 (1 * 2 ^ min (ji3).toNat 64)) = ji5 := (i64_w _).symm.trans hji5_
    have hji5x : (ji3) ≤ 64 → (wrap64 (1 * 2 ^ (ji3).toNat)) = ji5 := fun h_ => (i64_w _).symm.trans (hji5z h_)
    by_cases c6 : a1 ≥ (wrap64 (-(ji5)))
    · rw [if_pos c6] at H
      have c6b0 : decide ((wrap64 (-(ji5))) ≤ a1) = true := decide_eq_true c6
      clear c6
      obtain rfl := Option.some.inj H
      go_enter Try.func53, Try.ntmps53
      go_wp2
      go_ret
      exact ⟨by first | rfl | (simp; done) | (simp only [← hji3, ← hji5] <;> (first | rfl | simp)) | (simp [*]; done), by repeat (first | exact Drawn0.refl _ | apply Drawn0.step)⟩
    · rw [if_neg c6] at H
      have c6b0 : decide ((wrap64 (-(ji5))) ≤ a1) = false := decide_eq_false c6
      clear c6
      obtain rfl := Option.some.inj H
      go_enter Try.func53, Try.ntmps53
      go_wp2
      go_ret
      exact ⟨by first | rfl | (simp; done) | (simp only [← hji3, ← hji5] <;> (first | rfl | simp)) | (simp [*]; done), by repeat (first | exact Drawn0.refl _ | apply Drawn0.step)⟩
  · rw [if_neg c4] at H
    exact absurd H (by simp)

/-! ### spillwayref20_Add: function 31 -/
def spillwayref20_Add.f (a0 : Int) (a1 : Int) (a2 : Int) : Option (Int × Bool) := (spillwayref01_Wrap.f a0 (wrap64 (a1 + a2))).bind fun t139 => ((spillwayref01_Fits.f a0 (wrap64 (a1 + a2))).bind fun t140 => (some (t139, !t140)))
set_option maxHeartbeats 8000000 in
set_option maxRecDepth 100000 in
theorem spillwayref20_Add.calls (a0 : Int) (a1 : Int) (a2 : Int) (r1 : Int) (r2 : Bool) (w : World) (h : spillwayref20_Add.f a0 a1 a2 = some (r1, r2)) :
    Calls Try.prog 31 #[.int .i64 a0, .int .i64 a1, .int .i64 a2] w fun e w' => e = .returned (.tuple #[.int .i64 r1, .bool r2]) ∧ Drawn0 w w' := by
  have H : ((spillwayref01_Wrap.f a0 (wrap64 (a1 + a2))).bind fun t139 => ((spillwayref01_Fits.f a0 (wrap64 (a1 + a2))).bind fun t140 => (some (t139, !t140)))) = some (r1, r2) := h
  clear h
  replace H := Option.bind_eq_some_iff.mp H
  obtain ⟨t139, A40, H⟩ := H
  replace H : ((spillwayref01_Fits.f a0 (wrap64 (a1 + a2))).bind fun t140 => (some (t139, !t140))) = some (r1, r2) := H
  have A4 := Aside0.mk A40
  clear A40
  replace H := Option.bind_eq_some_iff.mp H
  obtain ⟨t140, A50, H⟩ := H
  replace H : (some (t139, !t140)) = some (r1, r2) := H
  have A5 := Aside0.mk A50
  clear A50
  simp only [Option.some.injEq, Prod.mk.injEq] at H
  obtain ⟨rfl, rfl⟩ := H
  go_enter Try.func31, Try.ntmps31
  go_wp2_with (first | ((with_reducible refine gate_callee (f := 52) rfl ?_); refine goesL_ (some 12) rfl rfl Try.func52 (by kernel_rfl) rfl #[.int .i64 a0, .int .i64 (wrap64 (a1 + a2))] rfl (by (try simp only [List.map_toArray, List.map_cons, List.map_nil]); first | done | rfl | (simp only [List.length_drop, List.length_take]; rfl)) ?_; (with_reducible refine (spillwayref01_Wrap.calls a0 (wrap64 (a1 + a2)) t139 _ A4.out).mono ?_); rintro e w' ⟨rfl, ⟨nd, rfl⟩⟩; refine ⟨_, rfl, ?_⟩) | ((with_reducible refine gate_callee (f := 53) rfl ?_); refine goesL_ (some 17) rfl rfl Try.func53 (by kernel_rfl) rfl #[.int .i64 a0, .int .i64 (wrap64 (a1 + a2))] rfl (by (try simp only [List.map_toArray, List.map_cons, List.map_nil]); first | done | rfl | (simp only [List.length_drop, List.length_take]; rfl)) ?_; (with_reducible refine (spillwayref01_Fits.calls a0 (wrap64 (a1 + a2)) t140 _ A5.out).mono ?_); rintro e w' ⟨rfl, ⟨nd, rfl⟩⟩; refine ⟨_, rfl, ?_⟩))
  go_ret2
  exact ⟨by first | rfl | (simp; done) | (simp [*]; done), by repeat (first | exact Drawn0.refl _ | apply Drawn0.step)⟩

/-- A state of type 103 at block g of W; what its slices lead to came in by w0. -/
def IsS103 (w0 W : World) (g : Nat) (f0 : Int) (f1 : Int) (f2 : Int) (f3 : Int) (f4 : Int) (f5 : Int) (f6 : Int) (f7 : Int) (f8 : Int) : Prop := W.heap[g]? = some (.cells #[.int .i64 f0, .int .i64 f1, .int .i64 f2, .int .i64 f3, .int .i64 f4, .int .i64 f5, .int .i64 f6, .int .i64 f7, .int .i64 f8] 103 (0, 0)) ∧ w0.heap.size ≤ g
theorem IsS103.grown {w0 W : World} {g : Nat} {f0 : Int} {f1 : Int} {f2 : Int} {f3 : Int} {f4 : Int} {f5 : Int} {f6 : Int} {f7 : Int} {f8 : Int} {W1 : World} {row : Option Nat} (h : IsS103 w0 W g f0 f1 f2 f3 f4 f5 f6 f7 f8) (hw : W.grownBy W1 row) (hne : some g ≠ row) : IsS103 w0 W1 g f0 f1 f2 f3 f4 f5 f6 f7 f8 := by
  obtain ⟨hb, hg⟩ := h
  exact ⟨blk_grown hb hw hne, hg⟩
theorem IsS103.own_neN {w0 W : World} {g : Nat} {f0 : Int} {f1 : Int} {f2 : Int} {f3 : Int} {f4 : Int} {f5 : Int} {f6 : Int} {f7 : Int} {f8 : Int} {α : Type} {d : Kd α} {e : Nat} {base : Nat} {ok : Nat → Prop} {v : Value} {xs : List α} (h : IsS103 w0 W g f0 f1 f2 f3 f4 f5 f6 f7 f8) (ho : Kd.N d e W base ok v xs) (ht : e ≠ 103) : some g ≠ v.ownBlock := by
  obtain ⟨hb, hg⟩ := h
  exact Kd.N_ne ho hb ht
theorem IsS103.fresh {w0 W : World} {g : Nat} {f0 : Int} {f1 : Int} {f2 : Int} {f3 : Int} {f4 : Int} {f5 : Int} {f6 : Int} {f7 : Int} {f8 : Int} (h : IsS103 w0 W g f0 f1 f2 f3 f4 f5 f6 f7 f8) : ∀ k, W.heap.size ≤ k → k ≠ g := by
  obtain ⟨hb, hg⟩ := h
  exact Kd.freshB hb
theorem IsS103.kept {w0 W : World} {g : Nat} {f0 : Int} {f1 : Int} {f2 : Int} {f3 : Int} {f4 : Int} {f5 : Int} {f6 : Int} {f7 : Int} {f8 : Int} {W1 : World} {S : Nat → Prop} (h : IsS103 w0 W g f0 f1 f2 f3 f4 f5 f6 f7 f8) (hk : Kept W W1 S) (hne : ¬ S g) : IsS103 w0 W1 g f0 f1 f2 f3 f4 f5 f6 f7 f8 := by
  obtain ⟨hb, hg⟩ := h
  exact ⟨blk_kept hb hk hne, hg⟩
theorem IsS103.below {w0 W : World} {g : Nat} {f0 : Int} {f1 : Int} {f2 : Int} {f3 : Int} {f4 : Int} {f5 : Int} {f6 : Int} {f7 : Int} {f8 : Int} {W1 : World} (h : IsS103 w0 W g f0 f1 f2 f3 f4 f5 f6 f7 f8) (hw : Below W.heap.size W W1) : IsS103 w0 W1 g f0 f1 f2 f3 f4 f5 f6 f7 f8 := h.grown (grown_of_below hw none) (by simp)
theorem IsS103.alloc {w0 W : World} {g : Nat} {f0 : Int} {f1 : Int} {f2 : Int} {f3 : Int} {f4 : Int} {f5 : Int} {f6 : Int} {f7 : Int} {f8 : Int} (h : IsS103 w0 W g f0 f1 f2 f3 f4 f5 f6 f7 f8) (o : Obj) : IsS103 w0 (W.alloc o) g f0 f1 f2 f3 f4 f5 f6 f7 f8 := h.below (below_alloc (Below.refl _ _) o)
theorem IsS103.drewN {w0 W : World} {g : Nat} {f0 : Int} {f1 : Int} {f2 : Int} {f3 : Int} {f4 : Int} {f5 : Int} {f6 : Int} {f7 : Int} {f8 : Int} (h : IsS103 w0 W g f0 f1 f2 f3 f4 f5 f6 f7 f8) (m : Nat) : IsS103 w0 (W.drewN m) g f0 f1 f2 f3 f4 f5 f6 f7 f8 := h
theorem IsS103.drew {w0 W : World} {g : Nat} {f0 : Int} {f1 : Int} {f2 : Int} {f3 : Int} {f4 : Int} {f5 : Int} {f6 : Int} {f7 : Int} {f8 : Int} (h : IsS103 w0 W g f0 f1 f2 f3 f4 f5 f6 f7 f8) : IsS103 w0 W.drew g f0 f1 f2 f3 f4 f5 f6 f7 f8 := h
theorem IsS103.at_ {w0 W : World} {g : Nat} {f0 : Int} {f1 : Int} {f2 : Int} {f3 : Int} {f4 : Int} {f5 : Int} {f6 : Int} {f7 : Int} {f8 : Int} {w' : World} {m : Nat} (hq : W.drewN m = w') (h : IsS103 w0 W g f0 f1 f2 f3 f4 f5 f6 f7 f8) : IsS103 w0 w' g f0 f1 f2 f3 f4 f5 f6 f7 f8 := by subst hq; exact IsS103.drewN h m
theorem IsS103.apart {w0 W : World} {g : Nat} {f0 : Int} {f1 : Int} {f2 : Int} {f3 : Int} {f4 : Int} {f5 : Int} {f6 : Int} {f7 : Int} {f8 : Int} {α : Type} {d : Kd α} {e : Nat} {base : Nat} {ok : Nat → Prop} {v : Value} {xs : List α} (h : IsS103 w0 W g f0 f1 f2 f3 f4 f5 f6 f7 f8) (ho : d.R e W base ok v xs) (ht : ∀ q, q ∈ e :: d.E → q ≠ 103) : d.R e W base (fun k => ok k ∧ k ≠ g) v xs := by
  obtain ⟨hb, hg⟩ := h
  exact Kd.R_types ho hb ht
theorem IsS103.own_ne {w0 W : World} {g : Nat} {f0 : Int} {f1 : Int} {f2 : Int} {f3 : Int} {f4 : Int} {f5 : Int} {f6 : Int} {f7 : Int} {f8 : Int} {α : Type} {d : Kd α} {e : Nat} {base : Nat} {ok : Nat → Prop} {v : Value} {xs : List α} (h : IsS103 w0 W g f0 f1 f2 f3 f4 f5 f6 f7 f8) (ho : d.R e W base ok v xs) (ht : e ≠ 103) : some g ≠ v.ownBlock := by
  obtain ⟨hb, hg⟩ := h
  exact Kd.R_ne ho hb ht
theorem IsS103.apartQ {w0 W : World} {g : Nat} {f0 : Int} {f1 : Int} {f2 : Int} {f3 : Int} {f4 : Int} {f5 : Int} {f6 : Int} {f7 : Int} {f8 : Int} {α : Type} {d : Kd α} {e : Nat} {base : Nat} {ok : Nat → Prop} {v : Value} {xs : List α} (h : IsS103 w0 W g f0 f1 f2 f3 f4 f5 f6 f7 f8) (ho : d.Q e W base ok v xs) (ht : ∀ q, q ∈ e :: d.E → q ≠ 103) : d.Q e W base (fun k => ok k ∧ k ≠ g) v xs := by
  obtain ⟨hb, hg⟩ := h
  exact Kd.Q_types ho hb ht
theorem IsS103.own_neQ {w0 W : World} {g : Nat} {f0 : Int} {f1 : Int} {f2 : Int} {f3 : Int} {f4 : Int} {f5 : Int} {f6 : Int} {f7 : Int} {f8 : Int} {α : Type} {d : Kd α} {e : Nat} {base : Nat} {ok : Nat → Prop} {v : Value} {xs : List α} (h : IsS103 w0 W g f0 f1 f2 f3 f4 f5 f6 f7 f8) (ho : d.Q e W base ok v xs) (ht : e ≠ 103) : some g ≠ v.ownBlock := by
  obtain ⟨hb, hg⟩ := h
  exact Kd.Q_ne ho hb ht
theorem IsS103.apartS {w0 W : World} {g : Nat} {f0 : Int} {f1 : Int} {f2 : Int} {f3 : Int} {f4 : Int} {f5 : Int} {f6 : Int} {f7 : Int} {f8 : Int} {α : Type} {d : Kd α} {e : Nat} {base : Nat} {ok : Nat → Prop} {v : Value} {xs : List α} (h : IsS103 w0 W g f0 f1 f2 f3 f4 f5 f6 f7 f8) (ho : d.S e W base ok v xs) (ht : ∀ q, q ∈ e :: d.E → q ≠ 103) : d.S e W base (fun k => ok k ∧ k ≠ g) v xs := by
  obtain ⟨hb, hg⟩ := h
  exact Kd.S_types ho hb ht
theorem IsS103.own_neS {w0 W : World} {g : Nat} {f0 : Int} {f1 : Int} {f2 : Int} {f3 : Int} {f4 : Int} {f5 : Int} {f6 : Int} {f7 : Int} {f8 : Int} {α : Type} {d : Kd α} {e : Nat} {base : Nat} {ok : Nat → Prop} {v : Value} {xs : List α} (h : IsS103 w0 W g f0 f1 f2 f3 f4 f5 f6 f7 f8) (ho : d.S e W base ok v xs) (ht : e ≠ 103) : some g ≠ v.ownBlock := by
  obtain ⟨hb, hg⟩ := h
  exact Kd.S_ne ho hb ht
theorem IsS103.lt {w0 W : World} {g : Nat} {f0 : Int} {f1 : Int} {f2 : Int} {f3 : Int} {f4 : Int} {f5 : Int} {f6 : Int} {f7 : Int} {f8 : Int} (h : IsS103 w0 W g f0 f1 f2 f3 f4 f5 f6 f7 f8) : g < W.heap.size := by
  obtain ⟨hb, hg⟩ := h
  exact blk_lt hb
theorem IsS103.ge {w0 W : World} {g : Nat} {f0 : Int} {f1 : Int} {f2 : Int} {f3 : Int} {f4 : Int} {f5 : Int} {f6 : Int} {f7 : Int} {f8 : Int} (h : IsS103 w0 W g f0 f1 f2 f3 f4 f5 f6 f7 f8) : w0.heap.size ≤ g := by
  obtain ⟨hb, hg⟩ := h
  exact hg
theorem IsS103.ne_blk {w0 W : World} {g : Nat} {f0 : Int} {f1 : Int} {f2 : Int} {f3 : Int} {f4 : Int} {f5 : Int} {f6 : Int} {f7 : Int} {f8 : Int} {a : Nat} {cs : Array Value} {t : TypeId} {fr : Nat × Nat} (h : IsS103 w0 W g f0 f1 f2 f3 f4 f5 f6 f7 f8) (hb2 : W.heap[a]? = some (.cells cs t fr)) (ht : t ≠ 103) : g ≠ a := by
  obtain ⟨hb, hg⟩ := h
  rintro rfl
  rw [hb] at hb2
  injection hb2 with hb2
  injection hb2 with _ ht2
  exact ht ht2.symm
theorem IsS103.far {w0 W : World} {g : Nat} {f0 : Int} {f1 : Int} {f2 : Int} {f3 : Int} {f4 : Int} {f5 : Int} {f6 : Int} {f7 : Int} {f8 : Int} {p : Addr} (h : IsS103 w0 W g f0 f1 f2 f3 f4 f5 f6 f7 f8) (hne : g ≠ p.block) (u : Value) : IsS103 w0 (W.setCell p u) g f0 f1 f2 f3 f4 f5 f6 f7 f8 := by
  obtain ⟨hb, hg⟩ := h
  exact ⟨blk_far hb hne u, hg⟩
theorem cellS103_0 {W : World} {g : Nat} {f0 : Int} {f1 : Int} {f2 : Int} {f3 : Int} {f4 : Int} {f5 : Int} {f6 : Int} {f7 : Int} {f8 : Int} (h : W.heap[g]? = some (.cells #[.int .i64 f0, .int .i64 f1, .int .i64 f2, .int .i64 f3, .int .i64 f4, .int .i64 f5, .int .i64 f6, .int .i64 f7, .int .i64 f8] 103 (0, 0))) : W.cell? ⟨g, 0, none⟩ = some (.int .i64 f0) := (blk_cell h 0).trans rfl
theorem IsS103.set_0 {w0 W : World} {g : Nat} {f0 : Int} {f1 : Int} {f2 : Int} {f3 : Int} {f4 : Int} {f5 : Int} {f6 : Int} {f7 : Int} {f8 : Int} (h : IsS103 w0 W g f0 f1 f2 f3 f4 f5 f6 f7 f8) (x : Int) : IsS103 w0 (W.setCell ⟨g, 0, none⟩ (.int .i64 x)) g x f1 f2 f3 f4 f5 f6 f7 f8 := by
  obtain ⟨hb, hg⟩ := h
  exact ⟨by simpa using blk_set hb 0 (.int .i64 x), hg⟩
theorem cellS103_1 {W : World} {g : Nat} {f0 : Int} {f1 : Int} {f2 : Int} {f3 : Int} {f4 : Int} {f5 : Int} {f6 : Int} {f7 : Int} {f8 : Int} (h : W.heap[g]? = some (.cells #[.int .i64 f0, .int .i64 f1, .int .i64 f2, .int .i64 f3, .int .i64 f4, .int .i64 f5, .int .i64 f6, .int .i64 f7, .int .i64 f8] 103 (0, 0))) : W.cell? ⟨g, 1, none⟩ = some (.int .i64 f1) := (blk_cell h 1).trans rfl
theorem IsS103.set_1 {w0 W : World} {g : Nat} {f0 : Int} {f1 : Int} {f2 : Int} {f3 : Int} {f4 : Int} {f5 : Int} {f6 : Int} {f7 : Int} {f8 : Int} (h : IsS103 w0 W g f0 f1 f2 f3 f4 f5 f6 f7 f8) (x : Int) : IsS103 w0 (W.setCell ⟨g, 1, none⟩ (.int .i64 x)) g f0 x f2 f3 f4 f5 f6 f7 f8 := by
  obtain ⟨hb, hg⟩ := h
  exact ⟨by simpa using blk_set hb 1 (.int .i64 x), hg⟩
theorem cellS103_2 {W : World} {g : Nat} {f0 : Int} {f1 : Int} {f2 : Int} {f3 : Int} {f4 : Int} {f5 : Int} {f6 : Int} {f7 : Int} {f8 : Int} (h : W.heap[g]? = some (.cells #[.int .i64 f0, .int .i64 f1, .int .i64 f2, .int .i64 f3, .int .i64 f4, .int .i64 f5, .int .i64 f6, .int .i64 f7, .int .i64 f8] 103 (0, 0))) : W.cell? ⟨g, 2, none⟩ = some (.int .i64 f2) := (blk_cell h 2).trans rfl
theorem IsS103.set_2 {w0 W : World} {g : Nat} {f0 : Int} {f1 : Int} {f2 : Int} {f3 : Int} {f4 : Int} {f5 : Int} {f6 : Int} {f7 : Int} {f8 : Int} (h : IsS103 w0 W g f0 f1 f2 f3 f4 f5 f6 f7 f8) (x : Int) : IsS103 w0 (W.setCell ⟨g, 2, none⟩ (.int .i64 x)) g f0 f1 x f3 f4 f5 f6 f7 f8 := by
  obtain ⟨hb, hg⟩ := h
  exact ⟨by simpa using blk_set hb 2 (.int .i64 x), hg⟩
theorem cellS103_3 {W : World} {g : Nat} {f0 : Int} {f1 : Int} {f2 : Int} {f3 : Int} {f4 : Int} {f5 : Int} {f6 : Int} {f7 : Int} {f8 : Int} (h : W.heap[g]? = some (.cells #[.int .i64 f0, .int .i64 f1, .int .i64 f2, .int .i64 f3, .int .i64 f4, .int .i64 f5, .int .i64 f6, .int .i64 f7, .int .i64 f8] 103 (0, 0))) : W.cell? ⟨g, 3, none⟩ = some (.int .i64 f3) := (blk_cell h 3).trans rfl
theorem IsS103.set_3 {w0 W : World} {g : Nat} {f0 : Int} {f1 : Int} {f2 : Int} {f3 : Int} {f4 : Int} {f5 : Int} {f6 : Int} {f7 : Int} {f8 : Int} (h : IsS103 w0 W g f0 f1 f2 f3 f4 f5 f6 f7 f8) (x : Int) : IsS103 w0 (W.setCell ⟨g, 3, none⟩ (.int .i64 x)) g f0 f1 f2 x f4 f5 f6 f7 f8 := by
  obtain ⟨hb, hg⟩ := h
  exact ⟨by simpa using blk_set hb 3 (.int .i64 x), hg⟩
theorem cellS103_4 {W : World} {g : Nat} {f0 : Int} {f1 : Int} {f2 : Int} {f3 : Int} {f4 : Int} {f5 : Int} {f6 : Int} {f7 : Int} {f8 : Int} (h : W.heap[g]? = some (.cells #[.int .i64 f0, .int .i64 f1, .int .i64 f2, .int .i64 f3, .int .i64 f4, .int .i64 f5, .int .i64 f6, .int .i64 f7, .int .i64 f8] 103 (0, 0))) : W.cell? ⟨g, 4, none⟩ = some (.int .i64 f4) := (blk_cell h 4).trans rfl
theorem IsS103.set_4 {w0 W : World} {g : Nat} {f0 : Int} {f1 : Int} {f2 : Int} {f3 : Int} {f4 : Int} {f5 : Int} {f6 : Int} {f7 : Int} {f8 : Int} (h : IsS103 w0 W g f0 f1 f2 f3 f4 f5 f6 f7 f8) (x : Int) : IsS103 w0 (W.setCell ⟨g, 4, none⟩ (.int .i64 x)) g f0 f1 f2 f3 x f5 f6 f7 f8 := by
  obtain ⟨hb, hg⟩ := h
  exact ⟨by simpa using blk_set hb 4 (.int .i64 x), hg⟩
theorem cellS103_5 {W : World} {g : Nat} {f0 : Int} {f1 : Int} {f2 : Int} {f3 : Int} {f4 : Int} {f5 : Int} {f6 : Int} {f7 : Int} {f8 : Int} (h : W.heap[g]? = some (.cells #[.int .i64 f0, .int .i64 f1, .int .i64 f2, .int .i64 f3, .int .i64 f4, .int .i64 f5, .int .i64 f6, .int .i64 f7, .int .i64 f8] 103 (0, 0))) : W.cell? ⟨g, 5, none⟩ = some (.int .i64 f5) := (blk_cell h 5).trans rfl
theorem IsS103.set_5 {w0 W : World} {g : Nat} {f0 : Int} {f1 : Int} {f2 : Int} {f3 : Int} {f4 : Int} {f5 : Int} {f6 : Int} {f7 : Int} {f8 : Int} (h : IsS103 w0 W g f0 f1 f2 f3 f4 f5 f6 f7 f8) (x : Int) : IsS103 w0 (W.setCell ⟨g, 5, none⟩ (.int .i64 x)) g f0 f1 f2 f3 f4 x f6 f7 f8 := by
  obtain ⟨hb, hg⟩ := h
  exact ⟨by simpa using blk_set hb 5 (.int .i64 x), hg⟩
theorem cellS103_6 {W : World} {g : Nat} {f0 : Int} {f1 : Int} {f2 : Int} {f3 : Int} {f4 : Int} {f5 : Int} {f6 : Int} {f7 : Int} {f8 : Int} (h : W.heap[g]? = some (.cells #[.int .i64 f0, .int .i64 f1, .int .i64 f2, .int .i64 f3, .int .i64 f4, .int .i64 f5, .int .i64 f6, .int .i64 f7, .int .i64 f8] 103 (0, 0))) : W.cell? ⟨g, 6, none⟩ = some (.int .i64 f6) := (blk_cell h 6).trans rfl
theorem IsS103.set_6 {w0 W : World} {g : Nat} {f0 : Int} {f1 : Int} {f2 : Int} {f3 : Int} {f4 : Int} {f5 : Int} {f6 : Int} {f7 : Int} {f8 : Int} (h : IsS103 w0 W g f0 f1 f2 f3 f4 f5 f6 f7 f8) (x : Int) : IsS103 w0 (W.setCell ⟨g, 6, none⟩ (.int .i64 x)) g f0 f1 f2 f3 f4 f5 x f7 f8 := by
  obtain ⟨hb, hg⟩ := h
  exact ⟨by simpa using blk_set hb 6 (.int .i64 x), hg⟩
theorem cellS103_7 {W : World} {g : Nat} {f0 : Int} {f1 : Int} {f2 : Int} {f3 : Int} {f4 : Int} {f5 : Int} {f6 : Int} {f7 : Int} {f8 : Int} (h : W.heap[g]? = some (.cells #[.int .i64 f0, .int .i64 f1, .int .i64 f2, .int .i64 f3, .int .i64 f4, .int .i64 f5, .int .i64 f6, .int .i64 f7, .int .i64 f8] 103 (0, 0))) : W.cell? ⟨g, 7, none⟩ = some (.int .i64 f7) := (blk_cell h 7).trans rfl
theorem IsS103.set_7 {w0 W : World} {g : Nat} {f0 : Int} {f1 : Int} {f2 : Int} {f3 : Int} {f4 : Int} {f5 : Int} {f6 : Int} {f7 : Int} {f8 : Int} (h : IsS103 w0 W g f0 f1 f2 f3 f4 f5 f6 f7 f8) (x : Int) : IsS103 w0 (W.setCell ⟨g, 7, none⟩ (.int .i64 x)) g f0 f1 f2 f3 f4 f5 f6 x f8 := by
  obtain ⟨hb, hg⟩ := h
  exact ⟨by simpa using blk_set hb 7 (.int .i64 x), hg⟩
theorem cellS103_8 {W : World} {g : Nat} {f0 : Int} {f1 : Int} {f2 : Int} {f3 : Int} {f4 : Int} {f5 : Int} {f6 : Int} {f7 : Int} {f8 : Int} (h : W.heap[g]? = some (.cells #[.int .i64 f0, .int .i64 f1, .int .i64 f2, .int .i64 f3, .int .i64 f4, .int .i64 f5, .int .i64 f6, .int .i64 f7, .int .i64 f8] 103 (0, 0))) : W.cell? ⟨g, 8, none⟩ = some (.int .i64 f8) := (blk_cell h 8).trans rfl
theorem IsS103.set_8 {w0 W : World} {g : Nat} {f0 : Int} {f1 : Int} {f2 : Int} {f3 : Int} {f4 : Int} {f5 : Int} {f6 : Int} {f7 : Int} {f8 : Int} (h : IsS103 w0 W g f0 f1 f2 f3 f4 f5 f6 f7 f8) (x : Int) : IsS103 w0 (W.setCell ⟨g, 8, none⟩ (.int .i64 x)) g f0 f1 f2 f3 f4 f5 f6 f7 x := by
  obtain ⟨hb, hg⟩ := h
  exact ⟨by simpa using blk_set hb 8 (.int .i64 x), hg⟩
theorem IsS103.new (w0 W : World) (f0 : Int) (f1 : Int) (f2 : Int) (f3 : Int) (f4 : Int) (f5 : Int) (f6 : Int) (f7 : Int) (f8 : Int) (hB : Below w0.heap.size w0 W) : IsS103 w0 (W.alloc (.cells #[.int .i64 f0, .int .i64 f1, .int .i64 f2, .int .i64 f3, .int .i64 f4, .int .i64 f5, .int .i64 f6, .int .i64 f7, .int .i64 f8] 103)) W.heap.size f0 f1 f2 f3 f4 f5 f6 f7 f8 := ⟨by simpa using heap_alloc_new W _, hB.size⟩

/-! ### spillwayref20_Dots_wrap: function 65 -/
def spillwayref20_Dots_wrap.f (s0_0 : Int) (s0_1 : Int) (s0_2 : Int) (s0_3 : Int) (s0_4 : Int) (s0_5 : Int) (s0_6 : Int) (s0_7 : Int) (s0_8 : Int) (a1 : Bool) : Option (Int × Int × Int × Int × Int × Int × Int × Int × Int) := if a1 = true then (some (s0_0, s0_1, s0_2, s0_3, wrap64 (s0_4 + 1), s0_5, s0_6, s0_7, s0_8)) else (some (s0_0, s0_1, s0_2, s0_3, s0_4, s0_5, s0_6, s0_7, s0_8))
set_option maxHeartbeats 8000000 in
set_option maxRecDepth 100000 in
theorem spillwayref20_Dots_wrap.calls (g : Nat) (s0_0 : Int) (s0_1 : Int) (s0_2 : Int) (s0_3 : Int) (s0_4 : Int) (s0_5 : Int) (s0_6 : Int) (s0_7 : Int) (s0_8 : Int) (a1 : Bool) (r1 : Int) (r2 : Int) (r3 : Int) (r4 : Int) (r5 : Int) (r6 : Int) (r7 : Int) (r8 : Int) (r9 : Int) (w0 w : World) (hI : IsS103 w0 w g s0_0 s0_1 s0_2 s0_3 s0_4 s0_5 s0_6 s0_7 s0_8) (hB : Below w0.heap.size w0 w) (h : spillwayref20_Dots_wrap.f s0_0 s0_1 s0_2 s0_3 s0_4 s0_5 s0_6 s0_7 s0_8 a1 = some (r1, r2, r3, r4, r5, r6, r7, r8, r9)) :
    Calls Try.prog 65 #[.pointer (some ⟨g, 0, none⟩), .bool a1] w fun e w' => e = .returned (.tuple #[]) ∧ IsS103 w0 w' g r1 r2 r3 r4 r5 r6 r7 r8 r9 ∧ Below w0.heap.size w0 w' ∧ KeepBut w w' g none := by
  have HI0 := Aside0.mk hI
  have HK := Aside0.mk (KeepBut.refl w g none)
  have HL := Aside0.mk hB.size
  clear hI
  have HW0 := Aside0.mk hB.size
  have HB := Aside0.mk hB
  clear hB
  have H : (if a1 = true then (some (s0_0, s0_1, s0_2, s0_3, wrap64 (s0_4 + 1), s0_5, s0_6, s0_7, s0_8)) else (some (s0_0, s0_1, s0_2, s0_3, s0_4, s0_5, s0_6, s0_7, s0_8))) = some (r1, r2, r3, r4, r5, r6, r7, r8, r9) := h
  clear h
  by_cases c3 : a1 = true
  · subst c3
    have H1 : (some (s0_0, s0_1, s0_2, s0_3, wrap64 (s0_4 + 1), s0_5, s0_6, s0_7, s0_8)) = some (r1, r2, r3, r4, r5, r6, r7, r8, r9) := by rw [if_pos rfl] at H; exact H
    clear H
    have H := H1
    clear H1
    simp only [Option.some.injEq, Prod.mk.injEq] at H
    obtain ⟨rfl, rfl, rfl, rfl, rfl, rfl, rfl, rfl, rfl⟩ := H
    obtain ⟨HGz4, hgz4⟩ := HI0.out
    have hcz4_0 := cellS103_0 HGz4
    have hcz4_1 := cellS103_1 HGz4
    have hcz4_2 := cellS103_2 HGz4
    have hcz4_3 := cellS103_3 HGz4
    have hcz4_4 := cellS103_4 HGz4
    have hcz4_5 := cellS103_5 HGz4
    have hcz4_6 := cellS103_6 HGz4
    have hcz4_7 := cellS103_7 HGz4
    have hcz4_8 := cellS103_8 HGz4
    have hfz4_0 := blk_frozen HGz4 0
    have hfz4_1 := blk_frozen HGz4 1
    have hfz4_2 := blk_frozen HGz4 2
    have hfz4_3 := blk_frozen HGz4 3
    have hfz4_4 := blk_frozen HGz4 4
    have hfz4_5 := blk_frozen HGz4 5
    have hfz4_6 := blk_frozen HGz4 6
    have hfz4_7 := blk_frozen HGz4 7
    have hfz4_8 := blk_frozen HGz4 8
    clear HGz4 hgz4
    go_enter Try.func65, Try.ntmps65
    go_wp2
    first | go_end0 | ((try simp only [Exit.inBlock, Exit.then]); refine bodyPost_ret (results_none rfl _ _ _) rfl ?_)
    exact ⟨by first | rfl | (simp [errW_none, errW_some] <;> rfl) | (simp [*, errW_none, errW_some] <;> rfl), by repeat (first | (with_reducible first | exact HI0.out | apply IsS103.alloc | apply IsS103.drewN | apply IsS103.drew | apply IsS103.set_0 | apply IsS103.set_1 | apply IsS103.set_2 | apply IsS103.set_3 | apply IsS103.set_4 | apply IsS103.set_5 | apply IsS103.set_6 | apply IsS103.set_7 | apply IsS103.set_8) | exact HI0.out), by repeat (first | (with_reducible first | exact HB.out | apply below_alloc | apply pw_below_drewN | apply below_drew1 | refine below_set ?_ (IsS103.ge HI0.out)) | exact HB.out), by repeat (first | (with_reducible first | exact HK.out | apply KeepBut.set_ | apply keep_drewN | apply keep_drew | apply keep_alloc) | exact HK.out)⟩
  · replace c3 := Bool.eq_false_iff.mpr c3
    subst c3
    have H1 : (some (s0_0, s0_1, s0_2, s0_3, s0_4, s0_5, s0_6, s0_7, s0_8)) = some (r1, r2, r3, r4, r5, r6, r7, r8, r9) := by rw [if_neg (show ¬ (false = true) by decide)] at H; exact H
    clear H
    have H := H1
    clear H1
    simp only [Option.some.injEq, Prod.mk.injEq] at H
    obtain ⟨rfl, rfl, rfl, rfl, rfl, rfl, rfl, rfl, rfl⟩ := H
    go_enter Try.func65, Try.ntmps65
    go_wp2
    first | go_end0 | ((try simp only [Exit.inBlock, Exit.then]); refine bodyPost_ret (results_none rfl _ _ _) rfl ?_)
    exact ⟨by first | rfl | (simp [errW_none, errW_some] <;> rfl) | (simp [*, errW_none, errW_some] <;> rfl), by repeat (first | (with_reducible first | exact HI0.out | apply IsS103.alloc | apply IsS103.drewN | apply IsS103.drew | apply IsS103.set_0 | apply IsS103.set_1 | apply IsS103.set_2 | apply IsS103.set_3 | apply IsS103.set_4 | apply IsS103.set_5 | apply IsS103.set_6 | apply IsS103.set_7 | apply IsS103.set_8) | exact HI0.out), by repeat (first | (with_reducible first | exact HB.out | apply below_alloc | apply pw_below_drewN | apply below_drew1 | refine below_set ?_ (IsS103.ge HI0.out)) | exact HB.out), by repeat (first | (with_reducible first | exact HK.out | apply KeepBut.set_ | apply keep_drewN | apply keep_drew | apply keep_alloc) | exact HK.out)⟩

/-! ### spillwayref20_Dots_plus: function 58 -/
def spillwayref20_Dots_plus.f (s0_0 : Int) (s0_1 : Int) (s0_2 : Int) (s0_3 : Int) (s0_4 : Int) (s0_5 : Int) (s0_6 : Int) (s0_7 : Int) (s0_8 : Int) (a1 : Int) (a2 : Int) (a3 : Int) : Option (Int × Int × Int × Int × Int × Int × Int × Int × Int × Int) := (spillwayref20_Add.f a1 a2 a3).bind fun bt141 => ((spillwayref20_Dots_wrap.f s0_0 s0_1 s0_2 s0_3 s0_4 s0_5 s0_6 s0_7 s0_8 bt141.2).bind fun bt143 => (if a1 = 16 then (if bt143.2.1 = 0 then (some (bt141.1, bt143.1, wrap64 (bt143.2.1 + 1), bt143.2.2.1, bt143.2.2.2.1, bt143.2.2.2.2.1, bt141.1, bt141.1, bt143.2.2.2.2.2.2.2.1, bt143.2.2.2.2.2.2.2.2)) else (some (bt141.1, bt143.1, wrap64 (bt143.2.1 + 1), bt143.2.2.1, bt143.2.2.2.1, bt143.2.2.2.2.1, mn bt143.2.2.2.2.2.1 bt141.1, mx bt143.2.2.2.2.2.2.1 bt141.1, bt143.2.2.2.2.2.2.2.1, bt143.2.2.2.2.2.2.2.2))) else (if bt143.2.2.2.1 = 0 then (some (bt141.1, bt143.1, bt143.2.1, bt143.2.2.1, wrap64 (bt143.2.2.2.1 + 1), bt143.2.2.2.2.1, bt143.2.2.2.2.2.1, bt143.2.2.2.2.2.2.1, bt141.1, bt141.1)) else (some (bt141.1, bt143.1, bt143.2.1, bt143.2.2.1, wrap64 (bt143.2.2.2.1 + 1), bt143.2.2.2.2.1, bt143.2.2.2.2.2.1, bt143.2.2.2.2.2.2.1, mn bt143.2.2.2.2.2.2.2.1 bt141.1, mx bt143.2.2.2.2.2.2.2.2 bt141.1)))))
set_option maxHeartbeats 8000000 in
set_option maxRecDepth 100000 in
theorem spillwayref20_Dots_plus.calls (g : Nat) (s0_0 : Int) (s0_1 : Int) (s0_2 : Int) (s0_3 : Int) (s0_4 : Int) (s0_5 : Int) (s0_6 : Int) (s0_7 : Int) (s0_8 : Int) (a1 : Int) (a2 : Int) (a3 : Int) (r1 : Int) (r2 : Int) (r3 : Int) (r4 : Int) (r5 : Int) (r6 : Int) (r7 : Int) (r8 : Int) (r9 : Int) (r10 : Int) (w0 w : World) (hI : IsS103 w0 w g s0_0 s0_1 s0_2 s0_3 s0_4 s0_5 s0_6 s0_7 s0_8) (hB : Below w0.heap.size w0 w) (h : spillwayref20_Dots_plus.f s0_0 s0_1 s0_2 s0_3 s0_4 s0_5 s0_6 s0_7 s0_8 a1 a2 a3 = some (r1, r2, r3, r4, r5, r6, r7, r8, r9, r10)) :
    Calls Try.prog 58 #[.pointer (some ⟨g, 0, none⟩), .int .i64 a1, .int .i64 a2, .int .i64 a3] w fun e w' => e = .returned (.int .i64 r1) ∧ IsS103 w0 w' g r2 r3 r4 r5 r6 r7 r8 r9 r10 ∧ Below w0.heap.size w0 w' ∧ KeepBut w w' g none := by
  have HI0 := Aside0.mk hI
  have HK := Aside0.mk (KeepBut.refl w g none)
  have HL := Aside0.mk hB.size
  clear hI
  have HW0 := Aside0.mk hB.size
  have HB := Aside0.mk hB
  clear hB
  have H : ((spillwayref20_Add.f a1 a2 a3).bind fun bt141 => ((spillwayref20_Dots_wrap.f s0_0 s0_1 s0_2 s0_3 s0_4 s0_5 s0_6 s0_7 s0_8 bt141.2).bind fun bt143 => (if a1 = 16 then (if bt143.2.1 = 0 then (some (bt141.1, bt143.1, wrap64 (bt143.2.1 + 1), bt143.2.2.1, bt143.2.2.2.1, bt143.2.2.2.2.1, bt141.1, bt141.1, bt143.2.2.2.2.2.2.2.1, bt143.2.2.2.2.2.2.2.2)) else (some (bt141.1, bt143.1, wrap64 (bt143.2.1 + 1), bt143.2.2.1, bt143.2.2.2.1, bt143.2.2.2.2.1, mn bt143.2.2.2.2.2.1 bt141.1, mx bt143.2.2.2.2.2.2.1 bt141.1, bt143.2.2.2.2.2.2.2.1, bt143.2.2.2.2.2.2.2.2))) else (if bt143.2.2.2.1 = 0 then (some (bt141.1, bt143.1, bt143.2.1, bt143.2.2.1, wrap64 (bt143.2.2.2.1 + 1), bt143.2.2.2.2.1, bt143.2.2.2.2.2.1, bt143.2.2.2.2.2.2.1, bt141.1, bt141.1)) else (some (bt141.1, bt143.1, bt143.2.1, bt143.2.2.1, wrap64 (bt143.2.2.2.1 + 1), bt143.2.2.2.2.1, bt143.2.2.2.2.2.1, bt143.2.2.2.2.2.2.1, mn bt143.2.2.2.2.2.2.2.1 bt141.1, mx bt143.2.2.2.2.2.2.2.2 bt141.1)))))) = some (r1, r2, r3, r4, r5, r6, r7, r8, r9, r10) := h
  clear h
  replace H := Option.bind_eq_some_iff.mp H
  obtain ⟨⟨t141, t142⟩, A50, H⟩ := H
  replace H : ((spillwayref20_Dots_wrap.f s0_0 s0_1 s0_2 s0_3 s0_4 s0_5 s0_6 s0_7 s0_8 t142).bind fun bt143 => (if a1 = 16 then (if bt143.2.1 = 0 then (some (t141, bt143.1, wrap64 (bt143.2.1 + 1), bt143.2.2.1, bt143.2.2.2.1, bt143.2.2.2.2.1, t141, t141, bt143.2.2.2.2.2.2.2.1, bt143.2.2.2.2.2.2.2.2)) else (some (t141, bt143.1, wrap64 (bt143.2.1 + 1), bt143.2.2.1, bt143.2.2.2.1, bt143.2.2.2.2.1, mn bt143.2.2.2.2.2.1 t141, mx bt143.2.2.2.2.2.2.1 t141, bt143.2.2.2.2.2.2.2.1, bt143.2.2.2.2.2.2.2.2))) else (if bt143.2.2.2.1 = 0 then (some (t141, bt143.1, bt143.2.1, bt143.2.2.1, wrap64 (bt143.2.2.2.1 + 1), bt143.2.2.2.2.1, bt143.2.2.2.2.2.1, bt143.2.2.2.2.2.2.1, t141, t141)) else (some (t141, bt143.1, bt143.2.1, bt143.2.2.1, wrap64 (bt143.2.2.2.1 + 1), bt143.2.2.2.2.1, bt143.2.2.2.2.2.1, bt143.2.2.2.2.2.2.1, mn bt143.2.2.2.2.2.2.2.1 t141, mx bt143.2.2.2.2.2.2.2.2 t141))))) = some (r1, r2, r3, r4, r5, r6, r7, r8, r9, r10) := H
  have A5 := Aside0.mk A50
  clear A50
  replace H := Option.bind_eq_some_iff.mp H
  obtain ⟨⟨t143, t144, t145, t146, t147, t148, t149, t150, t151⟩, A60, H⟩ := H
  replace H : (if a1 = 16 then (if t144 = 0 then (some (t141, t143, wrap64 (t144 + 1), t145, t146, t147, t141, t141, t150, t151)) else (some (t141, t143, wrap64 (t144 + 1), t145, t146, t147, mn t148 t141, mx t149 t141, t150, t151))) else (if t146 = 0 then (some (t141, t143, t144, t145, wrap64 (t146 + 1), t147, t148, t149, t141, t141)) else (some (t141, t143, t144, t145, wrap64 (t146 + 1), t147, t148, t149, mn t150 t141, mx t151 t141)))) = some (r1, r2, r3, r4, r5, r6, r7, r8, r9, r10) := H
  have A6 := Aside0.mk A60
  clear A60
  by_cases c7 : a1 = 16
  · rw [if_pos c7] at H
    have c7b0 : (a1 == 16) = true := beq_iff_eq.mpr c7
    have c7b1 : (a1 != 16) = false := bne_eq_false_iff_eq.mpr c7
    clear c7
    by_cases c8 : t144 = 0
    · rw [if_pos c8] at H
      have c8b0 : (t144 == 0) = true := beq_iff_eq.mpr c8
      have c8b1 : (t144 != 0) = false := bne_eq_false_iff_eq.mpr c8
      clear c8
      simp only [Option.some.injEq, Prod.mk.injEq] at H
      obtain ⟨rfl, rfl, rfl, rfl, rfl, rfl, rfl, rfl, rfl, rfl⟩ := H
      go_enter Try.func58, Try.ntmps58
      go_wp2_with (first | ((with_reducible refine gate_callee (f := 31) rfl ?_); refine goesL_ (some 16) rfl rfl Try.func31 (by kernel_rfl) rfl #[.int .i64 a1, .int .i64 a2, .int .i64 a3] rfl (by (try simp only [List.map_toArray, List.map_cons, List.map_nil]); first | done | rfl | (simp only [List.length_drop, List.length_take]; rfl)) ?_; (with_reducible refine (spillwayref20_Add.calls a1 a2 a3 t141 t142 _ A5.out).mono ?_); rintro e w' ⟨rfl, ⟨nd, rfl⟩⟩; refine ⟨_, rfl, ?_⟩) | ((with_reducible refine gate_callee (f := 65) rfl ?_); refine goesL_ (some 21) rfl rfl Try.func65 (by kernel_rfl) rfl #[.pointer (some ⟨g, 0, none⟩), .bool t142] rfl (by (try simp only [List.map_toArray, List.map_cons, List.map_nil]); first | done | rfl | (simp only [List.length_drop, List.length_take]; rfl)) ?_; (with_reducible refine (spillwayref20_Dots_wrap.calls g s0_0 s0_1 s0_2 s0_3 s0_4 s0_5 s0_6 s0_7 s0_8 t142 t143 t144 t145 t146 t147 t148 t149 t150 t151 w0 _ ?side1 ?side2 A6.out).mono ?_); (case side1 => repeat (first | (with_reducible first | exact HI0.out | apply IsS103.alloc | apply IsS103.drewN | apply IsS103.drew | apply IsS103.set_0 | apply IsS103.set_1 | apply IsS103.set_2 | apply IsS103.set_3 | apply IsS103.set_4 | apply IsS103.set_5 | apply IsS103.set_6 | apply IsS103.set_7 | apply IsS103.set_8) | exact HI0.out)); (case side2 => repeat (first | (with_reducible first | exact HB.out | apply below_alloc | apply pw_below_drewN | apply below_drew1 | refine below_set ?_ (IsS103.ge HI0.out)) | exact HB.out)); rintro e w9 ⟨rfl, hi, hb, hk⟩; refine ⟨_, rfl, ?_⟩; have n0_ := Aside0.mk (KeepBut.trans (by repeat (first | (with_reducible first | exact HK.out | apply KeepBut.set_ | apply keep_drewN | apply keep_drew | apply keep_alloc) | exact HK.out)) hk (.inl rfl)); have n1_ := Aside0.mk (hb); have n2_ := Aside0.mk (hi); clear HK; clear HB; clear HI0; have HK := n0_; have HB := n1_; have HI0 := n2_; clear n0_ n1_ n2_; (try clear hb); (try clear hb2); (try clear hk); (try clear hi); obtain ⟨HGz10, hgz10⟩ := HI0.out; have hcz10_0 := cellS103_0 HGz10; have hcz10_1 := cellS103_1 HGz10; have hcz10_2 := cellS103_2 HGz10; have hcz10_3 := cellS103_3 HGz10; have hcz10_4 := cellS103_4 HGz10; have hcz10_5 := cellS103_5 HGz10; have hcz10_6 := cellS103_6 HGz10; have hcz10_7 := cellS103_7 HGz10; have hcz10_8 := cellS103_8 HGz10; have hfz10_0 := blk_frozen HGz10 0; have hfz10_1 := blk_frozen HGz10 1; have hfz10_2 := blk_frozen HGz10 2; have hfz10_3 := blk_frozen HGz10 3; have hfz10_4 := blk_frozen HGz10 4; have hfz10_5 := blk_frozen HGz10 5; have hfz10_6 := blk_frozen HGz10 6; have hfz10_7 := blk_frozen HGz10 7; have hfz10_8 := blk_frozen HGz10 8; clear HGz10 hgz10))
      go_ret
      exact ⟨by first | rfl | (simp [errW_none, errW_some] <;> rfl) | (simp [*, errW_none, errW_some] <;> rfl), by repeat (first | (with_reducible first | exact HI0.out | apply IsS103.alloc | apply IsS103.drewN | apply IsS103.drew | apply IsS103.set_0 | apply IsS103.set_1 | apply IsS103.set_2 | apply IsS103.set_3 | apply IsS103.set_4 | apply IsS103.set_5 | apply IsS103.set_6 | apply IsS103.set_7 | apply IsS103.set_8) | exact HI0.out), by repeat (first | (with_reducible first | exact HB.out | apply below_alloc | apply pw_below_drewN | apply below_drew1 | refine below_set ?_ (IsS103.ge HI0.out)) | exact HB.out), by repeat (first | (with_reducible first | exact HK.out | apply KeepBut.set_ | apply keep_drewN | apply keep_drew | apply keep_alloc) | exact HK.out)⟩
    · rw [if_neg c8] at H
      have c8b0 : (t144 == 0) = false := beq_eq_false_iff_ne.mpr c8
      have c8b1 : (t144 != 0) = true := bne_iff_ne.mpr c8
      obtain ⟨ji11, hji11⟩ : ∃ j_ : Int, (mn t148 t141) = j_ := ⟨_, rfl⟩
      replace H : (some (t141, t143, wrap64 (t144 + 1), t145, t146, t147, ji11, mx t149 t141, t150, t151)) = some (r1, r2, r3, r4, r5, r6, r7, r8, r9, r10) := by first | (rw [hji11] at H; exact H) | (simp only [hji11] at H ⊢; exact H)
      (try rw [hji11] at A5)
      (try rw [hji11] at A6)
      have hji11_ : (if t141 < t148 then t141 else t148) = ji11 := hji11
      obtain ⟨ji12, hji12⟩ : ∃ j_ : Int, (mx t149 t141) = j_ := ⟨_, rfl⟩
      replace H : (some (t141, t143, wrap64 (t144 + 1), t145, t146, t147, ji11, ji12, t150, t151)) = some (r1, r2, r3, r4, r5, r6, r7, r8, r9, r10) := by first | (rw [hji12] at H; exact H) | (simp only [hji12] at H ⊢; exact H)
      (try rw [hji12] at A5)
      (try rw [hji12] at A6)
      have hji12_ : (if t149 < t141 then t141 else t149) = ji12 := hji12
      simp only [Option.some.injEq, Prod.mk.injEq] at H
      obtain ⟨rfl, rfl, rfl, rfl, rfl, rfl, rfl, rfl, rfl, rfl⟩ := H
      go_enter Try.func58, Try.ntmps58
      go_wp2_with (first | ((with_reducible refine gate_callee (f := 31) rfl ?_); refine goesL_ (some 16) rfl rfl Try.func31 (by kernel_rfl) rfl #[.int .i64 a1, .int .i64 a2, .int .i64 a3] rfl (by (try simp only [List.map_toArray, List.map_cons, List.map_nil]); first | done | rfl | (simp only [List.length_drop, List.length_take]; rfl)) ?_; (with_reducible refine (spillwayref20_Add.calls a1 a2 a3 t141 t142 _ A5.out).mono ?_); rintro e w' ⟨rfl, ⟨nd, rfl⟩⟩; refine ⟨_, rfl, ?_⟩) | ((with_reducible refine gate_callee (f := 65) rfl ?_); refine goesL_ (some 21) rfl rfl Try.func65 (by kernel_rfl) rfl #[.pointer (some ⟨g, 0, none⟩), .bool t142] rfl (by (try simp only [List.map_toArray, List.map_cons, List.map_nil]); first | done | rfl | (simp only [List.length_drop, List.length_take]; rfl)) ?_; (with_reducible refine (spillwayref20_Dots_wrap.calls g s0_0 s0_1 s0_2 s0_3 s0_4 s0_5 s0_6 s0_7 s0_8 t142 t143 t144 t145 t146 t147 t148 t149 t150 t151 w0 _ ?side1 ?side2 A6.out).mono ?_); (case side1 => repeat (first | (with_reducible first | exact HI0.out | apply IsS103.alloc | apply IsS103.drewN | apply IsS103.drew | apply IsS103.set_0 | apply IsS103.set_1 | apply IsS103.set_2 | apply IsS103.set_3 | apply IsS103.set_4 | apply IsS103.set_5 | apply IsS103.set_6 | apply IsS103.set_7 | apply IsS103.set_8) | exact HI0.out)); (case side2 => repeat (first | (with_reducible first | exact HB.out | apply below_alloc | apply pw_below_drewN | apply below_drew1 | refine below_set ?_ (IsS103.ge HI0.out)) | exact HB.out)); rintro e w13 ⟨rfl, hi, hb, hk⟩; refine ⟨_, rfl, ?_⟩; have n0_ := Aside0.mk (KeepBut.trans (by repeat (first | (with_reducible first | exact HK.out | apply KeepBut.set_ | apply keep_drewN | apply keep_drew | apply keep_alloc) | exact HK.out)) hk (.inl rfl)); have n1_ := Aside0.mk (hb); have n2_ := Aside0.mk (hi); clear HK; clear HB; clear HI0; have HK := n0_; have HB := n1_; have HI0 := n2_; clear n0_ n1_ n2_; (try clear hb); (try clear hb2); (try clear hk); (try clear hi); obtain ⟨HGz14, hgz14⟩ := HI0.out; have hcz14_0 := cellS103_0 HGz14; have hcz14_1 := cellS103_1 HGz14; have hcz14_2 := cellS103_2 HGz14; have hcz14_3 := cellS103_3 HGz14; have hcz14_4 := cellS103_4 HGz14; have hcz14_5 := cellS103_5 HGz14; have hcz14_6 := cellS103_6 HGz14; have hcz14_7 := cellS103_7 HGz14; have hcz14_8 := cellS103_8 HGz14; have hfz14_0 := blk_frozen HGz14 0; have hfz14_1 := blk_frozen HGz14 1; have hfz14_2 := blk_frozen HGz14 2; have hfz14_3 := blk_frozen HGz14 3; have hfz14_4 := blk_frozen HGz14 4; have hfz14_5 := blk_frozen HGz14 5; have hfz14_6 := blk_frozen HGz14 6; have hfz14_7 := blk_frozen HGz14 7; have hfz14_8 := blk_frozen HGz14 8; clear HGz14 hgz14))
      go_ret
      exact ⟨by first | rfl | (simp [errW_none, errW_some] <;> rfl) | (simp only [← hji11, ← hji12]; first | rfl | (simp [errW_none, errW_some] <;> rfl)) | (simp [*, errW_none, errW_some] <;> rfl), by repeat (first | (with_reducible first | exact HI0.out | apply IsS103.alloc | apply IsS103.drewN | apply IsS103.drew | apply IsS103.set_0 | apply IsS103.set_1 | apply IsS103.set_2 | apply IsS103.set_3 | apply IsS103.set_4 | apply IsS103.set_5 | apply IsS103.set_6 | apply IsS103.set_7 | apply IsS103.set_8) | exact HI0.out), by repeat (first | (with_reducible first | exact HB.out | apply below_alloc | apply pw_below_drewN | apply below_drew1 | refine below_set ?_ (IsS103.ge HI0.out)) | exact HB.out), by repeat (first | (with_reducible first | exact HK.out | apply KeepBut.set_ | apply keep_drewN | apply keep_drew | apply keep_alloc) | exact HK.out)⟩
  · rw [if_neg c7] at H
    have c7b0 : (a1 == 16) = false := beq_eq_false_iff_ne.mpr c7
    have c7b1 : (a1 != 16) = true := bne_iff_ne.mpr c7
    by_cases c15 : t146 = 0
    · rw [if_pos c15] at H
      have c15b0 : (t146 == 0) = true := beq_iff_eq.mpr c15
      have c15b1 : (t146 != 0) = false := bne_eq_false_iff_eq.mpr c15
      clear c15
      simp only [Option.some.injEq, Prod.mk.injEq] at H
      obtain ⟨rfl, rfl, rfl, rfl, rfl, rfl, rfl, rfl, rfl, rfl⟩ := H
      go_enter Try.func58, Try.ntmps58
      go_wp2_with (first | ((with_reducible refine gate_callee (f := 31) rfl ?_); refine goesL_ (some 16) rfl rfl Try.func31 (by kernel_rfl) rfl #[.int .i64 a1, .int .i64 a2, .int .i64 a3] rfl (by (try simp only [List.map_toArray, List.map_cons, List.map_nil]); first | done | rfl | (simp only [List.length_drop, List.length_take]; rfl)) ?_; (with_reducible refine (spillwayref20_Add.calls a1 a2 a3 t141 t142 _ A5.out).mono ?_); rintro e w' ⟨rfl, ⟨nd, rfl⟩⟩; refine ⟨_, rfl, ?_⟩) | ((with_reducible refine gate_callee (f := 65) rfl ?_); refine goesL_ (some 21) rfl rfl Try.func65 (by kernel_rfl) rfl #[.pointer (some ⟨g, 0, none⟩), .bool t142] rfl (by (try simp only [List.map_toArray, List.map_cons, List.map_nil]); first | done | rfl | (simp only [List.length_drop, List.length_take]; rfl)) ?_; (with_reducible refine (spillwayref20_Dots_wrap.calls g s0_0 s0_1 s0_2 s0_3 s0_4 s0_5 s0_6 s0_7 s0_8 t142 t143 t144 t145 t146 t147 t148 t149 t150 t151 w0 _ ?side1 ?side2 A6.out).mono ?_); (case side1 => repeat (first | (with_reducible first | exact HI0.out | apply IsS103.alloc | apply IsS103.drewN | apply IsS103.drew | apply IsS103.set_0 | apply IsS103.set_1 | apply IsS103.set_2 | apply IsS103.set_3 | apply IsS103.set_4 | apply IsS103.set_5 | apply IsS103.set_6 | apply IsS103.set_7 | apply IsS103.set_8) | exact HI0.out)); (case side2 => repeat (first | (with_reducible first | exact HB.out | apply below_alloc | apply pw_below_drewN | apply below_drew1 | refine below_set ?_ (IsS103.ge HI0.out)) | exact HB.out)); rintro e w16 ⟨rfl, hi, hb, hk⟩; refine ⟨_, rfl, ?_⟩; have n0_ := Aside0.mk (KeepBut.trans (by repeat (first | (with_reducible first | exact HK.out | apply KeepBut.set_ | apply keep_drewN | apply keep_drew | apply keep_alloc) | exact HK.out)) hk (.inl rfl)); have n1_ := Aside0.mk (hb); have n2_ := Aside0.mk (hi); clear HK; clear HB; clear HI0; have HK := n0_; have HB := n1_; have HI0 := n2_; clear n0_ n1_ n2_; (try clear hb); (try clear hb2); (try clear hk); (try clear hi); obtain ⟨HGz17, hgz17⟩ := HI0.out; have hcz17_0 := cellS103_0 HGz17; have hcz17_1 := cellS103_1 HGz17; have hcz17_2 := cellS103_2 HGz17; have hcz17_3 := cellS103_3 HGz17; have hcz17_4 := cellS103_4 HGz17; have hcz17_5 := cellS103_5 HGz17; have hcz17_6 := cellS103_6 HGz17; have hcz17_7 := cellS103_7 HGz17; have hcz17_8 := cellS103_8 HGz17; have hfz17_0 := blk_frozen HGz17 0; have hfz17_1 := blk_frozen HGz17 1; have hfz17_2 := blk_frozen HGz17 2; have hfz17_3 := blk_frozen HGz17 3; have hfz17_4 := blk_frozen HGz17 4; have hfz17_5 := blk_frozen HGz17 5; have hfz17_6 := blk_frozen HGz17 6; have hfz17_7 := blk_frozen HGz17 7; have hfz17_8 := blk_frozen HGz17 8; clear HGz17 hgz17))
      go_ret
      exact ⟨by first | rfl | (simp [errW_none, errW_some] <;> rfl) | (simp [*, errW_none, errW_some] <;> rfl), by repeat (first | (with_reducible first | exact HI0.out | apply IsS103.alloc | apply IsS103.drewN | apply IsS103.drew | apply IsS103.set_0 | apply IsS103.set_1 | apply IsS103.set_2 | apply IsS103.set_3 | apply IsS103.set_4 | apply IsS103.set_5 | apply IsS103.set_6 | apply IsS103.set_7 | apply IsS103.set_8) | exact HI0.out), by repeat (first | (with_reducible first | exact HB.out | apply below_alloc | apply pw_below_drewN | apply below_drew1 | refine below_set ?_ (IsS103.ge HI0.out)) | exact HB.out), by repeat (first | (with_reducible first | exact HK.out | apply KeepBut.set_ | apply keep_drewN | apply keep_drew | apply keep_alloc) | exact HK.out)⟩
    · rw [if_neg c15] at H
      have c15b0 : (t146 == 0) = false := beq_eq_false_iff_ne.mpr c15
      have c15b1 : (t146 != 0) = true := bne_iff_ne.mpr c15
      obtain ⟨ji18, hji18⟩ : ∃ j_ : Int, (mn t150 t141) = j_ := ⟨_, rfl⟩
      replace H : (some (t141, t143, t144, t145, wrap64 (t146 + 1), t147, t148, t149, ji18, mx t151 t141)) = some (r1, r2, r3, r4, r5, r6, r7, r8, r9, r10) := by first | (rw [hji18] at H; exact H) | (simp only [hji18] at H ⊢; exact H)
      (try rw [hji18] at A5)
      (try rw [hji18] at A6)
      have hji18_ : (if t141 < t150 then t141 else t150) = ji18 := hji18
      obtain ⟨ji19, hji19⟩ : ∃ j_ : Int, (mx t151 t141) = j_ := ⟨_, rfl⟩
      replace H : (some (t141, t143, t144, t145, wrap64 (t146 + 1), t147, t148, t149, ji18, ji19)) = some (r1, r2, r3, r4, r5, r6, r7, r8, r9, r10) := by first | (rw [hji19] at H; exact H) | (simp only [hji19] at H ⊢; exact H)
      (try rw [hji19] at A5)
      (try rw [hji19] at A6)
      have hji19_ : (if t151 < t141 then t141 else t151) = ji19 := hji19
      simp only [Option.some.injEq, Prod.mk.injEq] at H
      obtain ⟨rfl, rfl, rfl, rfl, rfl, rfl, rfl, rfl, rfl, rfl⟩ := H
      go_enter Try.func58, Try.ntmps58
      go_wp2_with (first | ((with_reducible refine gate_callee (f := 31) rfl ?_); refine goesL_ (some 16) rfl rfl Try.func31 (by kernel_rfl) rfl #[.int .i64 a1, .int .i64 a2, .int .i64 a3] rfl (by (try simp only [List.map_toArray, List.map_cons, List.map_nil]); first | done | rfl | (simp only [List.length_drop, List.length_take]; rfl)) ?_; (with_reducible refine (spillwayref20_Add.calls a1 a2 a3 t141 t142 _ A5.out).mono ?_); rintro e w' ⟨rfl, ⟨nd, rfl⟩⟩; refine ⟨_, rfl, ?_⟩) | ((with_reducible refine gate_callee (f := 65) rfl ?_); refine goesL_ (some 21) rfl rfl Try.func65 (by kernel_rfl) rfl #[.pointer (some ⟨g, 0, none⟩), .bool t142] rfl (by (try simp only [List.map_toArray, List.map_cons, List.map_nil]); first | done | rfl | (simp only [List.length_drop, List.length_take]; rfl)) ?_; (with_reducible refine (spillwayref20_Dots_wrap.calls g s0_0 s0_1 s0_2 s0_3 s0_4 s0_5 s0_6 s0_7 s0_8 t142 t143 t144 t145 t146 t147 t148 t149 t150 t151 w0 _ ?side1 ?side2 A6.out).mono ?_); (case side1 => repeat (first | (with_reducible first | exact HI0.out | apply IsS103.alloc | apply IsS103.drewN | apply IsS103.drew | apply IsS103.set_0 | apply IsS103.set_1 | apply IsS103.set_2 | apply IsS103.set_3 | apply IsS103.set_4 | apply IsS103.set_5 | apply IsS103.set_6 | apply IsS103.set_7 | apply IsS103.set_8) | exact HI0.out)); (case side2 => repeat (first | (with_reducible first | exact HB.out | apply below_alloc | apply pw_below_drewN | apply below_drew1 | refine below_set ?_ (IsS103.ge HI0.out)) | exact HB.out)); rintro e w20 ⟨rfl, hi, hb, hk⟩; refine ⟨_, rfl, ?_⟩; have n0_ := Aside0.mk (KeepBut.trans (by repeat (first | (with_reducible first | exact HK.out | apply KeepBut.set_ | apply keep_drewN | apply keep_drew | apply keep_alloc) | exact HK.out)) hk (.inl rfl)); have n1_ := Aside0.mk (hb); have n2_ := Aside0.mk (hi); clear HK; clear HB; clear HI0; have HK := n0_; have HB := n1_; have HI0 := n2_; clear n0_ n1_ n2_; (try clear hb); (try clear hb2); (try clear hk); (try clear hi); obtain ⟨HGz21, hgz21⟩ := HI0.out; have hcz21_0 := cellS103_0 HGz21; have hcz21_1 := cellS103_1 HGz21; have hcz21_2 := cellS103_2 HGz21; have hcz21_3 := cellS103_3 HGz21; have hcz21_4 := cellS103_4 HGz21; have hcz21_5 := cellS103_5 HGz21; have hcz21_6 := cellS103_6 HGz21; have hcz21_7 := cellS103_7 HGz21; have hcz21_8 := cellS103_8 HGz21; have hfz21_0 := blk_frozen HGz21 0; have hfz21_1 := blk_frozen HGz21 1; have hfz21_2 := blk_frozen HGz21 2; have hfz21_3 := blk_frozen HGz21 3; have hfz21_4 := blk_frozen HGz21 4; have hfz21_5 := blk_frozen HGz21 5; have hfz21_6 := blk_frozen HGz21 6; have hfz21_7 := blk_frozen HGz21 7; have hfz21_8 := blk_frozen HGz21 8; clear HGz21 hgz21))
      go_ret
      exact ⟨by first | rfl | (simp [errW_none, errW_some] <;> rfl) | (simp only [← hji18, ← hji19]; first | rfl | (simp [errW_none, errW_some] <;> rfl)) | (simp [*, errW_none, errW_some] <;> rfl), by repeat (first | (with_reducible first | exact HI0.out | apply IsS103.alloc | apply IsS103.drewN | apply IsS103.drew | apply IsS103.set_0 | apply IsS103.set_1 | apply IsS103.set_2 | apply IsS103.set_3 | apply IsS103.set_4 | apply IsS103.set_5 | apply IsS103.set_6 | apply IsS103.set_7 | apply IsS103.set_8) | exact HI0.out), by repeat (first | (with_reducible first | exact HB.out | apply below_alloc | apply pw_below_drewN | apply below_drew1 | refine below_set ?_ (IsS103.ge HI0.out)) | exact HB.out), by repeat (first | (with_reducible first | exact HK.out | apply KeepBut.set_ | apply keep_drewN | apply keep_drew | apply keep_alloc) | exact HK.out)⟩

/-! ### spillwayref20_Mul: function 32 -/
def spillwayref20_Mul.f (a0 : Int) (a1 : Int) (a2 : Int) : Option (Int × Bool) := (spillwayref01_Wrap.f a0 (wrap64 (a1 * a2))).bind fun t152 => ((spillwayref01_Fits.f a0 (wrap64 (a1 * a2))).bind fun t153 => (some (t152, !t153)))
set_option maxHeartbeats 8000000 in
set_option maxRecDepth 100000 in
theorem spillwayref20_Mul.calls (a0 : Int) (a1 : Int) (a2 : Int) (r1 : Int) (r2 : Bool) (w : World) (h : spillwayref20_Mul.f a0 a1 a2 = some (r1, r2)) :
    Calls Try.prog 32 #[.int .i64 a0, .int .i64 a1, .int .i64 a2] w fun e w' => e = .returned (.tuple #[.int .i64 r1, .bool r2]) ∧ Drawn0 w w' := by
  have H : ((spillwayref01_Wrap.f a0 (wrap64 (a1 * a2))).bind fun t152 => ((spillwayref01_Fits.f a0 (wrap64 (a1 * a2))).bind fun t153 => (some (t152, !t153)))) = some (r1, r2) := h
  clear h
  replace H := Option.bind_eq_some_iff.mp H
  obtain ⟨t152, A40, H⟩ := H
  replace H : ((spillwayref01_Fits.f a0 (wrap64 (a1 * a2))).bind fun t153 => (some (t152, !t153))) = some (r1, r2) := H
  have A4 := Aside0.mk A40
  clear A40
  replace H := Option.bind_eq_some_iff.mp H
  obtain ⟨t153, A50, H⟩ := H
  replace H : (some (t152, !t153)) = some (r1, r2) := H
  have A5 := Aside0.mk A50
  clear A50
  simp only [Option.some.injEq, Prod.mk.injEq] at H
  obtain ⟨rfl, rfl⟩ := H
  go_enter Try.func32, Try.ntmps32
  go_wp2_with (first | ((with_reducible refine gate_callee (f := 52) rfl ?_); refine goesL_ (some 12) rfl rfl Try.func52 (by kernel_rfl) rfl #[.int .i64 a0, .int .i64 (wrap64 (a1 * a2))] rfl (by (try simp only [List.map_toArray, List.map_cons, List.map_nil]); first | done | rfl | (simp only [List.length_drop, List.length_take]; rfl)) ?_; (with_reducible refine (spillwayref01_Wrap.calls a0 (wrap64 (a1 * a2)) t152 _ A4.out).mono ?_); rintro e w' ⟨rfl, ⟨nd, rfl⟩⟩; refine ⟨_, rfl, ?_⟩) | ((with_reducible refine gate_callee (f := 53) rfl ?_); refine goesL_ (some 17) rfl rfl Try.func53 (by kernel_rfl) rfl #[.int .i64 a0, .int .i64 (wrap64 (a1 * a2))] rfl (by (try simp only [List.map_toArray, List.map_cons, List.map_nil]); first | done | rfl | (simp only [List.length_drop, List.length_take]; rfl)) ?_; (with_reducible refine (spillwayref01_Fits.calls a0 (wrap64 (a1 * a2)) t153 _ A5.out).mono ?_); rintro e w' ⟨rfl, ⟨nd, rfl⟩⟩; refine ⟨_, rfl, ?_⟩))
  go_ret2
  exact ⟨by first | rfl | (simp; done) | (simp [*]; done), by repeat (first | exact Drawn0.refl _ | apply Drawn0.step)⟩

/-! ### spillwayref20_Dots_times: function 59 -/
def spillwayref20_Dots_times.f (s0_0 : Int) (s0_1 : Int) (s0_2 : Int) (s0_3 : Int) (s0_4 : Int) (s0_5 : Int) (s0_6 : Int) (s0_7 : Int) (s0_8 : Int) (a1 : Int) (a2 : Int) (a3 : Int) : Option (Int × Int × Int × Int × Int × Int × Int × Int × Int × Int) := (spillwayref20_Mul.f a1 a2 a3).bind fun bt154 => ((spillwayref20_Dots_wrap.f s0_0 s0_1 s0_2 s0_3 s0_4 s0_5 s0_6 s0_7 s0_8 bt154.2).bind fun bt156 => (if a1 = 16 then (some (bt154.1, wrap64 (bt156.1 + 1), bt156.2.1, bt156.2.2.1, bt156.2.2.2.1, bt156.2.2.2.2.1, bt156.2.2.2.2.2.1, bt156.2.2.2.2.2.2.1, bt156.2.2.2.2.2.2.2.1, bt156.2.2.2.2.2.2.2.2)) else (some (bt154.1, bt156.1, bt156.2.1, wrap64 (bt156.2.2.1 + 1), bt156.2.2.2.1, bt156.2.2.2.2.1, bt156.2.2.2.2.2.1, bt156.2.2.2.2.2.2.1, bt156.2.2.2.2.2.2.2.1, bt156.2.2.2.2.2.2.2.2))))
set_option maxHeartbeats 8000000 in
set_option maxRecDepth 100000 in
theorem spillwayref20_Dots_times.calls (g : Nat) (s0_0 : Int) (s0_1 : Int) (s0_2 : Int) (s0_3 : Int) (s0_4 : Int) (s0_5 : Int) (s0_6 : Int) (s0_7 : Int) (s0_8 : Int) (a1 : Int) (a2 : Int) (a3 : Int) (r1 : Int) (r2 : Int) (r3 : Int) (r4 : Int) (r5 : Int) (r6 : Int) (r7 : Int) (r8 : Int) (r9 : Int) (r10 : Int) (w0 w : World) (hI : IsS103 w0 w g s0_0 s0_1 s0_2 s0_3 s0_4 s0_5 s0_6 s0_7 s0_8) (hB : Below w0.heap.size w0 w) (h : spillwayref20_Dots_times.f s0_0 s0_1 s0_2 s0_3 s0_4 s0_5 s0_6 s0_7 s0_8 a1 a2 a3 = some (r1, r2, r3, r4, r5, r6, r7, r8, r9, r10)) :
    Calls Try.prog 59 #[.pointer (some ⟨g, 0, none⟩), .int .i64 a1, .int .i64 a2, .int .i64 a3] w fun e w' => e = .returned (.int .i64 r1) ∧ IsS103 w0 w' g r2 r3 r4 r5 r6 r7 r8 r9 r10 ∧ Below w0.heap.size w0 w' ∧ KeepBut w w' g none := by
  have HI0 := Aside0.mk hI
  have HK := Aside0.mk (KeepBut.refl w g none)
  have HL := Aside0.mk hB.size
  clear hI
  have HW0 := Aside0.mk hB.size
  have HB := Aside0.mk hB
  clear hB
  have H : ((spillwayref20_Mul.f a1 a2 a3).bind fun bt154 => ((spillwayref20_Dots_wrap.f s0_0 s0_1 s0_2 s0_3 s0_4 s0_5 s0_6 s0_7 s0_8 bt154.2).bind fun bt156 => (if a1 = 16 then (some (bt154.1, wrap64 (bt156.1 + 1), bt156.2.1, bt156.2.2.1, bt156.2.2.2.1, bt156.2.2.2.2.1, bt156.2.2.2.2.2.1, bt156.2.2.2.2.2.2.1, bt156.2.2.2.2.2.2.2.1, bt156.2.2.2.2.2.2.2.2)) else (some (bt154.1, bt156.1, bt156.2.1, wrap64 (bt156.2.2.1 + 1), bt156.2.2.2.1, bt156.2.2.2.2.1, bt156.2.2.2.2.2.1, bt156.2.2.2.2.2.2.1, bt156.2.2.2.2.2.2.2.1, bt156.2.2.2.2.2.2.2.2))))) = some (r1, r2, r3, r4, r5, r6, r7, r8, r9, r10) := h
  clear h
  replace H := Option.bind_eq_some_iff.mp H
  obtain ⟨⟨t154, t155⟩, A50, H⟩ := H
  replace H : ((spillwayref20_Dots_wrap.f s0_0 s0_1 s0_2 s0_3 s0_4 s0_5 s0_6 s0_7 s0_8 t155).bind fun bt156 => (if a1 = 16 then (some (t154, wrap64 (bt156.1 + 1), bt156.2.1, bt156.2.2.1, bt156.2.2.2.1, bt156.2.2.2.2.1, bt156.2.2.2.2.2.1, bt156.2.2.2.2.2.2.1, bt156.2.2.2.2.2.2.2.1, bt156.2.2.2.2.2.2.2.2)) else (some (t154, bt156.1, bt156.2.1, wrap64 (bt156.2.2.1 + 1), bt156.2.2.2.1, bt156.2.2.2.2.1, bt156.2.2.2.2.2.1, bt156.2.2.2.2.2.2.1, bt156.2.2.2.2.2.2.2.1, bt156.2.2.2.2.2.2.2.2)))) = some (r1, r2, r3, r4, r5, r6, r7, r8, r9, r10) := H
  have A5 := Aside0.mk A50
  clear A50
  replace H := Option.bind_eq_some_iff.mp H
  obtain ⟨⟨t156, t157, t158, t159, t160, t161, t162, t163, t164⟩, A60, H⟩ := H
  replace H : (if a1 = 16 then (some (t154, wrap64 (t156 + 1), t157, t158, t159, t160, t161, t162, t163, t164)) else (some (t154, t156, t157, wrap64 (t158 + 1), t159, t160, t161, t162, t163, t164))) = some (r1, r2, r3, r4, r5, r6, r7, r8, r9, r10) := H
  have A6 := Aside0.mk A60
  clear A60
  by_cases c7 : a1 = 16
  · rw [if_pos c7] at H
    have c7b0 : (a1 == 16) = true := beq_iff_eq.mpr c7
    have c7b1 : (a1 != 16) = false := bne_eq_false_iff_eq.mpr c7
    clear c7
    simp only [Option.some.injEq, Prod.mk.injEq] at H
    obtain ⟨rfl, rfl, rfl, rfl, rfl, rfl, rfl, rfl, rfl, rfl⟩ := H
    go_enter Try.func59, Try.ntmps59
    go_wp2_with (first | ((with_reducible refine gate_callee (f := 32) rfl ?_); refine goesL_ (some 15) rfl rfl Try.func32 (by kernel_rfl) rfl #[.int .i64 a1, .int .i64 a2, .int .i64 a3] rfl (by (try simp only [List.map_toArray, List.map_cons, List.map_nil]); first | done | rfl | (simp only [List.length_drop, List.length_take]; rfl)) ?_; (with_reducible refine (spillwayref20_Mul.calls a1 a2 a3 t154 t155 _ A5.out).mono ?_); rintro e w' ⟨rfl, ⟨nd, rfl⟩⟩; refine ⟨_, rfl, ?_⟩) | ((with_reducible refine gate_callee (f := 65) rfl ?_); refine goesL_ (some 20) rfl rfl Try.func65 (by kernel_rfl) rfl #[.pointer (some ⟨g, 0, none⟩), .bool t155] rfl (by (try simp only [List.map_toArray, List.map_cons, List.map_nil]); first | done | rfl | (simp only [List.length_drop, List.length_take]; rfl)) ?_; (with_reducible refine (spillwayref20_Dots_wrap.calls g s0_0 s0_1 s0_2 s0_3 s0_4 s0_5 s0_6 s0_7 s0_8 t155 t156 t157 t158 t159 t160 t161 t162 t163 t164 w0 _ ?side1 ?side2 A6.out).mono ?_); (case side1 => repeat (first | (with_reducible first | exact HI0.out | apply IsS103.alloc | apply IsS103.drewN | apply IsS103.drew | apply IsS103.set_0 | apply IsS103.set_1 | apply IsS103.set_2 | apply IsS103.set_3 | apply IsS103.set_4 | apply IsS103.set_5 | apply IsS103.set_6 | apply IsS103.set_7 | apply IsS103.set_8) | exact HI0.out)); (case side2 => repeat (first | (with_reducible first | exact HB.out | apply below_alloc | apply pw_below_drewN | apply below_drew1 | refine below_set ?_ (IsS103.ge HI0.out)) | exact HB.out)); rintro e w8 ⟨rfl, hi, hb, hk⟩; refine ⟨_, rfl, ?_⟩; have n0_ := Aside0.mk (KeepBut.trans (by repeat (first | (with_reducible first | exact HK.out | apply KeepBut.set_ | apply keep_drewN | apply keep_drew | apply keep_alloc) | exact HK.out)) hk (.inl rfl)); have n1_ := Aside0.mk (hb); have n2_ := Aside0.mk (hi); clear HK; clear HB; clear HI0; have HK := n0_; have HB := n1_; have HI0 := n2_; clear n0_ n1_ n2_; (try clear hb); (try clear hb2); (try clear hk); (try clear hi); obtain ⟨HGz9, hgz9⟩ := HI0.out; have hcz9_0 := cellS103_0 HGz9; have hcz9_1 := cellS103_1 HGz9; have hcz9_2 := cellS103_2 HGz9; have hcz9_3 := cellS103_3 HGz9; have hcz9_4 := cellS103_4 HGz9; have hcz9_5 := cellS103_5 HGz9; have hcz9_6 := cellS103_6 HGz9; have hcz9_7 := cellS103_7 HGz9; have hcz9_8 := cellS103_8 HGz9; have hfz9_0 := blk_frozen HGz9 0; have hfz9_1 := blk_frozen HGz9 1; have hfz9_2 := blk_frozen HGz9 2; have hfz9_3 := blk_frozen HGz9 3; have hfz9_4 := blk_frozen HGz9 4; have hfz9_5 := blk_frozen HGz9 5; have hfz9_6 := blk_frozen HGz9 6; have hfz9_7 := blk_frozen HGz9 7; have hfz9_8 := blk_frozen HGz9 8; clear HGz9 hgz9))
    go_ret
    exact ⟨by first | rfl | (simp [errW_none, errW_some] <;> rfl) | (simp [*, errW_none, errW_some] <;> rfl), by repeat (first | (with_reducible first | exact HI0.out | apply IsS103.alloc | apply IsS103.drewN | apply IsS103.drew | apply IsS103.set_0 | apply IsS103.set_1 | apply IsS103.set_2 | apply IsS103.set_3 | apply IsS103.set_4 | apply IsS103.set_5 | apply IsS103.set_6 | apply IsS103.set_7 | apply IsS103.set_8) | exact HI0.out), by repeat (first | (with_reducible first | exact HB.out | apply below_alloc | apply pw_below_drewN | apply below_drew1 | refine below_set ?_ (IsS103.ge HI0.out)) | exact HB.out), by repeat (first | (with_reducible first | exact HK.out | apply KeepBut.set_ | apply keep_drewN | apply keep_drew | apply keep_alloc) | exact HK.out)⟩
  · rw [if_neg c7] at H
    have c7b0 : (a1 == 16) = false := beq_eq_false_iff_ne.mpr c7
    have c7b1 : (a1 != 16) = true := bne_iff_ne.mpr c7
    simp only [Option.some.injEq, Prod.mk.injEq] at H
    obtain ⟨rfl, rfl, rfl, rfl, rfl, rfl, rfl, rfl, rfl, rfl⟩ := H
    go_enter Try.func59, Try.ntmps59
    go_wp2_with (first | ((with_reducible refine gate_callee (f := 32) rfl ?_); refine goesL_ (some 15) rfl rfl Try.func32 (by kernel_rfl) rfl #[.int .i64 a1, .int .i64 a2, .int .i64 a3] rfl (by (try simp only [List.map_toArray, List.map_cons, List.map_nil]); first | done | rfl | (simp only [List.length_drop, List.length_take]; rfl)) ?_; (with_reducible refine (spillwayref20_Mul.calls a1 a2 a3 t154 t155 _ A5.out).mono ?_); rintro e w' ⟨rfl, ⟨nd, rfl⟩⟩; refine ⟨_, rfl, ?_⟩) | ((with_reducible refine gate_callee (f := 65) rfl ?_); refine goesL_ (some 20) rfl rfl Try.func65 (by kernel_rfl) rfl #[.pointer (some ⟨g, 0, none⟩), .bool t155] rfl (by (try simp only [List.map_toArray, List.map_cons, List.map_nil]); first | done | rfl | (simp only [List.length_drop, List.length_take]; rfl)) ?_; (with_reducible refine (spillwayref20_Dots_wrap.calls g s0_0 s0_1 s0_2 s0_3 s0_4 s0_5 s0_6 s0_7 s0_8 t155 t156 t157 t158 t159 t160 t161 t162 t163 t164 w0 _ ?side1 ?side2 A6.out).mono ?_); (case side1 => repeat (first | (with_reducible first | exact HI0.out | apply IsS103.alloc | apply IsS103.drewN | apply IsS103.drew | apply IsS103.set_0 | apply IsS103.set_1 | apply IsS103.set_2 | apply IsS103.set_3 | apply IsS103.set_4 | apply IsS103.set_5 | apply IsS103.set_6 | apply IsS103.set_7 | apply IsS103.set_8) | exact HI0.out)); (case side2 => repeat (first | (with_reducible first | exact HB.out | apply below_alloc | apply pw_below_drewN | apply below_drew1 | refine below_set ?_ (IsS103.ge HI0.out)) | exact HB.out)); rintro e w10 ⟨rfl, hi, hb, hk⟩; refine ⟨_, rfl, ?_⟩; have n0_ := Aside0.mk (KeepBut.trans (by repeat (first | (with_reducible first | exact HK.out | apply KeepBut.set_ | apply keep_drewN | apply keep_drew | apply keep_alloc) | exact HK.out)) hk (.inl rfl)); have n1_ := Aside0.mk (hb); have n2_ := Aside0.mk (hi); clear HK; clear HB; clear HI0; have HK := n0_; have HB := n1_; have HI0 := n2_; clear n0_ n1_ n2_; (try clear hb); (try clear hb2); (try clear hk); (try clear hi); obtain ⟨HGz11, hgz11⟩ := HI0.out; have hcz11_0 := cellS103_0 HGz11; have hcz11_1 := cellS103_1 HGz11; have hcz11_2 := cellS103_2 HGz11; have hcz11_3 := cellS103_3 HGz11; have hcz11_4 := cellS103_4 HGz11; have hcz11_5 := cellS103_5 HGz11; have hcz11_6 := cellS103_6 HGz11; have hcz11_7 := cellS103_7 HGz11; have hcz11_8 := cellS103_8 HGz11; have hfz11_0 := blk_frozen HGz11 0; have hfz11_1 := blk_frozen HGz11 1; have hfz11_2 := blk_frozen HGz11 2; have hfz11_3 := blk_frozen HGz11 3; have hfz11_4 := blk_frozen HGz11 4; have hfz11_5 := blk_frozen HGz11 5; have hfz11_6 := blk_frozen HGz11 6; have hfz11_7 := blk_frozen HGz11 7; have hfz11_8 := blk_frozen HGz11 8; clear HGz11 hgz11))
    go_ret
    exact ⟨by first | rfl | (simp [errW_none, errW_some] <;> rfl) | (simp [*, errW_none, errW_some] <;> rfl), by repeat (first | (with_reducible first | exact HI0.out | apply IsS103.alloc | apply IsS103.drewN | apply IsS103.drew | apply IsS103.set_0 | apply IsS103.set_1 | apply IsS103.set_2 | apply IsS103.set_3 | apply IsS103.set_4 | apply IsS103.set_5 | apply IsS103.set_6 | apply IsS103.set_7 | apply IsS103.set_8) | exact HI0.out), by repeat (first | (with_reducible first | exact HB.out | apply below_alloc | apply pw_below_drewN | apply below_drew1 | refine below_set ?_ (IsS103.ge HI0.out)) | exact HB.out), by repeat (first | (with_reducible first | exact HK.out | apply KeepBut.set_ | apply keep_drewN | apply keep_drew | apply keep_alloc) | exact HK.out)⟩

end Go.Proofs.Ytnbhimgojnclbaa.CLneDots
