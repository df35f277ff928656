-- PRINTED by print.py (a twelfth state) out of the translation. Not trusted: Lean checks it.
import Derived.Test.YtfccnnlbiniahaaQx0
import Derived.Test.YtfccnnlbiniahaaQx7
namespace Go.Proofs.Ytfccnnlbiniahaa.Q
open Go.RowKit Go.Proofs.YtfccnnlbiniahaaW.PrintWords Go.Proofs.YtfccnnlbiniahaaW.PrintLast Go.Proofs.YtfccnnlbiniahaaW.PrintMore
attribute [local go_sem] max2_int min2_int max_two min_two max_three min_three max_four min_four   -- for this text's walks alone
set_option linter.unusedVariables false
set_option linter.unusedSimpArgs false

/-! ### num_Sat_int16: function 33 -/
def num_Sat_int16.l0 : Nat → Int → Int → Int → Option (Int)
  | 0, _, _, _ => none
  | k + 1, x0, x3, x4 => if x4 > 0 then (num_Sat_int16.l0 k x0 x4 (IntKind.i16.wrap (x4 * 2))) else (if x0 < 0 then (some (IntKind.i16.wrap ((IntKind.i16.wrap (-x3)) - x3))) else (some (IntKind.i16.wrap ((IntKind.i16.wrap (x3 - 1)) + x3))))
def num_Sat_int16.f (k : Nat) (a0 : Int) : Option (Int) := (num_Fits_int16.f a0).bind fun t153 => (if t153 = true then (some (IntKind.i16.wrap (a0))) else (num_Sat_int16.l0 k a0 1 (1 * 2)))
theorem num_Sat_int16.mono_l : ∀ k, (∀ y0 y1 y2, LeO (num_Sat_int16.l0 k y0 y1 y2) (num_Sat_int16.l0 (k + 1) y0 y1 y2))
  | 0 => fun _ _ _ r h => by simp [num_Sat_int16.l0] at h
  | k + 1 => by
    have ih0 := num_Sat_int16.mono_l k
    · intro y0 y1 y2
      unfold num_Sat_int16.l0
      repeat' first
      | (with_reducible exact ih0 _ _ _)
      | (with_reducible exact LeO.refl _)
      | (with_reducible exact LeO.none _)
      | (with_reducible refine LeO.ite ?_ ?_)
      | (with_reducible refine LeO.bind ?_ (fun _ => ?_))
      | exact ih0 _ _ _
      | exact LeO.none _
      | refine LeO.ite ?_ ?_
      | refine LeO.bind ?_ (fun _ => ?_)
theorem num_Sat_int16.mono : ∀ a0 k, LeO (num_Sat_int16.f k a0) (num_Sat_int16.f (k + 1) a0) := by
  intro a0 k
  have ih0 := num_Sat_int16.mono_l k
  unfold num_Sat_int16.f
  repeat' first
      | (with_reducible exact ih0 _ _ _)
      | (with_reducible exact LeO.refl _)
      | (with_reducible exact LeO.none _)
      | (with_reducible refine LeO.ite ?_ ?_)
      | (with_reducible refine LeO.bind ?_ (fun _ => ?_))
      | exact ih0 _ _ _
      | exact LeO.none _
      | refine LeO.ite ?_ ?_
      | refine LeO.bind ?_ (fun _ => ?_)
set_option maxHeartbeats 8000000 in
set_option maxRecDepth 100000 in
theorem num_Sat_int16.calls (k : Nat) (a0 : Int) (r : Int) (w : World) (h : num_Sat_int16.f k a0 = some r) :
    Calls Try.prog 33 #[.int .i64 a0] w fun e w' => e = .returned (.int .i16 r) ∧ Drawn0 w w' := by
  have H : ((num_Fits_int16.f a0).bind fun t153 => (if t153 = true then (some (IntKind.i16.wrap (a0))) else (num_Sat_int16.l0 k a0 1 (1 * 2)))) = some r := h
  clear h
  replace H := Option.bind_eq_some_iff.mp H
  obtain ⟨t153, A20, H⟩ := H
  replace H : (if t153 = true then (some (IntKind.i16.wrap (a0))) else (num_Sat_int16.l0 k a0 1 (1 * 2))) = some r := H
  have A2 := Aside0.mk A20
  clear A20
  by_cases c3 : t153 = true
  · subst c3
    have H1 : (some (IntKind.i16.wrap (a0))) = some r := by rw [if_pos rfl] at H; exact H
    clear H
    have H := H1
    clear H1
    obtain rfl := Option.some.inj H
    go_enter Try.func33, Try.ntmps33
    go_wp2_with (first | ((with_reducible refine gate_callee (f := 29) rfl ?_); refine goesL_ (some 6) rfl rfl Try.func29 (by kernel_rfl) rfl #[.int .i64 a0] rfl (by (try simp only [List.map_toArray, List.map_cons, List.map_nil]); first | done | rfl | (simp only [List.length_drop, List.length_take]; rfl)) ?_; (with_reducible refine (num_Fits_int16.calls a0 true _ A2.out).mono ?_); rintro e w' ⟨rfl, ⟨nd, rfl⟩⟩; refine ⟨_, rfl, ?_⟩))
    go_ret
    exact ⟨by first | rfl | (simp; done) | (simp [*]; done), by repeat (first | exact Drawn0.refl _ | apply Drawn0.step)⟩
  · replace c3 := Bool.eq_false_iff.mpr c3
    subst c3
    have H1 : (num_Sat_int16.l0 k a0 1 (1 * 2)) = some r := by rw [if_neg (show ¬ (false = true) by decide)] at H; exact H
    clear H
    have H := H1
    clear H1
    have H' := Aside0.mk H
    clear H
    go_enter Try.func33, Try.ntmps33
    go_wp2_with (first | ((with_reducible refine gate_callee (f := 29) rfl ?_); refine goesL_ (some 6) rfl rfl Try.func29 (by kernel_rfl) rfl #[.int .i64 a0] rfl (by (try simp only [List.map_toArray, List.map_cons, List.map_nil]); first | done | rfl | (simp only [List.length_drop, List.length_take]; rfl)) ?_; (with_reducible refine (num_Fits_int16.calls a0 false _ A2.out).mono ?_); rintro e w' ⟨rfl, ⟨nd, rfl⟩⟩; refine ⟨_, rfl, ?_⟩))
    go_loopg [3, 4] k (fun kq v3 v4 w' => ∃ (x3_1 : Int) (x4_1 : Int), v3 = .int .i16 x3_1 ∧ v4 = .int .i16 x4_1 ∧ Aside0 (num_Sat_int16.l0 kq a0 x3_1 x4_1 = some r) ∧ Aside0 (kq ≤ k) ∧ Drawn0 w w')
    case atStart => exact ⟨(1), (1 * 2), (by first | rfl | (simp; done) | (simp [*]; done)), (by first | rfl | (simp; done) | (simp [*]; done)), H', ⟨Nat.le_refl _⟩, by repeat (first | exact Drawn0.refl _ | apply Drawn0.step)⟩
    case round =>
      clear H'
      try clear c2
      try clear p2
      try clear c3
      obtain ⟨x3_1, x4_1, rfl, rfl, HA, HK1, ⟨m1, rfl⟩⟩ := hrel
      cases gk with
      | zero => exact absurd HA.out (by simp [num_Sat_int16.l0])
      | succ k1 =>
        have H := HA.out
        clear HA
        simp only [num_Sat_int16.l0] at H
        by_cases c4 : x4_1 > 0
        · rw [if_pos c4] at H
          have c4b0 : decide (0 < x4_1) = true := decide_eq_true c4
          clear c4
          have H' := Aside0.mk H
          clear H
          go_wp2
          go_roundg k1
          case measure => have := HK1.out; omega
          case rel => exact ⟨(x4_1), (IntKind.i16.wrap (x4_1 * 2)), (by first | rfl | (simp; done) | (simp [*]; done)), (by first | rfl | (simp; done) | (simp [*]; done)), H', ⟨by have := HK1.out; omega⟩, by repeat (first | exact Drawn0.refl _ | apply Drawn0.step)⟩
        · rw [if_neg c4] at H
          have c4b0 : decide (0 < x4_1) = false := decide_eq_false c4
          clear c4
          by_cases c5 : a0 < 0
          · rw [if_pos c5] at H
            have c5b0 : decide (a0 < 0) = true := decide_eq_true c5
            clear c5
            obtain rfl := Option.some.inj H
            go_wp2
            go_ret
            exact ⟨by first | rfl | (simp; done) | (simp [*]; done), by repeat (first | exact Drawn0.refl _ | apply Drawn0.step)⟩
          · rw [if_neg c5] at H
            have c5b0 : decide (a0 < 0) = false := decide_eq_false c5
            clear c5
            obtain rfl := Option.some.inj H
            go_wp2
            go_ret
            exact ⟨by first | rfl | (simp; done) | (simp [*]; done), by repeat (first | exact Drawn0.refl _ | apply Drawn0.step)⟩

/-! ### num_Wrap_int16: function 37 -/
def num_Wrap_int16.f (a0 : Int) : Option (Int) := some (IntKind.i16.wrap (a0))
set_option maxHeartbeats 8000000 in
set_option maxRecDepth 100000 in
theorem num_Wrap_int16.calls (a0 : Int) (r : Int) (w : World) (h : num_Wrap_int16.f a0 = some r) :
    Calls Try.prog 37 #[.int .i64 a0] w fun e w' => e = .returned (.int .i16 r) ∧ Drawn0 w w' := by
  have H : (some (IntKind.i16.wrap (a0))) = some r := h
  clear h
  obtain rfl := Option.some.inj H
  go_enter Try.func37, Try.ntmps37
  go_wp2
  go_ret
  exact ⟨by first | rfl | (simp; done) | (simp [*]; done), by repeat (first | exact Drawn0.refl _ | apply Drawn0.step)⟩

/-! ### num_Clamp: function 39 -/
def num_Clamp.f (a0 : Int) (a1 : Int) (a2 : Int) : Option (Int) := if a0 > a2 then (some a2) else (if a0 < a1 then (some a1) else (some a0))
set_option maxHeartbeats 8000000 in
set_option maxRecDepth 100000 in
theorem num_Clamp.calls (a0 : Int) (a1 : Int) (a2 : Int) (r : Int) (w : World) (h : num_Clamp.f a0 a1 a2 = some r) :
    Calls Try.prog 39 #[.int .i64 a0, .int .i64 a1, .int .i64 a2] w fun e w' => e = .returned (.int .i64 r) ∧ Drawn0 w w' := by
  have H : (if a0 > a2 then (some a2) else (if a0 < a1 then (some a1) else (some a0))) = some r := h
  clear h
  by_cases c4 : a0 > a2
  · rw [if_pos c4] at H
    have c4b0 : decide (a2 < a0) = true := decide_eq_true c4
    clear c4
    obtain rfl := Option.some.inj H
    go_enter Try.func39, Try.ntmps39
    go_wp2
    go_ret
    exact ⟨by first | rfl | (simp; done) | (simp [*]; done), by repeat (first | exact Drawn0.refl _ | apply Drawn0.step)⟩
  · rw [if_neg c4] at H
    have c4b0 : decide (a2 < a0) = false := decide_eq_false c4
    clear c4
    by_cases c5 : a0 < a1
    · rw [if_pos c5] at H
      have c5b0 : decide (a0 < a1) = true := decide_eq_true c5
      clear c5
      obtain rfl := Option.some.inj H
      go_enter Try.func39, Try.ntmps39
      go_wp2
      go_ret
      exact ⟨by first | rfl | (simp; done) | (simp [*]; done), by repeat (first | exact Drawn0.refl _ | apply Drawn0.step)⟩
    · rw [if_neg c5] at H
      have c5b0 : decide (a0 < a1) = false := decide_eq_false c5
      clear c5
      obtain rfl := Option.some.inj H
      go_enter Try.func39, Try.ntmps39
      go_wp2
      go_ret
      exact ⟨by first | rfl | (simp; done) | (simp [*]; done), by repeat (first | exact Drawn0.refl _ | apply Drawn0.step)⟩

end Go.Proofs.Ytfccnnlbiniahaa.Q
