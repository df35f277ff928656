-- PRINTED by print.py (a twelfth state) out of the translation. Not trusted: Lean checks it.
import Derived.Test.YtnbhimgojnclbaaCLneDotsx0
namespace Go.Proofs.Ytnbhimgojnclbaa.CLneDots
open Go.RowKit Go.Proofs.YtnbhimgojnclbaaW.PrintWords Go.Proofs.YtnbhimgojnclbaaW.PrintLast Go.Proofs.YtnbhimgojnclbaaW.PrintMore
attribute [local go_sem] max2_int min2_int max_two min_two max_three min_three max_four min_four   -- for this text's walks alone
set_option linter.unusedVariables false
set_option linter.unusedSimpArgs false

/-! ### lane_Add_int16: function 27 -/
def lane_Add_int16.f (a0 : Int) (a1 : Int) : Option (Int × Bool) := some (IntKind.i16.wrap (a0 + a1), ((decide ((IntKind.i16.wrap (a0 + a1)) < a0)) == (decide (a1 < 0))))
set_option maxHeartbeats 8000000 in
set_option maxRecDepth 100000 in
theorem lane_Add_int16.calls (a0 : Int) (a1 : Int) (r1 : Int) (r2 : Bool) (w : World) (h : lane_Add_int16.f a0 a1 = some (r1, r2)) :
    Calls Try.prog 27 #[.int .i16 a0, .int .i16 a1] w fun e w' => e = .returned (.tuple #[.int .i16 r1, .bool r2]) ∧ Drawn0 w w' := by
  have H : (some (IntKind.i16.wrap (a0 + a1), ((decide ((IntKind.i16.wrap (a0 + a1)) < a0)) == (decide (a1 < 0))))) = some (r1, r2) := h
  clear h
  simp only [Option.some.injEq, Prod.mk.injEq] at H
  obtain ⟨rfl, rfl⟩ := H
  go_enter Try.func27, Try.ntmps27
  go_wp2
  go_ret2
  exact ⟨by first | rfl | (simp; done) | (simp [*]; done), by repeat (first | exact Drawn0.refl _ | apply Drawn0.step)⟩

/-! ### lane_Mul_int16: function 28 -/
def lane_Mul_int16.f (a0 : Int) (a1 : Int) : Option (Int × Bool) := some (IntKind.i16.wrap (a0 * a1), ((wrap64 (IntKind.i16.wrap (a0 * a1))) == (wrap64 ((wrap64 (a0)) * (wrap64 (a1))))))
set_option maxHeartbeats 8000000 in
set_option maxRecDepth 100000 in
theorem lane_Mul_int16.calls (a0 : Int) (a1 : Int) (r1 : Int) (r2 : Bool) (w : World) (h : lane_Mul_int16.f a0 a1 = some (r1, r2)) :
    Calls Try.prog 28 #[.int .i16 a0, .int .i16 a1] w fun e w' => e = .returned (.tuple #[.int .i16 r1, .bool r2]) ∧ Drawn0 w w' := by
  have H : (some (IntKind.i16.wrap (a0 * a1), ((wrap64 (IntKind.i16.wrap (a0 * a1))) == (wrap64 ((wrap64 (a0)) * (wrap64 (a1))))))) = some (r1, r2) := h
  clear h
  simp only [Option.some.injEq, Prod.mk.injEq] at H
  obtain ⟨rfl, rfl⟩ := H
  go_enter Try.func28, Try.ntmps28
  go_wp2
  go_ret2
  exact ⟨by first | rfl | (simp; done) | (simp [*]; done), by repeat (first | exact Drawn0.refl _ | apply Drawn0.step)⟩

/-! ### lane_Sum_int16: function 34 -/
def lane_Sum_int16.l0 : Nat → Int → Int → List Int → Int → Int → Option (Int × Int)
  | 0, _, _, _, _, _ => none
  | k + 1, x4, x5, x10, x11, x12 => if x12 < x11 then (if 0 ≤ x12 then (if x12 < (x10.length : Int) then ((lane_Add_int16.f x4 (rd x10 x12)).bind fun bt102 => (if bt102.2 = true then (lane_Sum_int16.l0 k bt102.1 x5 x10 x11 (wrap64 (x12 + 1))) else (lane_Sum_int16.l0 k bt102.1 (wrap64 (x5 + 1)) x10 x11 (wrap64 (x12 + 1))))) else (none)) else (none)) else (some (x4, x5))
def lane_Sum_int16.f (k : Nat) (l0 : List Int) : Option (Int × Int) := lane_Sum_int16.l0 k 0 0 l0 (l0.length : Int) 0
theorem lane_Sum_int16.mono_l : ∀ k, (∀ y0 y1 y2 y3 y4, LeO (lane_Sum_int16.l0 k y0 y1 y2 y3 y4) (lane_Sum_int16.l0 (k + 1) y0 y1 y2 y3 y4))
  | 0 => fun _ _ _ _ _ r h => by simp [lane_Sum_int16.l0] at h
  | k + 1 => by
    have ih0 := lane_Sum_int16.mono_l k
    · intro y0 y1 y2 y3 y4
      unfold lane_Sum_int16.l0
      repeat' first
      | (with_reducible exact ih0 _ _ _ _ _)
      | (with_reducible exact LeO.refl _)
      | (with_reducible exact LeO.none _)
      | (with_reducible refine LeO.ite ?_ ?_)
      | (with_reducible refine LeO.bind ?_ (fun _ => ?_))
      | exact ih0 _ _ _ _ _
      | exact LeO.none _
      | refine LeO.ite ?_ ?_
      | refine LeO.bind ?_ (fun _ => ?_)
theorem lane_Sum_int16.mono : ∀ a0 k, LeO (lane_Sum_int16.f k a0) (lane_Sum_int16.f (k + 1) a0) := by
  intro a0 k
  have ih0 := lane_Sum_int16.mono_l k
  unfold lane_Sum_int16.f
  repeat' first
      | (with_reducible exact ih0 _ _ _ _ _)
      | (with_reducible exact LeO.refl _)
      | (with_reducible exact LeO.none _)
      | (with_reducible refine LeO.ite ?_ ?_)
      | (with_reducible refine LeO.bind ?_ (fun _ => ?_))
      | exact ih0 _ _ _ _ _
      | exact LeO.none _
      | refine LeO.ite ?_ ?_
      | refine LeO.bind ?_ (fun _ => ?_)
set_option maxHeartbeats 8000000 in
set_option maxRecDepth 100000 in
theorem lane_Sum_int16.calls (k : Nat) (A0 : Option Addr) (c0 : Nat) (l0 : List Int) (r1 : Int) (r2 : Int) (w : World) (hr0 : Kd.C (Kd.int .i16) w A0 l0.length l0) (hc0 : l0.length ≤ c0) (h : lane_Sum_int16.f k l0 = some (r1, r2)) :
    Calls Try.prog 34 #[.slice A0 l0.length c0] w fun e w' => e = .returned (.tuple #[.int .i16 r1, .int .i64 r2]) ∧ Drawn0 w w' := by
  have HR0 := Aside0.mk hr0
  have HC0 := Aside0.mk hc0
  clear hr0 hc0
  have H : (lane_Sum_int16.l0 k 0 0 l0 (l0.length : Int) 0) = some (r1, r2) := h
  clear h
  have H' := Aside0.mk H
  clear H
  go_enter Try.func34, Try.ntmps34
  go_wp2
  go_loopg [4, 5, 12] k (fun kq v4 v5 v12 w' => ∃ (x4_1 : Int) (x5_1 : Int) (x12_1 : Int), v4 = .int .i16 x4_1 ∧ v5 = .int .i64 x5_1 ∧ v12 = .int .i64 x12_1 ∧ Aside0 (lane_Sum_int16.l0 kq x4_1 x5_1 l0 (l0.length : Int) x12_1 = some (r1, r2)) ∧ Aside0 (kq ≤ k) ∧ Drawn0 w w')
  case atStart => exact ⟨(0), (0), (0), (by first | rfl | (simp; done) | (simp [*]; done)), (by first | rfl | (simp; done) | (simp [*]; done)), (by first | rfl | (simp; done) | (simp [*]; done)), H', ⟨Nat.le_refl _⟩, by repeat (first | exact Drawn0.refl _ | apply Drawn0.step)⟩
  case round =>
    clear H'
    obtain ⟨x4_1, x5_1, x12_1, rfl, rfl, rfl, HA, HK1, ⟨m1, rfl⟩⟩ := hrel
    cases gk with
    | zero => exact absurd HA.out (by simp [lane_Sum_int16.l0])
    | succ k1 =>
      have H := HA.out
      clear HA
      simp only [lane_Sum_int16.l0] at H
      by_cases c2 : x12_1 < (l0.length : Int)
      · rw [if_pos c2] at H
        have c2b0 : decide (x12_1 < (l0.length : Int)) = true := decide_eq_true c2
        clear c2
        by_cases c3 : 0 ≤ x12_1
        · rw [if_pos c3] at H
          have c3b0 : decide (0 ≤ x12_1) = true := decide_eq_true c3
          clear c3
          by_cases c4 : x12_1 < (l0.length : Int)
          · rw [if_pos c4] at H
            have c4b0 : decide (x12_1 < (l0.length : Int)) = true := decide_eq_true c4
            clear c4
            replace H := Option.bind_eq_some_iff.mp H
            obtain ⟨⟨t102, t103⟩, A50, H⟩ := H
            replace H : (if t103 = true then (lane_Sum_int16.l0 k1 t102 x5_1 l0 (l0.length : Int) (wrap64 (x12_1 + 1))) else (lane_Sum_int16.l0 k1 t102 (wrap64 (x5_1 + 1)) l0 (l0.length : Int) (wrap64 (x12_1 + 1)))) = some (r1, r2) := H
            have A5 := Aside0.mk A50
            clear A50
            by_cases c6 : t103 = true
            · subst c6
              have H1 : (lane_Sum_int16.l0 k1 t102 x5_1 l0 (l0.length : Int) (wrap64 (x12_1 + 1))) = some (r1, r2) := by rw [if_pos rfl] at H; exact H
              clear H
              have H := H1
              clear H1
              have H' := Aside0.mk H
              clear H
              have p101 : 0 ≤ (x12_1 : Int) := of_decide_eq_true (by first | (with_reducible assumption) | assumption)
              have q101 : x12_1 < (l0.length : Int) := of_decide_eq_true (by first | (with_reducible assumption) | assumption)
              obtain ⟨ad101, e101, hx101_0⟩ := Kd.at_int HR0.out x12_1 p101 q101
              cases e101
              replace p101 := eq_true p101
              replace q101 := eq_true q101
              go_wp2_with (first | ((with_reducible refine gate_callee (f := 27) rfl ?_); refine goesL_ (some 19) rfl rfl Try.func27 (by kernel_rfl) rfl #[.int .i16 x4_1, .int .i16 (rd l0 x12_1)] rfl (by (try simp only [List.map_toArray, List.map_cons, List.map_nil]); first | done | rfl | (simp only [List.length_drop, List.length_take]; rfl)) ?_; (with_reducible refine (lane_Add_int16.calls x4_1 (rd l0 x12_1) t102 true _ A5.out).mono ?_); rintro e w' ⟨rfl, ⟨nd, rfl⟩⟩; refine ⟨_, rfl, ?_⟩))
              go_roundg k1
              case measure => have := HK1.out; omega
              case rel => exact ⟨(t102), (x5_1), (wrap64 (x12_1 + 1)), (by first | rfl | (simp; done) | (simp [*]; done)), (by first | rfl | (simp; done) | (simp [*]; done)), (by first | rfl | (simp; done) | (simp [*]; done)), H', ⟨by have := HK1.out; omega⟩, by repeat (first | exact Drawn0.refl _ | apply Drawn0.step)⟩
            · replace c6 := Bool.eq_false_iff.mpr c6
              subst c6
              have H1 : (lane_Sum_int16.l0 k1 t102 (wrap64 (x5_1 + 1)) l0 (l0.length : Int) (wrap64 (x12_1 + 1))) = some (r1, r2) := by rw [if_neg (show ¬ (false = true) by decide)] at H; exact H
              clear H
              have H := H1
              clear H1
              have H' := Aside0.mk H
              clear H
              have p101 : 0 ≤ (x12_1 : Int) := of_decide_eq_true (by first | (with_reducible assumption) | assumption)
              have q101 : x12_1 < (l0.length : Int) := of_decide_eq_true (by first | (with_reducible assumption) | assumption)
              obtain ⟨ad101, e101, hx101_0⟩ := Kd.at_int HR0.out x12_1 p101 q101
              cases e101
              replace p101 := eq_true p101
              replace q101 := eq_true q101
              go_wp2_with (first | ((with_reducible refine gate_callee (f := 27) rfl ?_); refine goesL_ (some 19) rfl rfl Try.func27 (by kernel_rfl) rfl #[.int .i16 x4_1, .int .i16 (rd l0 x12_1)] rfl (by (try simp only [List.map_toArray, List.map_cons, List.map_nil]); first | done | rfl | (simp only [List.length_drop, List.length_take]; rfl)) ?_; (with_reducible refine (lane_Add_int16.calls x4_1 (rd l0 x12_1) t102 false _ A5.out).mono ?_); rintro e w' ⟨rfl, ⟨nd, rfl⟩⟩; refine ⟨_, rfl, ?_⟩))
              go_roundg k1
              case measure => have := HK1.out; omega
              case rel => exact ⟨(t102), (wrap64 (x5_1 + 1)), (wrap64 (x12_1 + 1)), (by first | rfl | (simp; done) | (simp [*]; done)), (by first | rfl | (simp; done) | (simp [*]; done)), (by first | rfl | (simp; done) | (simp [*]; done)), H', ⟨by have := HK1.out; omega⟩, by repeat (first | exact Drawn0.refl _ | apply Drawn0.step)⟩
          · rw [if_neg c4] at H
            exact absurd H (by simp)
        · rw [if_neg c3] at H
          exact absurd H (by simp)
      · rw [if_neg c2] at H
        have c2b0 : decide (x12_1 < (l0.length : Int)) = false := decide_eq_false c2
        clear c2
        simp only [Option.some.injEq, Prod.mk.injEq] at H
        obtain ⟨rfl, rfl⟩ := H
        go_wp2
        go_ret2
        exact ⟨by first | rfl | (simp; done) | (simp [*]; done), by repeat (first | exact Drawn0.refl _ | apply Drawn0.step)⟩

/-! ### lane_check: function 54 -/
mutual
def lane_check.j0 : Nat → Int → Int → Int → Bool → Option (Int)
  | 0, _, _, _, _ => none
  | k + 1, x0, x2, x3, x9 => if x9 = true then (some 70) else (if x2 = 16 then (lane_check.j1 k x0 x2 x3 false) else (lane_check.j1 k x0 x2 x3 (x2 != 32)))
def lane_check.j1 : Nat → Int → Int → Int → Bool → Option (Int)
  | 0, _, _, _, _ => none
  | k + 1, x0, x2, x3, x17 => if x17 = true then (some 150) else (if x3 < 1 then (some 151) else (if x3 > x0 then (some 151) else (if x2 = 32 then (if x3 < x0 then (some 151) else (some 0)) else (some 0))))
end
def lane_check.f (k : Nat) (a0 : Int) (a1 : Int) (a2 : Int) (a3 : Int) : Option (Int) := if a0 = a1 then (lane_check.j0 k a0 a2 a3 (a0 == 0)) else (lane_check.j0 k a0 a2 a3 true)
theorem lane_check.mono_l : ∀ k, (∀ y0 y1 y2 y3, LeO (lane_check.j0 k y0 y1 y2 y3) (lane_check.j0 (k + 1) y0 y1 y2 y3)) ∧ (∀ y0 y1 y2 y3, LeO (lane_check.j1 k y0 y1 y2 y3) (lane_check.j1 (k + 1) y0 y1 y2 y3))
  | 0 => ⟨fun _ _ _ _ r h => by simp [lane_check.j0] at h, fun _ _ _ _ r h => by simp [lane_check.j1] at h⟩
  | k + 1 => by
    obtain ⟨ih0, ih1⟩ := lane_check.mono_l k
    refine ⟨?_, ?_⟩
    · intro y0 y1 y2 y3
      unfold lane_check.j0
      repeat' first
      | (with_reducible exact ih0 _ _ _ _)
      | (with_reducible exact ih1 _ _ _ _)
      | (with_reducible exact LeO.refl _)
      | (with_reducible exact LeO.none _)
      | (with_reducible refine LeO.ite ?_ ?_)
      | (with_reducible refine LeO.bind ?_ (fun _ => ?_))
      | exact ih0 _ _ _ _
      | exact ih1 _ _ _ _
      | exact LeO.none _
      | refine LeO.ite ?_ ?_
      | refine LeO.bind ?_ (fun _ => ?_)
    · intro y0 y1 y2 y3
      unfold lane_check.j1
      repeat' first
      | (with_reducible exact ih0 _ _ _ _)
      | (with_reducible exact ih1 _ _ _ _)
      | (with_reducible exact LeO.refl _)
      | (with_reducible exact LeO.none _)
      | (with_reducible refine LeO.ite ?_ ?_)
      | (with_reducible refine LeO.bind ?_ (fun _ => ?_))
      | exact ih0 _ _ _ _
      | exact ih1 _ _ _ _
      | exact LeO.none _
      | refine LeO.ite ?_ ?_
      | refine LeO.bind ?_ (fun _ => ?_)
theorem lane_check.mono : ∀ a0 a1 a2 a3 k, LeO (lane_check.f k a0 a1 a2 a3) (lane_check.f (k + 1) a0 a1 a2 a3) := by
  intro a0 a1 a2 a3 k
  obtain ⟨ih0, ih1⟩ := lane_check.mono_l k
  unfold lane_check.f
  repeat' first
      | (with_reducible exact ih0 _ _ _ _)
      | (with_reducible exact ih1 _ _ _ _)
      | (with_reducible exact LeO.refl _)
      | (with_reducible exact LeO.none _)
      | (with_reducible refine LeO.ite ?_ ?_)
      | (with_reducible refine LeO.bind ?_ (fun _ => ?_))
      | exact ih0 _ _ _ _
      | exact ih1 _ _ _ _
      | exact LeO.none _
      | refine LeO.ite ?_ ?_
      | refine LeO.bind ?_ (fun _ => ?_)
set_option maxHeartbeats 8000000 in
set_option maxRecDepth 100000 in
theorem lane_check.calls (k : Nat) (a0 : Int) (a1 : Int) (a2 : Int) (a3 : Int) (r : Int) (w : World) (h : lane_check.f k a0 a1 a2 a3 = some r) :
    Calls Try.prog 54 #[.int .i64 a0, .int .i64 a1, .int .i64 a2, .int .i64 a3] w fun e w' => e = .returned (.int .i64 r) ∧ Drawn0 w w' := by
  have H : (if a0 = a1 then (lane_check.j0 k a0 a2 a3 (a0 == 0)) else (lane_check.j0 k a0 a2 a3 true)) = some r := h
  clear h
  have HC5 := Aside0.mk H
  clear H
  go_enter Try.func54, Try.ntmps54
  go_upto_region 1 with (fail)
  go_cut [9] (fun v9 wc => ∃ (kq : Nat) (x9_4 : Bool), v9 = .bool x9_4 ∧ Aside0 (lane_check.j0 kq a0 a2 a3 x9_4 = some r) ∧ Aside0 (kq ≤ k) ∧ Drawn0 w wc)
  case first =>
    have H := HC5.out
    clear HC5
    by_cases c6 : a0 = a1
    · rw [if_pos c6] at H
      have c6b0 : (a0 == a1) = true := beq_iff_eq.mpr c6
      have c6b1 : (a0 != a1) = false := bne_eq_false_iff_eq.mpr c6
      clear c6
      (first | rw [c6b0] | (simp only [i64_w, i32_w]; rw [c6b0]) | skip)
      have H' := Aside0.mk H
      clear H
      go_wp2
      go_meet
      case rel => exact ⟨_, ((a0 == 0)), (by first | rfl | (simp; done) | (simp [*]; done)), H', ⟨by first | omega | exact Nat.le_refl _⟩, by repeat (first | exact Drawn0.refl _ | apply Drawn0.step)⟩
    · rw [if_neg c6] at H
      have c6b0 : (a0 == a1) = false := beq_eq_false_iff_ne.mpr c6
      have c6b1 : (a0 != a1) = true := bne_iff_ne.mpr c6
      (first | rw [c6b0] | (simp only [i64_w, i32_w]; rw [c6b0]) | skip)
      have H' := Aside0.mk H
      clear H
      go_wp2
      go_meet
      case rel => exact ⟨_, (true), (by first | rfl | (simp; done) | (simp [*]; done)), H', ⟨by first | omega | exact Nat.le_refl _⟩, by repeat (first | exact Drawn0.refl _ | apply Drawn0.step)⟩
  case rest =>
    clear HC5
    try clear p2
    try clear c5
    try clear c6
    try clear c6b0
    try clear c6b1
    obtain ⟨kq, x9_4, rfl, HA, HJ4, ⟨mc4, rfl⟩⟩ := hcut
    cases kq with
    | zero => exact absurd HA.out (by simp [lane_check.j0])
    | succ kj4 =>
      have H := HA.out
      clear HA
      simp only [lane_check.j0] at H
      by_cases c7 : x9_4 = true
      · subst c7
        have H1 : (some 70) = some r := by rw [if_pos rfl] at H; exact H
        clear H
        have H := H1
        clear H1
        obtain rfl := Option.some.inj H
        go_wp2
        go_ret
        exact ⟨by first | rfl | (simp; done) | (simp [*]; done), by repeat (first | exact Drawn0.refl _ | apply Drawn0.step)⟩
      · replace c7 := Bool.eq_false_iff.mpr c7
        subst c7
        have H1 : (if a2 = 16 then (lane_check.j1 kj4 a0 a2 a3 false) else (lane_check.j1 kj4 a0 a2 a3 (a2 != 32))) = some r := by rw [if_neg (show ¬ (false = true) by decide)] at H; exact H
        clear H
        have H := H1
        clear H1
        have HC8 := Aside0.mk H
        clear H
        go_upto_region 3 with (fail)
        go_cut [17] (fun v17 wc => ∃ (kq : Nat) (x17_7 : Bool), v17 = .bool x17_7 ∧ Aside0 (lane_check.j1 kq a0 a2 a3 x17_7 = some r) ∧ Aside0 (kq ≤ kj4) ∧ Drawn0 w wc)
        case first =>
          have H := HC8.out
          clear HC8
          by_cases c9 : a2 = 16
          · rw [if_pos c9] at H
            have c9b0 : (a2 == 16) = true := beq_iff_eq.mpr c9
            have c9b1 : (a2 != 16) = false := bne_eq_false_iff_eq.mpr c9
            clear c9
            (first | rw [c9b0] | (simp only [i64_w, i32_w]; rw [c9b0]) | skip)
            have H' := Aside0.mk H
            clear H
            go_wp2
            go_meet
            case rel => exact ⟨_, (false), (by first | rfl | (simp; done) | (simp [*]; done)), H', ⟨by have := HJ4.out; first | omega | exact Nat.le_refl _⟩, by repeat (first | exact Drawn0.refl _ | apply Drawn0.step)⟩
          · rw [if_neg c9] at H
            have c9b0 : (a2 == 16) = false := beq_eq_false_iff_ne.mpr c9
            have c9b1 : (a2 != 16) = true := bne_iff_ne.mpr c9
            (first | rw [c9b0] | (simp only [i64_w, i32_w]; rw [c9b0]) | skip)
            have H' := Aside0.mk H
            clear H
            go_wp2
            go_meet
            case rel => exact ⟨_, ((a2 != 32)), (by first | rfl | (simp; done) | (simp [*]; done)), H', ⟨by have := HJ4.out; first | omega | exact Nat.le_refl _⟩, by repeat (first | exact Drawn0.refl _ | apply Drawn0.step)⟩
        case rest =>
          clear HC8
          try clear p2
          try clear c4
          try clear c5
          try clear c6
          try clear c6b0
          try clear c6b1
          try clear c7
          try clear c9
          try clear c9b0
          try clear c9b1
          try clear p2
          obtain ⟨kq, x17_7, rfl, HA, HJ7, ⟨mc7, rfl⟩⟩ := hcut
          cases kq with
          | zero => exact absurd HA.out (by simp [lane_check.j1])
          | succ kj7 =>
            have H := HA.out
            clear HA
            simp only [lane_check.j1] at H
            by_cases c10 : x17_7 = true
            · subst c10
              have H1 : (some 150) = some r := by rw [if_pos rfl] at H; exact H
              clear H
              have H := H1
              clear H1
              obtain rfl := Option.some.inj H
              go_wp2
              go_ret
              exact ⟨by first | rfl | (simp; done) | (simp [*]; done), by repeat (first | exact Drawn0.refl _ | apply Drawn0.step)⟩
            · replace c10 := Bool.eq_false_iff.mpr c10
              subst c10
              have H1 : (if a3 < 1 then (some 151) else (if a3 > a0 then (some 151) else (if a2 = 32 then (if a3 < a0 then (some 151) else (some 0)) else (some 0)))) = some r := by rw [if_neg (show ¬ (false = true) by decide)] at H; exact H
              clear H
              have H := H1
              clear H1
              by_cases c11 : a3 < 1
              · rw [if_pos c11] at H
                have c11b0 : decide (a3 < 1) = true := decide_eq_true c11
                clear c11
                obtain rfl := Option.some.inj H
                go_wp2
                go_ret
                exact ⟨by first | rfl | (simp; done) | (simp [*]; done), by repeat (first | exact Drawn0.refl _ | apply Drawn0.step)⟩
              · rw [if_neg c11] at H
                have c11b0 : decide (a3 < 1) = false := decide_eq_false c11
                clear c11
                by_cases c12 : a3 > a0
                · rw [if_pos c12] at H
                  have c12b0 : decide (a0 < a3) = true := decide_eq_true c12
                  clear c12
                  obtain rfl := Option.some.inj H
                  go_wp2
                  go_ret
                  exact ⟨by first | rfl | (simp; done) | (simp [*]; done), by repeat (first | exact Drawn0.refl _ | apply Drawn0.step)⟩
                · rw [if_neg c12] at H
                  have c12b0 : decide (a0 < a3) = false := decide_eq_false c12
                  clear c12
                  by_cases c13 : a2 = 32
                  · rw [if_pos c13] at H
                    have c13b0 : (a2 == 32) = true := beq_iff_eq.mpr c13
                    have c13b1 : (a2 != 32) = false := bne_eq_false_iff_eq.mpr c13
                    clear c13
                    by_cases c14 : a3 < a0
                    · rw [if_pos c14] at H
                      have c14b0 : decide (a3 < a0) = true := decide_eq_true c14
                      clear c14
                      obtain rfl := Option.some.inj H
                      go_wp2
                      go_ret
                      exact ⟨by first | rfl | (simp; done) | (simp [*]; done), by repeat (first | exact Drawn0.refl _ | apply Drawn0.step)⟩
                    · rw [if_neg c14] at H
                      have c14b0 : decide (a3 < a0) = false := decide_eq_false c14
                      clear c14
                      obtain rfl := Option.some.inj H
                      go_wp2
                      go_ret
                      exact ⟨by first | rfl | (simp; done) | (simp [*]; done), by repeat (first | exact Drawn0.refl _ | apply Drawn0.step)⟩
                  · rw [if_neg c13] at H
                    have c13b0 : (a2 == 32) = false := beq_eq_false_iff_ne.mpr c13
                    have c13b1 : (a2 != 32) = true := bne_iff_ne.mpr c13
                    obtain rfl := Option.some.inj H
                    go_wp2
                    go_ret
                    exact ⟨by first | rfl | (simp; done) | (simp [*]; done), by repeat (first | exact Drawn0.refl _ | apply Drawn0.step)⟩

/-! ### lane_Mul_int32: function 30 -/
def lane_Mul_int32.f (a0 : Int) (a1 : Int) : Option (Int × Bool) := some (wrap32 (a0 * a1), ((wrap64 (wrap32 (a0 * a1))) == (wrap64 ((wrap64 (a0)) * (wrap64 (a1))))))
set_option maxHeartbeats 8000000 in
set_option maxRecDepth 100000 in
theorem lane_Mul_int32.calls (a0 : Int) (a1 : Int) (r1 : Int) (r2 : Bool) (w : World) (h : lane_Mul_int32.f a0 a1 = some (r1, r2)) :
    Calls Try.prog 30 #[.int .i32 a0, .int .i32 a1] w fun e w' => e = .returned (.tuple #[.int .i32 r1, .bool r2]) ∧ Drawn0 w w' := by
  have H : (some (wrap32 (a0 * a1), ((wrap64 (wrap32 (a0 * a1))) == (wrap64 ((wrap64 (a0)) * (wrap64 (a1))))))) = some (r1, r2) := h
  clear h
  simp only [Option.some.injEq, Prod.mk.injEq] at H
  obtain ⟨rfl, rfl⟩ := H
  go_enter Try.func30, Try.ntmps30
  go_wp2
  go_ret2
  exact ⟨by first | rfl | (simp; done) | (simp [*]; done), by repeat (first | exact Drawn0.refl _ | apply Drawn0.step)⟩

/-! ### lane_Add_int32: function 29 -/
def lane_Add_int32.f (a0 : Int) (a1 : Int) : Option (Int × Bool) := some (wrap32 (a0 + a1), ((decide ((wrap32 (a0 + a1)) < a0)) == (decide (a1 < 0))))
set_option maxHeartbeats 8000000 in
set_option maxRecDepth 100000 in
theorem lane_Add_int32.calls (a0 : Int) (a1 : Int) (r1 : Int) (r2 : Bool) (w : World) (h : lane_Add_int32.f a0 a1 = some (r1, r2)) :
    Calls Try.prog 29 #[.int .i32 a0, .int .i32 a1] w fun e w' => e = .returned (.tuple #[.int .i32 r1, .bool r2]) ∧ Drawn0 w w' := by
  have H : (some (wrap32 (a0 + a1), ((decide ((wrap32 (a0 + a1)) < a0)) == (decide (a1 < 0))))) = some (r1, r2) := h
  clear h
  simp only [Option.some.injEq, Prod.mk.injEq] at H
  obtain ⟨rfl, rfl⟩ := H
  go_enter Try.func29, Try.ntmps29
  go_wp2
  go_ret2
  exact ⟨by first | rfl | (simp; done) | (simp [*]; done), by repeat (first | exact Drawn0.refl _ | apply Drawn0.step)⟩

/-! ### lane_register_int32_add: function 57 -/
section
open Go.Shelf
set_option linter.unusedSimpArgs false
set_option maxHeartbeats 8000000 in
set_option maxRecDepth 100000 in
theorem lane_register_int32_add.calls (g : Nat) (v m a r lo hi x : Int) (w : World) (hg : w.heap[g]? = some (.cells #[.int .i32 v, .int .i64 m, .int .i64 a, .int .i64 r, .int .i32 lo, .int .i32 hi] 96 (0, 0))) :
    Calls Try.prog 57 #[.pointer (some ⟨g, 0, none⟩), .int .i32 x] w fun e w' => e = .returned (.tuple #[]) ∧ Touch g w w' ∧
      w'.heap[g]? = some (.cells #[.int .i32 (regAdd .i32 (v, m, a, r, lo, hi) x).1, .int .i64 (regAdd .i32 (v, m, a, r, lo, hi) x).2.1, .int .i64 (regAdd .i32 (v, m, a, r, lo, hi) x).2.2.1, .int .i64 (regAdd .i32 (v, m, a, r, lo, hi) x).2.2.2.1, .int .i32 (regAdd .i32 (v, m, a, r, lo, hi) x).2.2.2.2.1, .int .i32 (regAdd .i32 (v, m, a, r, lo, hi) x).2.2.2.2.2] 96 (0, 0)) := by
  have hw : IntKind.i32.wrap (v + x) = (wrap32 (v + x)) := by first | rfl | (simp [wrap32, IntKind.wrap, IntKind.bits, IntKind.signed]; done) | (rw [IntKind.wrap_i32]; unfold wrap32; rfl)
  have hu := Try.underlying96
  have q0 : w.cell? ⟨g, 0, none⟩ = some (.int .i32 v) := (blk_cell hg 0).trans rfl
  by_cases c1 : (decide ((wrap32 (v + x)) < v) == decide (x < 0)) = true
  · by_cases c2 : a = 0
    · have d1 : (decide ((wrap32 (v + x)) < v) == decide (x < 0)) = true := c1
      have d2 : (a == 0) = true := by simpa using c2
      clear c1 c2
      go_enter Try.func57, Try.ntmps57
      go_wp2_with (first | (go_at_call 29; refine (lane_Add_int32.calls v x _ _ _ rfl).mono ?_; rintro e w1 ⟨rfl, hd⟩; have hT := Touch.drawn (g := g) hd; have BG1 : w1.heap[g]? = _ := (by obtain ⟨nd, rfl⟩ := hd; exact hg); have aq0 : (w1).cell? ⟨g, 0, none⟩ = some (.int .i32 v) := (blk_cell BG1 0).trans rfl; have af0 := blk_frozen BG1 0; have aq1 : (w1).cell? ⟨g, 1, none⟩ = some (.int .i64 m) := (blk_cell BG1 1).trans rfl; have af1 := blk_frozen BG1 1; have aq2 : (w1).cell? ⟨g, 2, none⟩ = some (.int .i64 a) := (blk_cell BG1 2).trans rfl; have af2 := blk_frozen BG1 2; have aq3 : (w1).cell? ⟨g, 3, none⟩ = some (.int .i64 r) := (blk_cell BG1 3).trans rfl; have af3 := blk_frozen BG1 3; have aq4 : (w1).cell? ⟨g, 4, none⟩ = some (.int .i32 lo) := (blk_cell BG1 4).trans rfl; have af4 := blk_frozen BG1 4; have aq5 : (w1).cell? ⟨g, 5, none⟩ = some (.int .i32 hi) := (blk_cell BG1 5).trans rfl; have af5 := blk_frozen BG1 5; have BS1 : ((w1).setCell ⟨g, 4, none⟩ (.int .i32 (wrap32 (v + x)))).heap[g]? = some (.cells #[.int .i32 v, .int .i64 m, .int .i64 a, .int .i64 r, .int .i32 (wrap32 (v + x)), .int .i32 hi] 96 (0, 0)) := (blk_set BG1 4 (.int .i32 (wrap32 (v + x)))).trans rfl; have s1q0 : ((w1).setCell ⟨g, 4, none⟩ (.int .i32 (wrap32 (v + x)))).cell? ⟨g, 0, none⟩ = some (.int .i32 v) := (blk_cell BS1 0).trans rfl; have s1f0 := blk_frozen BS1 0; have s1q1 : ((w1).setCell ⟨g, 4, none⟩ (.int .i32 (wrap32 (v + x)))).cell? ⟨g, 1, none⟩ = some (.int .i64 m) := (blk_cell BS1 1).trans rfl; have s1f1 := blk_frozen BS1 1; have s1q2 : ((w1).setCell ⟨g, 4, none⟩ (.int .i32 (wrap32 (v + x)))).cell? ⟨g, 2, none⟩ = some (.int .i64 a) := (blk_cell BS1 2).trans rfl; have s1f2 := blk_frozen BS1 2; have s1q3 : ((w1).setCell ⟨g, 4, none⟩ (.int .i32 (wrap32 (v + x)))).cell? ⟨g, 3, none⟩ = some (.int .i64 r) := (blk_cell BS1 3).trans rfl; have s1f3 := blk_frozen BS1 3; have s1q4 : ((w1).setCell ⟨g, 4, none⟩ (.int .i32 (wrap32 (v + x)))).cell? ⟨g, 4, none⟩ = some (.int .i32 (wrap32 (v + x))) := (blk_cell BS1 4).trans rfl; have s1f4 := blk_frozen BS1 4; have s1q5 : ((w1).setCell ⟨g, 4, none⟩ (.int .i32 (wrap32 (v + x)))).cell? ⟨g, 5, none⟩ = some (.int .i32 hi) := (blk_cell BS1 5).trans rfl; have s1f5 := blk_frozen BS1 5; have BS2 : (((w1).setCell ⟨g, 4, none⟩ (.int .i32 (wrap32 (v + x)))).setCell ⟨g, 5, none⟩ (.int .i32 (wrap32 (v + x)))).heap[g]? = some (.cells #[.int .i32 v, .int .i64 m, .int .i64 a, .int .i64 r, .int .i32 (wrap32 (v + x)), .int .i32 (wrap32 (v + x))] 96 (0, 0)) := (blk_set BS1 5 (.int .i32 (wrap32 (v + x)))).trans rfl; have s2q0 : (((w1).setCell ⟨g, 4, none⟩ (.int .i32 (wrap32 (v + x)))).setCell ⟨g, 5, none⟩ (.int .i32 (wrap32 (v + x)))).cell? ⟨g, 0, none⟩ = some (.int .i32 v) := (blk_cell BS2 0).trans rfl; have s2f0 := blk_frozen BS2 0; have s2q1 : (((w1).setCell ⟨g, 4, none⟩ (.int .i32 (wrap32 (v + x)))).setCell ⟨g, 5, none⟩ (.int .i32 (wrap32 (v + x)))).cell? ⟨g, 1, none⟩ = some (.int .i64 m) := (blk_cell BS2 1).trans rfl; have s2f1 := blk_frozen BS2 1; have s2q2 : (((w1).setCell ⟨g, 4, none⟩ (.int .i32 (wrap32 (v + x)))).setCell ⟨g, 5, none⟩ (.int .i32 (wrap32 (v + x)))).cell? ⟨g, 2, none⟩ = some (.int .i64 a) := (blk_cell BS2 2).trans rfl; have s2f2 := blk_frozen BS2 2; have s2q3 : (((w1).setCell ⟨g, 4, none⟩ (.int .i32 (wrap32 (v + x)))).setCell ⟨g, 5, none⟩ (.int .i32 (wrap32 (v + x)))).cell? ⟨g, 3, none⟩ = some (.int .i64 r) := (blk_cell BS2 3).trans rfl; have s2f3 := blk_frozen BS2 3; have s2q4 : (((w1).setCell ⟨g, 4, none⟩ (.int .i32 (wrap32 (v + x)))).setCell ⟨g, 5, none⟩ (.int .i32 (wrap32 (v + x)))).cell? ⟨g, 4, none⟩ = some (.int .i32 (wrap32 (v + x))) := (blk_cell BS2 4).trans rfl; have s2f4 := blk_frozen BS2 4; have s2q5 : (((w1).setCell ⟨g, 4, none⟩ (.int .i32 (wrap32 (v + x)))).setCell ⟨g, 5, none⟩ (.int .i32 (wrap32 (v + x)))).cell? ⟨g, 5, none⟩ = some (.int .i32 (wrap32 (v + x))) := (blk_cell BS2 5).trans rfl; have s2f5 := blk_frozen BS2 5; have BS3 : ((((w1).setCell ⟨g, 4, none⟩ (.int .i32 (wrap32 (v + x)))).setCell ⟨g, 5, none⟩ (.int .i32 (wrap32 (v + x)))).setCell ⟨g, 2, none⟩ (.int .i64 (wrap64 (a + 1)))).heap[g]? = some (.cells #[.int .i32 v, .int .i64 m, .int .i64 (wrap64 (a + 1)), .int .i64 r, .int .i32 (wrap32 (v + x)), .int .i32 (wrap32 (v + x))] 96 (0, 0)) := (blk_set BS2 2 (.int .i64 (wrap64 (a + 1)))).trans rfl; have s3q0 : ((((w1).setCell ⟨g, 4, none⟩ (.int .i32 (wrap32 (v + x)))).setCell ⟨g, 5, none⟩ (.int .i32 (wrap32 (v + x)))).setCell ⟨g, 2, none⟩ (.int .i64 (wrap64 (a + 1)))).cell? ⟨g, 0, none⟩ = some (.int .i32 v) := (blk_cell BS3 0).trans rfl; have s3f0 := blk_frozen BS3 0; have s3q1 : ((((w1).setCell ⟨g, 4, none⟩ (.int .i32 (wrap32 (v + x)))).setCell ⟨g, 5, none⟩ (.int .i32 (wrap32 (v + x)))).setCell ⟨g, 2, none⟩ (.int .i64 (wrap64 (a + 1)))).cell? ⟨g, 1, none⟩ = some (.int .i64 m) := (blk_cell BS3 1).trans rfl; have s3f1 := blk_frozen BS3 1; have s3q2 : ((((w1).setCell ⟨g, 4, none⟩ (.int .i32 (wrap32 (v + x)))).setCell ⟨g, 5, none⟩ (.int .i32 (wrap32 (v + x)))).setCell ⟨g, 2, none⟩ (.int .i64 (wrap64 (a + 1)))).cell? ⟨g, 2, none⟩ = some (.int .i64 (wrap64 (a + 1))) := (blk_cell BS3 2).trans rfl; have s3f2 := blk_frozen BS3 2; have s3q3 : ((((w1).setCell ⟨g, 4, none⟩ (.int .i32 (wrap32 (v + x)))).setCell ⟨g, 5, none⟩ (.int .i32 (wrap32 (v + x)))).setCell ⟨g, 2, none⟩ (.int .i64 (wrap64 (a + 1)))).cell? ⟨g, 3, none⟩ = some (.int .i64 r) := (blk_cell BS3 3).trans rfl; have s3f3 := blk_frozen BS3 3; have s3q4 : ((((w1).setCell ⟨g, 4, none⟩ (.int .i32 (wrap32 (v + x)))).setCell ⟨g, 5, none⟩ (.int .i32 (wrap32 (v + x)))).setCell ⟨g, 2, none⟩ (.int .i64 (wrap64 (a + 1)))).cell? ⟨g, 4, none⟩ = some (.int .i32 (wrap32 (v + x))) := (blk_cell BS3 4).trans rfl; have s3f4 := blk_frozen BS3 4; have s3q5 : ((((w1).setCell ⟨g, 4, none⟩ (.int .i32 (wrap32 (v + x)))).setCell ⟨g, 5, none⟩ (.int .i32 (wrap32 (v + x)))).setCell ⟨g, 2, none⟩ (.int .i64 (wrap64 (a + 1)))).cell? ⟨g, 5, none⟩ = some (.int .i32 (wrap32 (v + x))) := (blk_cell BS3 5).trans rfl; have s3f5 := blk_frozen BS3 5))
      generalize hWW : (((w1).setCell ⟨g, 4, none⟩ (.int .i32 (wrap32 (v + x)))).setCell ⟨g, 5, none⟩ (.int .i32 (wrap32 (v + x)))).setCell ⟨g, 2, none⟩ (.int .i64 (wrap64 (a + 1))) = W6 at *
      have hT6 : Touch g w W6 := by
        rw [← hWW]
        repeat (first | exact hT | refine Touch.trans ?_ (Touch.set _ _ _ _))
      have BG6 := BS3
      have z4 : W6.cell? ⟨g, 4, none⟩ = some (.int .i32 (wrap32 (v + x))) := (blk_cell BG6 4).trans rfl
      have z5 : W6.cell? ⟨g, 5, none⟩ = some (.int .i32 (wrap32 (v + x))) := (blk_cell BG6 5).trans rfl
      have y0 := blk_frozen BG6 0
      have y4 := blk_frozen BG6 4
      have y5 := blk_frozen BG6 5
      clear hWW
      go_region
      all_goals go_wp2
      all_goals go_end0
      all_goals (
        refine ⟨rfl, ?_, ?_⟩
        · repeat (first | exact hT6 | refine Touch.trans ?_ (Touch.drew _ _) | refine Touch.trans ?_ (Touch.set _ _ _ _))
        · refine (blk_drew (blk_set (blk_set (blk_set BG6 _ _) _ _) _ _)).trans ?_
          have d3 := of_decide_eq_true (show decide (a = 0) = true from d2)
          simp only [regAdd, hw, d1, d3, if_true, if_false, Bool.false_eq_true]
          simp
          try omega)
    · have d1 : (decide ((wrap32 (v + x)) < v) == decide (x < 0)) = true := c1
      have d2 : (a == 0) = false := by simpa using c2
      clear c1 c2
      go_enter Try.func57, Try.ntmps57
      go_wp2_with (first | (go_at_call 29; refine (lane_Add_int32.calls v x _ _ _ rfl).mono ?_; rintro e w1 ⟨rfl, hd⟩; have hT := Touch.drawn (g := g) hd; have BG1 : w1.heap[g]? = _ := (by obtain ⟨nd, rfl⟩ := hd; exact hg); have aq0 : (w1).cell? ⟨g, 0, none⟩ = some (.int .i32 v) := (blk_cell BG1 0).trans rfl; have af0 := blk_frozen BG1 0; have aq1 : (w1).cell? ⟨g, 1, none⟩ = some (.int .i64 m) := (blk_cell BG1 1).trans rfl; have af1 := blk_frozen BG1 1; have aq2 : (w1).cell? ⟨g, 2, none⟩ = some (.int .i64 a) := (blk_cell BG1 2).trans rfl; have af2 := blk_frozen BG1 2; have aq3 : (w1).cell? ⟨g, 3, none⟩ = some (.int .i64 r) := (blk_cell BG1 3).trans rfl; have af3 := blk_frozen BG1 3; have aq4 : (w1).cell? ⟨g, 4, none⟩ = some (.int .i32 lo) := (blk_cell BG1 4).trans rfl; have af4 := blk_frozen BG1 4; have aq5 : (w1).cell? ⟨g, 5, none⟩ = some (.int .i32 hi) := (blk_cell BG1 5).trans rfl; have af5 := blk_frozen BG1 5; have BS1 : ((w1).setCell ⟨g, 2, none⟩ (.int .i64 (wrap64 (a + 1)))).heap[g]? = some (.cells #[.int .i32 v, .int .i64 m, .int .i64 (wrap64 (a + 1)), .int .i64 r, .int .i32 lo, .int .i32 hi] 96 (0, 0)) := (blk_set BG1 2 (.int .i64 (wrap64 (a + 1)))).trans rfl; have s1q0 : ((w1).setCell ⟨g, 2, none⟩ (.int .i64 (wrap64 (a + 1)))).cell? ⟨g, 0, none⟩ = some (.int .i32 v) := (blk_cell BS1 0).trans rfl; have s1f0 := blk_frozen BS1 0; have s1q1 : ((w1).setCell ⟨g, 2, none⟩ (.int .i64 (wrap64 (a + 1)))).cell? ⟨g, 1, none⟩ = some (.int .i64 m) := (blk_cell BS1 1).trans rfl; have s1f1 := blk_frozen BS1 1; have s1q2 : ((w1).setCell ⟨g, 2, none⟩ (.int .i64 (wrap64 (a + 1)))).cell? ⟨g, 2, none⟩ = some (.int .i64 (wrap64 (a + 1))) := (blk_cell BS1 2).trans rfl; have s1f2 := blk_frozen BS1 2; have s1q3 : ((w1).setCell ⟨g, 2, none⟩ (.int .i64 (wrap64 (a + 1)))).cell? ⟨g, 3, none⟩ = some (.int .i64 r) := (blk_cell BS1 3).trans rfl; have s1f3 := blk_frozen BS1 3; have s1q4 : ((w1).setCell ⟨g, 2, none⟩ (.int .i64 (wrap64 (a + 1)))).cell? ⟨g, 4, none⟩ = some (.int .i32 lo) := (blk_cell BS1 4).trans rfl; have s1f4 := blk_frozen BS1 4; have s1q5 : ((w1).setCell ⟨g, 2, none⟩ (.int .i64 (wrap64 (a + 1)))).cell? ⟨g, 5, none⟩ = some (.int .i32 hi) := (blk_cell BS1 5).trans rfl; have s1f5 := blk_frozen BS1 5))
      generalize hWW : (w1).setCell ⟨g, 2, none⟩ (.int .i64 (wrap64 (a + 1))) = W6 at *
      have hT6 : Touch g w W6 := by
        rw [← hWW]
        repeat (first | exact hT | refine Touch.trans ?_ (Touch.set _ _ _ _))
      have BG6 := BS1
      have z4 : W6.cell? ⟨g, 4, none⟩ = some (.int .i32 lo) := (blk_cell BG6 4).trans rfl
      have z5 : W6.cell? ⟨g, 5, none⟩ = some (.int .i32 hi) := (blk_cell BG6 5).trans rfl
      have y0 := blk_frozen BG6 0
      have y4 := blk_frozen BG6 4
      have y5 := blk_frozen BG6 5
      clear hWW
      go_region
      all_goals go_wp2
      all_goals go_end0
      all_goals (
        refine ⟨rfl, ?_, ?_⟩
        · repeat (first | exact hT6 | refine Touch.trans ?_ (Touch.drew _ _) | refine Touch.trans ?_ (Touch.set _ _ _ _))
        · refine (blk_drew (blk_set (blk_set (blk_set BG6 _ _) _ _) _ _)).trans ?_
          have d3 := of_decide_eq_false (show decide (a = 0) = false from d2)
          simp only [regAdd, hw, d1, d3, if_true, if_false, Bool.false_eq_true]
          simp
          try omega)
  · by_cases c2 : a = 0
    · have d1 : (decide ((wrap32 (v + x)) < v) == decide (x < 0)) = false := by simpa using c1
      have d2 : (a == 0) = true := by simpa using c2
      clear c1 c2
      go_enter Try.func57, Try.ntmps57
      go_wp2_with (first | (go_at_call 29; refine (lane_Add_int32.calls v x _ _ _ rfl).mono ?_; rintro e w1 ⟨rfl, hd⟩; have hT := Touch.drawn (g := g) hd; have BG1 : w1.heap[g]? = _ := (by obtain ⟨nd, rfl⟩ := hd; exact hg); have aq0 : (w1).cell? ⟨g, 0, none⟩ = some (.int .i32 v) := (blk_cell BG1 0).trans rfl; have af0 := blk_frozen BG1 0; have aq1 : (w1).cell? ⟨g, 1, none⟩ = some (.int .i64 m) := (blk_cell BG1 1).trans rfl; have af1 := blk_frozen BG1 1; have aq2 : (w1).cell? ⟨g, 2, none⟩ = some (.int .i64 a) := (blk_cell BG1 2).trans rfl; have af2 := blk_frozen BG1 2; have aq3 : (w1).cell? ⟨g, 3, none⟩ = some (.int .i64 r) := (blk_cell BG1 3).trans rfl; have af3 := blk_frozen BG1 3; have aq4 : (w1).cell? ⟨g, 4, none⟩ = some (.int .i32 lo) := (blk_cell BG1 4).trans rfl; have af4 := blk_frozen BG1 4; have aq5 : (w1).cell? ⟨g, 5, none⟩ = some (.int .i32 hi) := (blk_cell BG1 5).trans rfl; have af5 := blk_frozen BG1 5; have BS1 : ((w1).setCell ⟨g, 3, none⟩ (.int .i64 (wrap64 (r + 1)))).heap[g]? = some (.cells #[.int .i32 v, .int .i64 m, .int .i64 a, .int .i64 (wrap64 (r + 1)), .int .i32 lo, .int .i32 hi] 96 (0, 0)) := (blk_set BG1 3 (.int .i64 (wrap64 (r + 1)))).trans rfl; have s1q0 : ((w1).setCell ⟨g, 3, none⟩ (.int .i64 (wrap64 (r + 1)))).cell? ⟨g, 0, none⟩ = some (.int .i32 v) := (blk_cell BS1 0).trans rfl; have s1f0 := blk_frozen BS1 0; have s1q1 : ((w1).setCell ⟨g, 3, none⟩ (.int .i64 (wrap64 (r + 1)))).cell? ⟨g, 1, none⟩ = some (.int .i64 m) := (blk_cell BS1 1).trans rfl; have s1f1 := blk_frozen BS1 1; have s1q2 : ((w1).setCell ⟨g, 3, none⟩ (.int .i64 (wrap64 (r + 1)))).cell? ⟨g, 2, none⟩ = some (.int .i64 a) := (blk_cell BS1 2).trans rfl; have s1f2 := blk_frozen BS1 2; have s1q3 : ((w1).setCell ⟨g, 3, none⟩ (.int .i64 (wrap64 (r + 1)))).cell? ⟨g, 3, none⟩ = some (.int .i64 (wrap64 (r + 1))) := (blk_cell BS1 3).trans rfl; have s1f3 := blk_frozen BS1 3; have s1q4 : ((w1).setCell ⟨g, 3, none⟩ (.int .i64 (wrap64 (r + 1)))).cell? ⟨g, 4, none⟩ = some (.int .i32 lo) := (blk_cell BS1 4).trans rfl; have s1f4 := blk_frozen BS1 4; have s1q5 : ((w1).setCell ⟨g, 3, none⟩ (.int .i64 (wrap64 (r + 1)))).cell? ⟨g, 5, none⟩ = some (.int .i32 hi) := (blk_cell BS1 5).trans rfl; have s1f5 := blk_frozen BS1 5; have BS2 : (((w1).setCell ⟨g, 3, none⟩ (.int .i64 (wrap64 (r + 1)))).setCell ⟨g, 4, none⟩ (.int .i32 (wrap32 (v + x)))).heap[g]? = some (.cells #[.int .i32 v, .int .i64 m, .int .i64 a, .int .i64 (wrap64 (r + 1)), .int .i32 (wrap32 (v + x)), .int .i32 hi] 96 (0, 0)) := (blk_set BS1 4 (.int .i32 (wrap32 (v + x)))).trans rfl; have s2q0 : (((w1).setCell ⟨g, 3, none⟩ (.int .i64 (wrap64 (r + 1)))).setCell ⟨g, 4, none⟩ (.int .i32 (wrap32 (v + x)))).cell? ⟨g, 0, none⟩ = some (.int .i32 v) := (blk_cell BS2 0).trans rfl; have s2f0 := blk_frozen BS2 0; have s2q1 : (((w1).setCell ⟨g, 3, none⟩ (.int .i64 (wrap64 (r + 1)))).setCell ⟨g, 4, none⟩ (.int .i32 (wrap32 (v + x)))).cell? ⟨g, 1, none⟩ = some (.int .i64 m) := (blk_cell BS2 1).trans rfl; have s2f1 := blk_frozen BS2 1; have s2q2 : (((w1).setCell ⟨g, 3, none⟩ (.int .i64 (wrap64 (r + 1)))).setCell ⟨g, 4, none⟩ (.int .i32 (wrap32 (v + x)))).cell? ⟨g, 2, none⟩ = some (.int .i64 a) := (blk_cell BS2 2).trans rfl; have s2f2 := blk_frozen BS2 2; have s2q3 : (((w1).setCell ⟨g, 3, none⟩ (.int .i64 (wrap64 (r + 1)))).setCell ⟨g, 4, none⟩ (.int .i32 (wrap32 (v + x)))).cell? ⟨g, 3, none⟩ = some (.int .i64 (wrap64 (r + 1))) := (blk_cell BS2 3).trans rfl; have s2f3 := blk_frozen BS2 3; have s2q4 : (((w1).setCell ⟨g, 3, none⟩ (.int .i64 (wrap64 (r + 1)))).setCell ⟨g, 4, none⟩ (.int .i32 (wrap32 (v + x)))).cell? ⟨g, 4, none⟩ = some (.int .i32 (wrap32 (v + x))) := (blk_cell BS2 4).trans rfl; have s2f4 := blk_frozen BS2 4; have s2q5 : (((w1).setCell ⟨g, 3, none⟩ (.int .i64 (wrap64 (r + 1)))).setCell ⟨g, 4, none⟩ (.int .i32 (wrap32 (v + x)))).cell? ⟨g, 5, none⟩ = some (.int .i32 hi) := (blk_cell BS2 5).trans rfl; have s2f5 := blk_frozen BS2 5; have BS3 : ((((w1).setCell ⟨g, 3, none⟩ (.int .i64 (wrap64 (r + 1)))).setCell ⟨g, 4, none⟩ (.int .i32 (wrap32 (v + x)))).setCell ⟨g, 5, none⟩ (.int .i32 (wrap32 (v + x)))).heap[g]? = some (.cells #[.int .i32 v, .int .i64 m, .int .i64 a, .int .i64 (wrap64 (r + 1)), .int .i32 (wrap32 (v + x)), .int .i32 (wrap32 (v + x))] 96 (0, 0)) := (blk_set BS2 5 (.int .i32 (wrap32 (v + x)))).trans rfl; have s3q0 : ((((w1).setCell ⟨g, 3, none⟩ (.int .i64 (wrap64 (r + 1)))).setCell ⟨g, 4, none⟩ (.int .i32 (wrap32 (v + x)))).setCell ⟨g, 5, none⟩ (.int .i32 (wrap32 (v + x)))).cell? ⟨g, 0, none⟩ = some (.int .i32 v) := (blk_cell BS3 0).trans rfl; have s3f0 := blk_frozen BS3 0; have s3q1 : ((((w1).setCell ⟨g, 3, none⟩ (.int .i64 (wrap64 (r + 1)))).setCell ⟨g, 4, none⟩ (.int .i32 (wrap32 (v + x)))).setCell ⟨g, 5, none⟩ (.int .i32 (wrap32 (v + x)))).cell? ⟨g, 1, none⟩ = some (.int .i64 m) := (blk_cell BS3 1).trans rfl; have s3f1 := blk_frozen BS3 1; have s3q2 : ((((w1).setCell ⟨g, 3, none⟩ (.int .i64 (wrap64 (r + 1)))).setCell ⟨g, 4, none⟩ (.int .i32 (wrap32 (v + x)))).setCell ⟨g, 5, none⟩ (.int .i32 (wrap32 (v + x)))).cell? ⟨g, 2, none⟩ = some (.int .i64 a) := (blk_cell BS3 2).trans rfl; have s3f2 := blk_frozen BS3 2; have s3q3 : ((((w1).setCell ⟨g, 3, none⟩ (.int .i64 (wrap64 (r + 1)))).setCell ⟨g, 4, none⟩ (.int .i32 (wrap32 (v + x)))).setCell ⟨g, 5, none⟩ (.int .i32 (wrap32 (v + x)))).cell? ⟨g, 3, none⟩ = some (.int .i64 (wrap64 (r + 1))) := (blk_cell BS3 3).trans rfl; have s3f3 := blk_frozen BS3 3; have s3q4 : ((((w1).setCell ⟨g, 3, none⟩ (.int .i64 (wrap64 (r + 1)))).setCell ⟨g, 4, none⟩ (.int .i32 (wrap32 (v + x)))).setCell ⟨g, 5, none⟩ (.int .i32 (wrap32 (v + x)))).cell? ⟨g, 4, none⟩ = some (.int .i32 (wrap32 (v + x))) := (blk_cell BS3 4).trans rfl; have s3f4 := blk_frozen BS3 4; have s3q5 : ((((w1).setCell ⟨g, 3, none⟩ (.int .i64 (wrap64 (r + 1)))).setCell ⟨g, 4, none⟩ (.int .i32 (wrap32 (v + x)))).setCell ⟨g, 5, none⟩ (.int .i32 (wrap32 (v + x)))).cell? ⟨g, 5, none⟩ = some (.int .i32 (wrap32 (v + x))) := (blk_cell BS3 5).trans rfl; have s3f5 := blk_frozen BS3 5; have BS4 : (((((w1).setCell ⟨g, 3, none⟩ (.int .i64 (wrap64 (r + 1)))).setCell ⟨g, 4, none⟩ (.int .i32 (wrap32 (v + x)))).setCell ⟨g, 5, none⟩ (.int .i32 (wrap32 (v + x)))).setCell ⟨g, 2, none⟩ (.int .i64 (wrap64 (a + 1)))).heap[g]? = some (.cells #[.int .i32 v, .int .i64 m, .int .i64 (wrap64 (a + 1)), .int .i64 (wrap64 (r + 1)), .int .i32 (wrap32 (v + x)), .int .i32 (wrap32 (v + x))] 96 (0, 0)) := (blk_set BS3 2 (.int .i64 (wrap64 (a + 1)))).trans rfl; have s4q0 : (((((w1).setCell ⟨g, 3, none⟩ (.int .i64 (wrap64 (r + 1)))).setCell ⟨g, 4, none⟩ (.int .i32 (wrap32 (v + x)))).setCell ⟨g, 5, none⟩ (.int .i32 (wrap32 (v + x)))).setCell ⟨g, 2, none⟩ (.int .i64 (wrap64 (a + 1)))).cell? ⟨g, 0, none⟩ = some (.int .i32 v) := (blk_cell BS4 0).trans rfl; have s4f0 := blk_frozen BS4 0; have s4q1 : (((((w1).setCell ⟨g, 3, none⟩ (.int .i64 (wrap64 (r + 1)))).setCell ⟨g, 4, none⟩ (.int .i32 (wrap32 (v + x)))).setCell ⟨g, 5, none⟩ (.int .i32 (wrap32 (v + x)))).setCell ⟨g, 2, none⟩ (.int .i64 (wrap64 (a + 1)))).cell? ⟨g, 1, none⟩ = some (.int .i64 m) := (blk_cell BS4 1).trans rfl; have s4f1 := blk_frozen BS4 1; have s4q2 : (((((w1).setCell ⟨g, 3, none⟩ (.int .i64 (wrap64 (r + 1)))).setCell ⟨g, 4, none⟩ (.int .i32 (wrap32 (v + x)))).setCell ⟨g, 5, none⟩ (.int .i32 (wrap32 (v + x)))).setCell ⟨g, 2, none⟩ (.int .i64 (wrap64 (a + 1)))).cell? ⟨g, 2, none⟩ = some (.int .i64 (wrap64 (a + 1))) := (blk_cell BS4 2).trans rfl; have s4f2 := blk_frozen BS4 2; have s4q3 : (((((w1).setCell ⟨g, 3, none⟩ (.int .i64 (wrap64 (r + 1)))).setCell ⟨g, 4, none⟩ (.int .i32 (wrap32 (v + x)))).setCell ⟨g, 5, none⟩ (.int .i32 (wrap32 (v + x)))).setCell ⟨g, 2, none⟩ (.int .i64 (wrap64 (a + 1)))).cell? ⟨g, 3, none⟩ = some (.int .i64 (wrap64 (r + 1))) := (blk_cell BS4 3).trans rfl; have s4f3 := blk_frozen BS4 3; have s4q4 : (((((w1).setCell ⟨g, 3, none⟩ (.int .i64 (wrap64 (r + 1)))).setCell ⟨g, 4, none⟩ (.int .i32 (wrap32 (v + x)))).setCell ⟨g, 5, none⟩ (.int .i32 (wrap32 (v + x)))).setCell ⟨g, 2, none⟩ (.int .i64 (wrap64 (a + 1)))).cell? ⟨g, 4, none⟩ = some (.int .i32 (wrap32 (v + x))) := (blk_cell BS4 4).trans rfl; have s4f4 := blk_frozen BS4 4; have s4q5 : (((((w1).setCell ⟨g, 3, none⟩ (.int .i64 (wrap64 (r + 1)))).setCell ⟨g, 4, none⟩ (.int .i32 (wrap32 (v + x)))).setCell ⟨g, 5, none⟩ (.int .i32 (wrap32 (v + x)))).setCell ⟨g, 2, none⟩ (.int .i64 (wrap64 (a + 1)))).cell? ⟨g, 5, none⟩ = some (.int .i32 (wrap32 (v + x))) := (blk_cell BS4 5).trans rfl; have s4f5 := blk_frozen BS4 5))
      generalize hWW : ((((w1).setCell ⟨g, 3, none⟩ (.int .i64 (wrap64 (r + 1)))).setCell ⟨g, 4, none⟩ (.int .i32 (wrap32 (v + x)))).setCell ⟨g, 5, none⟩ (.int .i32 (wrap32 (v + x)))).setCell ⟨g, 2, none⟩ (.int .i64 (wrap64 (a + 1))) = W6 at *
      have hT6 : Touch g w W6 := by
        rw [← hWW]
        repeat (first | exact hT | refine Touch.trans ?_ (Touch.set _ _ _ _))
      have BG6 := BS4
      have z4 : W6.cell? ⟨g, 4, none⟩ = some (.int .i32 (wrap32 (v + x))) := (blk_cell BG6 4).trans rfl
      have z5 : W6.cell? ⟨g, 5, none⟩ = some (.int .i32 (wrap32 (v + x))) := (blk_cell BG6 5).trans rfl
      have y0 := blk_frozen BG6 0
      have y4 := blk_frozen BG6 4
      have y5 := blk_frozen BG6 5
      clear hWW
      go_region
      all_goals go_wp2
      all_goals go_end0
      all_goals (
        refine ⟨rfl, ?_, ?_⟩
        · repeat (first | exact hT6 | refine Touch.trans ?_ (Touch.drew _ _) | refine Touch.trans ?_ (Touch.set _ _ _ _))
        · refine (blk_drew (blk_set (blk_set (blk_set BG6 _ _) _ _) _ _)).trans ?_
          have d3 := of_decide_eq_true (show decide (a = 0) = true from d2)
          simp only [regAdd, hw, d1, d3, if_true, if_false, Bool.false_eq_true]
          simp
          try omega)
    · have d1 : (decide ((wrap32 (v + x)) < v) == decide (x < 0)) = false := by simpa using c1
      have d2 : (a == 0) = false := by simpa using c2
      clear c1 c2
      go_enter Try.func57, Try.ntmps57
      go_wp2_with (first | (go_at_call 29; refine (lane_Add_int32.calls v x _ _ _ rfl).mono ?_; rintro e w1 ⟨rfl, hd⟩; have hT := Touch.drawn (g := g) hd; have BG1 : w1.heap[g]? = _ := (by obtain ⟨nd, rfl⟩ := hd; exact hg); have aq0 : (w1).cell? ⟨g, 0, none⟩ = some (.int .i32 v) := (blk_cell BG1 0).trans rfl; have af0 := blk_frozen BG1 0; have aq1 : (w1).cell? ⟨g, 1, none⟩ = some (.int .i64 m) := (blk_cell BG1 1).trans rfl; have af1 := blk_frozen BG1 1; have aq2 : (w1).cell? ⟨g, 2, none⟩ = some (.int .i64 a) := (blk_cell BG1 2).trans rfl; have af2 := blk_frozen BG1 2; have aq3 : (w1).cell? ⟨g, 3, none⟩ = some (.int .i64 r) := (blk_cell BG1 3).trans rfl; have af3 := blk_frozen BG1 3; have aq4 : (w1).cell? ⟨g, 4, none⟩ = some (.int .i32 lo) := (blk_cell BG1 4).trans rfl; have af4 := blk_frozen BG1 4; have aq5 : (w1).cell? ⟨g, 5, none⟩ = some (.int .i32 hi) := (blk_cell BG1 5).trans rfl; have af5 := blk_frozen BG1 5; have BS1 : ((w1).setCell ⟨g, 3, none⟩ (.int .i64 (wrap64 (r + 1)))).heap[g]? = some (.cells #[.int .i32 v, .int .i64 m, .int .i64 a, .int .i64 (wrap64 (r + 1)), .int .i32 lo, .int .i32 hi] 96 (0, 0)) := (blk_set BG1 3 (.int .i64 (wrap64 (r + 1)))).trans rfl; have s1q0 : ((w1).setCell ⟨g, 3, none⟩ (.int .i64 (wrap64 (r + 1)))).cell? ⟨g, 0, none⟩ = some (.int .i32 v) := (blk_cell BS1 0).trans rfl; have s1f0 := blk_frozen BS1 0; have s1q1 : ((w1).setCell ⟨g, 3, none⟩ (.int .i64 (wrap64 (r + 1)))).cell? ⟨g, 1, none⟩ = some (.int .i64 m) := (blk_cell BS1 1).trans rfl; have s1f1 := blk_frozen BS1 1; have s1q2 : ((w1).setCell ⟨g, 3, none⟩ (.int .i64 (wrap64 (r + 1)))).cell? ⟨g, 2, none⟩ = some (.int .i64 a) := (blk_cell BS1 2).trans rfl; have s1f2 := blk_frozen BS1 2; have s1q3 : ((w1).setCell ⟨g, 3, none⟩ (.int .i64 (wrap64 (r + 1)))).cell? ⟨g, 3, none⟩ = some (.int .i64 (wrap64 (r + 1))) := (blk_cell BS1 3).trans rfl; have s1f3 := blk_frozen BS1 3; have s1q4 : ((w1).setCell ⟨g, 3, none⟩ (.int .i64 (wrap64 (r + 1)))).cell? ⟨g, 4, none⟩ = some (.int .i32 lo) := (blk_cell BS1 4).trans rfl; have s1f4 := blk_frozen BS1 4; have s1q5 : ((w1).setCell ⟨g, 3, none⟩ (.int .i64 (wrap64 (r + 1)))).cell? ⟨g, 5, none⟩ = some (.int .i32 hi) := (blk_cell BS1 5).trans rfl; have s1f5 := blk_frozen BS1 5; have BS2 : (((w1).setCell ⟨g, 3, none⟩ (.int .i64 (wrap64 (r + 1)))).setCell ⟨g, 2, none⟩ (.int .i64 (wrap64 (a + 1)))).heap[g]? = some (.cells #[.int .i32 v, .int .i64 m, .int .i64 (wrap64 (a + 1)), .int .i64 (wrap64 (r + 1)), .int .i32 lo, .int .i32 hi] 96 (0, 0)) := (blk_set BS1 2 (.int .i64 (wrap64 (a + 1)))).trans rfl; have s2q0 : (((w1).setCell ⟨g, 3, none⟩ (.int .i64 (wrap64 (r + 1)))).setCell ⟨g, 2, none⟩ (.int .i64 (wrap64 (a + 1)))).cell? ⟨g, 0, none⟩ = some (.int .i32 v) := (blk_cell BS2 0).trans rfl; have s2f0 := blk_frozen BS2 0; have s2q1 : (((w1).setCell ⟨g, 3, none⟩ (.int .i64 (wrap64 (r + 1)))).setCell ⟨g, 2, none⟩ (.int .i64 (wrap64 (a + 1)))).cell? ⟨g, 1, none⟩ = some (.int .i64 m) := (blk_cell BS2 1).trans rfl; have s2f1 := blk_frozen BS2 1; have s2q2 : (((w1).setCell ⟨g, 3, none⟩ (.int .i64 (wrap64 (r + 1)))).setCell ⟨g, 2, none⟩ (.int .i64 (wrap64 (a + 1)))).cell? ⟨g, 2, none⟩ = some (.int .i64 (wrap64 (a + 1))) := (blk_cell BS2 2).trans rfl; have s2f2 := blk_frozen BS2 2; have s2q3 : (((w1).setCell ⟨g, 3, none⟩ (.int .i64 (wrap64 (r + 1)))).setCell ⟨g, 2, none⟩ (.int .i64 (wrap64 (a + 1)))).cell? ⟨g, 3, none⟩ = some (.int .i64 (wrap64 (r + 1))) := (blk_cell BS2 3).trans rfl; have s2f3 := blk_frozen BS2 3; have s2q4 : (((w1).setCell ⟨g, 3, none⟩ (.int .i64 (wrap64 (r + 1)))).setCell ⟨g, 2, none⟩ (.int .i64 (wrap64 (a + 1)))).cell? ⟨g, 4, none⟩ = some (.int .i32 lo) := (blk_cell BS2 4).trans rfl; have s2f4 := blk_frozen BS2 4; have s2q5 : (((w1).setCell ⟨g, 3, none⟩ (.int .i64 (wrap64 (r + 1)))).setCell ⟨g, 2, none⟩ (.int .i64 (wrap64 (a + 1)))).cell? ⟨g, 5, none⟩ = some (.int .i32 hi) := (blk_cell BS2 5).trans rfl; have s2f5 := blk_frozen BS2 5))
      generalize hWW : ((w1).setCell ⟨g, 3, none⟩ (.int .i64 (wrap64 (r + 1)))).setCell ⟨g, 2, none⟩ (.int .i64 (wrap64 (a + 1))) = W6 at *
      have hT6 : Touch g w W6 := by
        rw [← hWW]
        repeat (first | exact hT | refine Touch.trans ?_ (Touch.set _ _ _ _))
      have BG6 := BS2
      have z4 : W6.cell? ⟨g, 4, none⟩ = some (.int .i32 lo) := (blk_cell BG6 4).trans rfl
      have z5 : W6.cell? ⟨g, 5, none⟩ = some (.int .i32 hi) := (blk_cell BG6 5).trans rfl
      have y0 := blk_frozen BG6 0
      have y4 := blk_frozen BG6 4
      have y5 := blk_frozen BG6 5
      clear hWW
      go_region
      all_goals go_wp2
      all_goals go_end0
      all_goals (
        refine ⟨rfl, ?_, ?_⟩
        · repeat (first | exact hT6 | refine Touch.trans ?_ (Touch.drew _ _) | refine Touch.trans ?_ (Touch.set _ _ _ _))
        · refine (blk_drew (blk_set (blk_set (blk_set BG6 _ _) _ _) _ _)).trans ?_
          have d3 := of_decide_eq_false (show decide (a = 0) = false from d2)
          simp only [regAdd, hw, d1, d3, if_true, if_false, Bool.false_eq_true]
          simp
          try omega)
end

/-! ### lane_register_int32_mul: function 55 -/
section
open Go.Shelf
set_option linter.unusedSimpArgs false
set_option maxHeartbeats 8000000 in
set_option maxRecDepth 100000 in
theorem lane_register_int32_mul.calls (g : Nat) (v m a r lo hi x y : Int) (hx : -32768 ≤ x ∧ x ≤ 32767) (hy : -32768 ≤ y ∧ y ≤ 32767) (w : World) (hg : w.heap[g]? = some (.cells #[.int .i32 v, .int .i64 m, .int .i64 a, .int .i64 r, .int .i32 lo, .int .i32 hi] 96 (0, 0))) :
    Calls Try.prog 55 #[.pointer (some ⟨g, 0, none⟩), .int .i32 x, .int .i32 y] w fun e w' => e = .returned (.tuple #[]) ∧ Touch g w w' ∧
      w'.heap[g]? = some (.cells #[.int .i32 (regMul .i32 (v, m, a, r, lo, hi) x y).1, .int .i64 (regMul .i32 (v, m, a, r, lo, hi) x y).2.1, .int .i64 (regMul .i32 (v, m, a, r, lo, hi) x y).2.2.1, .int .i64 (regMul .i32 (v, m, a, r, lo, hi) x y).2.2.2.1, .int .i32 (regMul .i32 (v, m, a, r, lo, hi) x y).2.2.2.2.1, .int .i32 (regMul .i32 (v, m, a, r, lo, hi) x y).2.2.2.2.2] 96 (0, 0)) := by
  have hw : IntKind.i32.wrap (x * y) = (wrap32 (x * y)) := by first | rfl | (rw [IntKind.wrap_i32]; unfold wrap32; rfl)
  have hok : (wrap64 (wrap32 (x * y)) == wrap64 (wrap64 x * wrap64 y)) = ((wrap32 (x * y)) == x * y) := by
    have n1 : (x * y).natAbs ≤ 32768 * 32768 := by rw [Int.natAbs_mul]; exact Nat.mul_le_mul (by omega) (by omega)
    have n2 : -2147483648 ≤ (wrap32 (x * y)) ∧ (wrap32 (x * y)) ≤ 2147483647 := by
      rw [← hw]
      first | (rw [IntKind.wrap_i32]; omega) | (simp only [IntKind.wrap, IntKind.bits, IntKind.signed]; simp; omega)
    rw [w64i (x := (wrap32 (x * y))) (by omega), w64i (x := x) (by omega), w64i (x := y) (by omega), w64i (x := x * y) (by omega)]
  by_cases c1 : ((wrap32 (x * y)) == x * y) = true
  · have d1 : ((wrap32 (x * y)) == x * y) = true := by simpa using c1
    clear c1
    go_enter Try.func55, Try.ntmps55
    go_wp2_with (first | (go_at_call 30; refine (lane_Mul_int32.calls x y _ _ _ rfl).mono ?_; rintro e w1 ⟨rfl, hd⟩; have hT := Touch.drawn (g := g) hd; have BG1 : w1.heap[g]? = _ := (by obtain ⟨nd, rfl⟩ := hd; exact hg); have aq0 : (w1).cell? ⟨g, 0, none⟩ = some (.int .i32 v) := (blk_cell BG1 0).trans rfl; have af0 := blk_frozen BG1 0; have aq1 : (w1).cell? ⟨g, 1, none⟩ = some (.int .i64 m) := (blk_cell BG1 1).trans rfl; have af1 := blk_frozen BG1 1; have aq2 : (w1).cell? ⟨g, 2, none⟩ = some (.int .i64 a) := (blk_cell BG1 2).trans rfl; have af2 := blk_frozen BG1 2; have aq3 : (w1).cell? ⟨g, 3, none⟩ = some (.int .i64 r) := (blk_cell BG1 3).trans rfl; have af3 := blk_frozen BG1 3; have aq4 : (w1).cell? ⟨g, 4, none⟩ = some (.int .i32 lo) := (blk_cell BG1 4).trans rfl; have af4 := blk_frozen BG1 4; have aq5 : (w1).cell? ⟨g, 5, none⟩ = some (.int .i32 hi) := (blk_cell BG1 5).trans rfl; have af5 := blk_frozen BG1 5; have BS1 : ((w1).setCell ⟨g, 1, none⟩ (.int .i64 (wrap64 (m + 1)))).heap[g]? = some (.cells #[.int .i32 v, .int .i64 (wrap64 (m + 1)), .int .i64 a, .int .i64 r, .int .i32 lo, .int .i32 hi] 96 (0, 0)) := (blk_set BG1 1 (.int .i64 (wrap64 (m + 1)))).trans rfl; have s1q0 : ((w1).setCell ⟨g, 1, none⟩ (.int .i64 (wrap64 (m + 1)))).cell? ⟨g, 0, none⟩ = some (.int .i32 v) := (blk_cell BS1 0).trans rfl; have s1f0 := blk_frozen BS1 0; have s1q1 : ((w1).setCell ⟨g, 1, none⟩ (.int .i64 (wrap64 (m + 1)))).cell? ⟨g, 1, none⟩ = some (.int .i64 (wrap64 (m + 1))) := (blk_cell BS1 1).trans rfl; have s1f1 := blk_frozen BS1 1; have s1q2 : ((w1).setCell ⟨g, 1, none⟩ (.int .i64 (wrap64 (m + 1)))).cell? ⟨g, 2, none⟩ = some (.int .i64 a) := (blk_cell BS1 2).trans rfl; have s1f2 := blk_frozen BS1 2; have s1q3 : ((w1).setCell ⟨g, 1, none⟩ (.int .i64 (wrap64 (m + 1)))).cell? ⟨g, 3, none⟩ = some (.int .i64 r) := (blk_cell BS1 3).trans rfl; have s1f3 := blk_frozen BS1 3; have s1q4 : ((w1).setCell ⟨g, 1, none⟩ (.int .i64 (wrap64 (m + 1)))).cell? ⟨g, 4, none⟩ = some (.int .i32 lo) := (blk_cell BS1 4).trans rfl; have s1f4 := blk_frozen BS1 4; have s1q5 : ((w1).setCell ⟨g, 1, none⟩ (.int .i64 (wrap64 (m + 1)))).cell? ⟨g, 5, none⟩ = some (.int .i32 hi) := (blk_cell BS1 5).trans rfl; have s1f5 := blk_frozen BS1 5) | (go_at_call 57; refine (lane_register_int32_add.calls g v (wrap64 (m + 1)) a r lo hi (wrap32 (x * y)) _ BS1).mono ?_; rintro e w2 ⟨rfl, hT2, hb2⟩))
    go_end0
    refine ⟨rfl, ?_, ?_⟩
    · refine Touch.trans ?_ hT2
      repeat (first | exact hT | refine Touch.trans ?_ (Touch.set _ _ _ _))
    · simp only [regMul, hw, d1, if_true, if_false, Bool.false_eq_true]
      exact hb2
  · have d1 : ((wrap32 (x * y)) == x * y) = false := by simpa using c1
    clear c1
    go_enter Try.func55, Try.ntmps55
    go_wp2_with (first | (go_at_call 30; refine (lane_Mul_int32.calls x y _ _ _ rfl).mono ?_; rintro e w1 ⟨rfl, hd⟩; have hT := Touch.drawn (g := g) hd; have BG1 : w1.heap[g]? = _ := (by obtain ⟨nd, rfl⟩ := hd; exact hg); have aq0 : (w1).cell? ⟨g, 0, none⟩ = some (.int .i32 v) := (blk_cell BG1 0).trans rfl; have af0 := blk_frozen BG1 0; have aq1 : (w1).cell? ⟨g, 1, none⟩ = some (.int .i64 m) := (blk_cell BG1 1).trans rfl; have af1 := blk_frozen BG1 1; have aq2 : (w1).cell? ⟨g, 2, none⟩ = some (.int .i64 a) := (blk_cell BG1 2).trans rfl; have af2 := blk_frozen BG1 2; have aq3 : (w1).cell? ⟨g, 3, none⟩ = some (.int .i64 r) := (blk_cell BG1 3).trans rfl; have af3 := blk_frozen BG1 3; have aq4 : (w1).cell? ⟨g, 4, none⟩ = some (.int .i32 lo) := (blk_cell BG1 4).trans rfl; have af4 := blk_frozen BG1 4; have aq5 : (w1).cell? ⟨g, 5, none⟩ = some (.int .i32 hi) := (blk_cell BG1 5).trans rfl; have af5 := blk_frozen BG1 5; have BS1 : ((w1).setCell ⟨g, 3, none⟩ (.int .i64 (wrap64 (r + 1)))).heap[g]? = some (.cells #[.int .i32 v, .int .i64 m, .int .i64 a, .int .i64 (wrap64 (r + 1)), .int .i32 lo, .int .i32 hi] 96 (0, 0)) := (blk_set BG1 3 (.int .i64 (wrap64 (r + 1)))).trans rfl; have s1q0 : ((w1).setCell ⟨g, 3, none⟩ (.int .i64 (wrap64 (r + 1)))).cell? ⟨g, 0, none⟩ = some (.int .i32 v) := (blk_cell BS1 0).trans rfl; have s1f0 := blk_frozen BS1 0; have s1q1 : ((w1).setCell ⟨g, 3, none⟩ (.int .i64 (wrap64 (r + 1)))).cell? ⟨g, 1, none⟩ = some (.int .i64 m) := (blk_cell BS1 1).trans rfl; have s1f1 := blk_frozen BS1 1; have s1q2 : ((w1).setCell ⟨g, 3, none⟩ (.int .i64 (wrap64 (r + 1)))).cell? ⟨g, 2, none⟩ = some (.int .i64 a) := (blk_cell BS1 2).trans rfl; have s1f2 := blk_frozen BS1 2; have s1q3 : ((w1).setCell ⟨g, 3, none⟩ (.int .i64 (wrap64 (r + 1)))).cell? ⟨g, 3, none⟩ = some (.int .i64 (wrap64 (r + 1))) := (blk_cell BS1 3).trans rfl; have s1f3 := blk_frozen BS1 3; have s1q4 : ((w1).setCell ⟨g, 3, none⟩ (.int .i64 (wrap64 (r + 1)))).cell? ⟨g, 4, none⟩ = some (.int .i32 lo) := (blk_cell BS1 4).trans rfl; have s1f4 := blk_frozen BS1 4; have s1q5 : ((w1).setCell ⟨g, 3, none⟩ (.int .i64 (wrap64 (r + 1)))).cell? ⟨g, 5, none⟩ = some (.int .i32 hi) := (blk_cell BS1 5).trans rfl; have s1f5 := blk_frozen BS1 5; have BS2 : (((w1).setCell ⟨g, 3, none⟩ (.int .i64 (wrap64 (r + 1)))).setCell ⟨g, 1, none⟩ (.int .i64 (wrap64 (m + 1)))).heap[g]? = some (.cells #[.int .i32 v, .int .i64 (wrap64 (m + 1)), .int .i64 a, .int .i64 (wrap64 (r + 1)), .int .i32 lo, .int .i32 hi] 96 (0, 0)) := (blk_set BS1 1 (.int .i64 (wrap64 (m + 1)))).trans rfl; have s2q0 : (((w1).setCell ⟨g, 3, none⟩ (.int .i64 (wrap64 (r + 1)))).setCell ⟨g, 1, none⟩ (.int .i64 (wrap64 (m + 1)))).cell? ⟨g, 0, none⟩ = some (.int .i32 v) := (blk_cell BS2 0).trans rfl; have s2f0 := blk_frozen BS2 0; have s2q1 : (((w1).setCell ⟨g, 3, none⟩ (.int .i64 (wrap64 (r + 1)))).setCell ⟨g, 1, none⟩ (.int .i64 (wrap64 (m + 1)))).cell? ⟨g, 1, none⟩ = some (.int .i64 (wrap64 (m + 1))) := (blk_cell BS2 1).trans rfl; have s2f1 := blk_frozen BS2 1; have s2q2 : (((w1).setCell ⟨g, 3, none⟩ (.int .i64 (wrap64 (r + 1)))).setCell ⟨g, 1, none⟩ (.int .i64 (wrap64 (m + 1)))).cell? ⟨g, 2, none⟩ = some (.int .i64 a) := (blk_cell BS2 2).trans rfl; have s2f2 := blk_frozen BS2 2; have s2q3 : (((w1).setCell ⟨g, 3, none⟩ (.int .i64 (wrap64 (r + 1)))).setCell ⟨g, 1, none⟩ (.int .i64 (wrap64 (m + 1)))).cell? ⟨g, 3, none⟩ = some (.int .i64 (wrap64 (r + 1))) := (blk_cell BS2 3).trans rfl; have s2f3 := blk_frozen BS2 3; have s2q4 : (((w1).setCell ⟨g, 3, none⟩ (.int .i64 (wrap64 (r + 1)))).setCell ⟨g, 1, none⟩ (.int .i64 (wrap64 (m + 1)))).cell? ⟨g, 4, none⟩ = some (.int .i32 lo) := (blk_cell BS2 4).trans rfl; have s2f4 := blk_frozen BS2 4; have s2q5 : (((w1).setCell ⟨g, 3, none⟩ (.int .i64 (wrap64 (r + 1)))).setCell ⟨g, 1, none⟩ (.int .i64 (wrap64 (m + 1)))).cell? ⟨g, 5, none⟩ = some (.int .i32 hi) := (blk_cell BS2 5).trans rfl; have s2f5 := blk_frozen BS2 5) | (go_at_call 57; refine (lane_register_int32_add.calls g v (wrap64 (m + 1)) a (wrap64 (r + 1)) lo hi (wrap32 (x * y)) _ BS2).mono ?_; rintro e w2 ⟨rfl, hT2, hb2⟩))
    go_end0
    refine ⟨rfl, ?_, ?_⟩
    · refine Touch.trans ?_ hT2
      repeat (first | exact hT | refine Touch.trans ?_ (Touch.set _ _ _ _))
    · simp only [regMul, hw, d1, if_true, if_false, Bool.false_eq_true]
      exact hb2
end

/-! ### lane_register_int16_add: function 64 -/
section
open Go.Shelf
set_option linter.unusedSimpArgs false
set_option maxHeartbeats 8000000 in
set_option maxRecDepth 100000 in
theorem lane_register_int16_add.calls (g : Nat) (v m a r lo hi x : Int) (w : World) (hg : w.heap[g]? = some (.cells #[.int .i16 v, .int .i64 m, .int .i64 a, .int .i64 r, .int .i16 lo, .int .i16 hi] 98 (0, 0))) :
    Calls Try.prog 64 #[.pointer (some ⟨g, 0, none⟩), .int .i16 x] w fun e w' => e = .returned (.tuple #[]) ∧ Touch g w w' ∧
      w'.heap[g]? = some (.cells #[.int .i16 (regAdd .i16 (v, m, a, r, lo, hi) x).1, .int .i64 (regAdd .i16 (v, m, a, r, lo, hi) x).2.1, .int .i64 (regAdd .i16 (v, m, a, r, lo, hi) x).2.2.1, .int .i64 (regAdd .i16 (v, m, a, r, lo, hi) x).2.2.2.1, .int .i16 (regAdd .i16 (v, m, a, r, lo, hi) x).2.2.2.2.1, .int .i16 (regAdd .i16 (v, m, a, r, lo, hi) x).2.2.2.2.2] 98 (0, 0)) := by
  have hw : IntKind.i16.wrap (v + x) = (IntKind.i16.wrap (v + x)) := by first | rfl | (simp [wrap32, IntKind.wrap, IntKind.bits, IntKind.signed]; done) | (rw [IntKind.wrap_i32]; unfold wrap32; rfl)
  have hu := Try.underlying98
  have q0 : w.cell? ⟨g, 0, none⟩ = some (.int .i16 v) := (blk_cell hg 0).trans rfl
  by_cases c1 : (decide ((IntKind.i16.wrap (v + x)) < v) == decide (x < 0)) = true
  · by_cases c2 : a = 0
    · have d1 : (decide ((IntKind.i16.wrap (v + x)) < v) == decide (x < 0)) = true := c1
      have d2 : (a == 0) = true := by simpa using c2
      clear c1 c2
      go_enter Try.func64, Try.ntmps64
      go_wp2_with (first | (go_at_call 27; refine (lane_Add_int16.calls v x _ _ _ rfl).mono ?_; rintro e w1 ⟨rfl, hd⟩; have hT := Touch.drawn (g := g) hd; have BG1 : w1.heap[g]? = _ := (by obtain ⟨nd, rfl⟩ := hd; exact hg); have aq0 : (w1).cell? ⟨g, 0, none⟩ = some (.int .i16 v) := (blk_cell BG1 0).trans rfl; have af0 := blk_frozen BG1 0; have aq1 : (w1).cell? ⟨g, 1, none⟩ = some (.int .i64 m) := (blk_cell BG1 1).trans rfl; have af1 := blk_frozen BG1 1; have aq2 : (w1).cell? ⟨g, 2, none⟩ = some (.int .i64 a) := (blk_cell BG1 2).trans rfl; have af2 := blk_frozen BG1 2; have aq3 : (w1).cell? ⟨g, 3, none⟩ = some (.int .i64 r) := (blk_cell BG1 3).trans rfl; have af3 := blk_frozen BG1 3; have aq4 : (w1).cell? ⟨g, 4, none⟩ = some (.int .i16 lo) := (blk_cell BG1 4).trans rfl; have af4 := blk_frozen BG1 4; have aq5 : (w1).cell? ⟨g, 5, none⟩ = some (.int .i16 hi) := (blk_cell BG1 5).trans rfl; have af5 := blk_frozen BG1 5; have BS1 : ((w1).setCell ⟨g, 4, none⟩ (.int .i16 (IntKind.i16.wrap (v + x)))).heap[g]? = some (.cells #[.int .i16 v, .int .i64 m, .int .i64 a, .int .i64 r, .int .i16 (IntKind.i16.wrap (v + x)), .int .i16 hi] 98 (0, 0)) := (blk_set BG1 4 (.int .i16 (IntKind.i16.wrap (v + x)))).trans rfl; have s1q0 : ((w1).setCell ⟨g, 4, none⟩ (.int .i16 (IntKind.i16.wrap (v + x)))).cell? ⟨g, 0, none⟩ = some (.int .i16 v) := (blk_cell BS1 0).trans rfl; have s1f0 := blk_frozen BS1 0; have s1q1 : ((w1).setCell ⟨g, 4, none⟩ (.int .i16 (IntKind.i16.wrap (v + x)))).cell? ⟨g, 1, none⟩ = some (.int .i64 m) := (blk_cell BS1 1).trans rfl; have s1f1 := blk_frozen BS1 1; have s1q2 : ((w1).setCell ⟨g, 4, none⟩ (.int .i16 (IntKind.i16.wrap (v + x)))).cell? ⟨g, 2, none⟩ = some (.int .i64 a) := (blk_cell BS1 2).trans rfl; have s1f2 := blk_frozen BS1 2; have s1q3 : ((w1).setCell ⟨g, 4, none⟩ (.int .i16 (IntKind.i16.wrap (v + x)))).cell? ⟨g, 3, none⟩ = some (.int .i64 r) := (blk_cell BS1 3).trans rfl; have s1f3 := blk_frozen BS1 3; have s1q4 : ((w1).setCell ⟨g, 4, none⟩ (.int .i16 (IntKind.i16.wrap (v + x)))).cell? ⟨g, 4, none⟩ = some (.int .i16 (IntKind.i16.wrap (v + x))) := (blk_cell BS1 4).trans rfl; have s1f4 := blk_frozen BS1 4; have s1q5 : ((w1).setCell ⟨g, 4, none⟩ (.int .i16 (IntKind.i16.wrap (v + x)))).cell? ⟨g, 5, none⟩ = some (.int .i16 hi) := (blk_cell BS1 5).trans rfl; have s1f5 := blk_frozen BS1 5; have BS2 : (((w1).setCell ⟨g, 4, none⟩ (.int .i16 (IntKind.i16.wrap (v + x)))).setCell ⟨g, 5, none⟩ (.int .i16 (IntKind.i16.wrap (v + x)))).heap[g]? = some (.cells #[.int .i16 v, .int .i64 m, .int .i64 a, .int .i64 r, .int .i16 (IntKind.i16.wrap (v + x)), .int .i16 (IntKind.i16.wrap (v + x))] 98 (0, 0)) := (blk_set BS1 5 (.int .i16 (IntKind.i16.wrap (v + x)))).trans rfl; have s2q0 : (((w1).setCell ⟨g, 4, none⟩ (.int .i16 (IntKind.i16.wrap (v + x)))).setCell ⟨g, 5, none⟩ (.int .i16 (IntKind.i16.wrap (v + x)))).cell? ⟨g, 0, none⟩ = some (.int .i16 v) := (blk_cell BS2 0).trans rfl; have s2f0 := blk_frozen BS2 0; have s2q1 : (((w1).setCell ⟨g, 4, none⟩ (.int .i16 (IntKind.i16.wrap (v + x)))).setCell ⟨g, 5, none⟩ (.int .i16 (IntKind.i16.wrap (v + x)))).cell? ⟨g, 1, none⟩ = some (.int .i64 m) := (blk_cell BS2 1).trans rfl; have s2f1 := blk_frozen BS2 1; have s2q2 : (((w1).setCell ⟨g, 4, none⟩ (.int .i16 (IntKind.i16.wrap (v + x)))).setCell ⟨g, 5, none⟩ (.int .i16 (IntKind.i16.wrap (v + x)))).cell? ⟨g, 2, none⟩ = some (.int .i64 a) := (blk_cell BS2 2).trans rfl; have s2f2 := blk_frozen BS2 2; have s2q3 : (((w1).setCell ⟨g, 4, none⟩ (.int .i16 (IntKind.i16.wrap (v + x)))).setCell ⟨g, 5, none⟩ (.int .i16 (IntKind.i16.wrap (v + x)))).cell? ⟨g, 3, none⟩ = some (.int .i64 r) := (blk_cell BS2 3).trans rfl; have s2f3 := blk_frozen BS2 3; have s2q4 : (((w1).setCell ⟨g, 4, none⟩ (.int .i16 (IntKind.i16.wrap (v + x)))).setCell ⟨g, 5, none⟩ (.int .i16 (IntKind.i16.wrap (v + x)))).cell? ⟨g, 4, none⟩ = some (.int .i16 (IntKind.i16.wrap (v + x))) := (blk_cell BS2 4).trans rfl; have s2f4 := blk_frozen BS2 4; have s2q5 : (((w1).setCell ⟨g, 4, none⟩ (.int .i16 (IntKind.i16.wrap (v + x)))).setCell ⟨g, 5, none⟩ (.int .i16 (IntKind.i16.wrap (v + x)))).cell? ⟨g, 5, none⟩ = some (.int .i16 (IntKind.i16.wrap (v + x))) := (blk_cell BS2 5).trans rfl; have s2f5 := blk_frozen BS2 5; have BS3 : ((((w1).setCell ⟨g, 4, none⟩ (.int .i16 (IntKind.i16.wrap (v + x)))).setCell ⟨g, 5, none⟩ (.int .i16 (IntKind.i16.wrap (v + x)))).setCell ⟨g, 2, none⟩ (.int .i64 (wrap64 (a + 1)))).heap[g]? = some (.cells #[.int .i16 v, .int .i64 m, .int .i64 (wrap64 (a + 1)), .int .i64 r, .int .i16 (IntKind.i16.wrap (v + x)), .int .i16 (IntKind.i16.wrap (v + x))] 98 (0, 0)) := (blk_set BS2 2 (.int .i64 (wrap64 (a + 1)))).trans rfl; have s3q0 : ((((w1).setCell ⟨g, 4, none⟩ (.int .i16 (IntKind.i16.wrap (v + x)))).setCell ⟨g, 5, none⟩ (.int .i16 (IntKind.i16.wrap (v + x)))).setCell ⟨g, 2, none⟩ (.int .i64 (wrap64 (a + 1)))).cell? ⟨g, 0, none⟩ = some (.int .i16 v) := (blk_cell BS3 0).trans rfl; have s3f0 := blk_frozen BS3 0; have s3q1 : ((((w1).setCell ⟨g, 4, none⟩ (.int .i16 (IntKind.i16.wrap (v + x)))).setCell ⟨g, 5, none⟩ (.int .i16 (IntKind.i16.wrap (v + x)))).setCell ⟨g, 2, none⟩ (.int .i64 (wrap64 (a + 1)))).cell? ⟨g, 1, none⟩ = some (.int .i64 m) := (blk_cell BS3 1).trans rfl; have s3f1 := blk_frozen BS3 1; have s3q2 : ((((w1).setCell ⟨g, 4, none⟩ (.int .i16 (IntKind.i16.wrap (v + x)))).setCell ⟨g, 5, none⟩ (.int .i16 (IntKind.i16.wrap (v + x)))).setCell ⟨g, 2, none⟩ (.int .i64 (wrap64 (a + 1)))).cell? ⟨g, 2, none⟩ = some (.int .i64 (wrap64 (a + 1))) := (blk_cell BS3 2).trans rfl; have s3f2 := blk_frozen BS3 2; have s3q3 : ((((w1).setCell ⟨g, 4, none⟩ (.int .i16 (IntKind.i16.wrap (v + x)))).setCell ⟨g, 5, none⟩ (.int .i16 (IntKind.i16.wrap (v + x)))).setCell ⟨g, 2, none⟩ (.int .i64 (wrap64 (a + 1)))).cell? ⟨g, 3, none⟩ = some (.int .i64 r) := (blk_cell BS3 3).trans rfl; have s3f3 := blk_frozen BS3 3; have s3q4 : ((((w1).setCell ⟨g, 4, none⟩ (.int .i16 (IntKind.i16.wrap (v + x)))).setCell ⟨g, 5, none⟩ (.int .i16 (IntKind.i16.wrap (v + x)))).setCell ⟨g, 2, none⟩ (.int .i64 (wrap64 (a + 1)))).cell? ⟨g, 4, none⟩ = some (.int .i16 (IntKind.i16.wrap (v + x))) := (blk_cell BS3 4).trans rfl; have s3f4 := blk_frozen BS3 4; have s3q5 : ((((w1).setCell ⟨g, 4, none⟩ (.int .i16 (IntKind.i16.wrap (v + x)))).setCell ⟨g, 5, none⟩ (.int .i16 (IntKind.i16.wrap (v + x)))).setCell ⟨g, 2, none⟩ (.int .i64 (wrap64 (a + 1)))).cell? ⟨g, 5, none⟩ = some (.int .i16 (IntKind.i16.wrap (v + x))) := (blk_cell BS3 5).trans rfl; have s3f5 := blk_frozen BS3 5))
      generalize hWW : (((w1).setCell ⟨g, 4, none⟩ (.int .i16 (IntKind.i16.wrap (v + x)))).setCell ⟨g, 5, none⟩ (.int .i16 (IntKind.i16.wrap (v + x)))).setCell ⟨g, 2, none⟩ (.int .i64 (wrap64 (a + 1))) = W6 at *
      have hT6 : Touch g w W6 := by
        rw [← hWW]
        repeat (first | exact hT | refine Touch.trans ?_ (Touch.set _ _ _ _))
      have BG6 := BS3
      have z4 : W6.cell? ⟨g, 4, none⟩ = some (.int .i16 (IntKind.i16.wrap (v + x))) := (blk_cell BG6 4).trans rfl
      have z5 : W6.cell? ⟨g, 5, none⟩ = some (.int .i16 (IntKind.i16.wrap (v + x))) := (blk_cell BG6 5).trans rfl
      have y0 := blk_frozen BG6 0
      have y4 := blk_frozen BG6 4
      have y5 := blk_frozen BG6 5
      clear hWW
      go_region
      all_goals go_wp2
      all_goals go_end0
      all_goals (
        refine ⟨rfl, ?_, ?_⟩
        · repeat (first | exact hT6 | refine Touch.trans ?_ (Touch.drew _ _) | refine Touch.trans ?_ (Touch.set _ _ _ _))
        · refine (blk_drew (blk_set (blk_set (blk_set BG6 _ _) _ _) _ _)).trans ?_
          have d3 := of_decide_eq_true (show decide (a = 0) = true from d2)
          simp only [regAdd, hw, d1, d3, if_true, if_false, Bool.false_eq_true]
          simp
          try omega)
    · have d1 : (decide ((IntKind.i16.wrap (v + x)) < v) == decide (x < 0)) = true := c1
      have d2 : (a == 0) = false := by simpa using c2
      clear c1 c2
      go_enter Try.func64, Try.ntmps64
      go_wp2_with (first | (go_at_call 27; refine (lane_Add_int16.calls v x _ _ _ rfl).mono ?_; rintro e w1 ⟨rfl, hd⟩; have hT := Touch.drawn (g := g) hd; have BG1 : w1.heap[g]? = _ := (by obtain ⟨nd, rfl⟩ := hd; exact hg); have aq0 : (w1).cell? ⟨g, 0, none⟩ = some (.int .i16 v) := (blk_cell BG1 0).trans rfl; have af0 := blk_frozen BG1 0; have aq1 : (w1).cell? ⟨g, 1, none⟩ = some (.int .i64 m) := (blk_cell BG1 1).trans rfl; have af1 := blk_frozen BG1 1; have aq2 : (w1).cell? ⟨g, 2, none⟩ = some (.int .i64 a) := (blk_cell BG1 2).trans rfl; have af2 := blk_frozen BG1 2; have aq3 : (w1).cell? ⟨g, 3, none⟩ = some (.int .i64 r) := (blk_cell BG1 3).trans rfl; have af3 := blk_frozen BG1 3; have aq4 : (w1).cell? ⟨g, 4, none⟩ = some (.int .i16 lo) := (blk_cell BG1 4).trans rfl; have af4 := blk_frozen BG1 4; have aq5 : (w1).cell? ⟨g, 5, none⟩ = some (.int .i16 hi) := (blk_cell BG1 5).trans rfl; have af5 := blk_frozen BG1 5; have BS1 : ((w1).setCell ⟨g, 2, none⟩ (.int .i64 (wrap64 (a + 1)))).heap[g]? = some (.cells #[.int .i16 v, .int .i64 m, .int .i64 (wrap64 (a + 1)), .int .i64 r, .int .i16 lo, .int .i16 hi] 98 (0, 0)) := (blk_set BG1 2 (.int .i64 (wrap64 (a + 1)))).trans rfl; have s1q0 : ((w1).setCell ⟨g, 2, none⟩ (.int .i64 (wrap64 (a + 1)))).cell? ⟨g, 0, none⟩ = some (.int .i16 v) := (blk_cell BS1 0).trans rfl; have s1f0 := blk_frozen BS1 0; have s1q1 : ((w1).setCell ⟨g, 2, none⟩ (.int .i64 (wrap64 (a + 1)))).cell? ⟨g, 1, none⟩ = some (.int .i64 m) := (blk_cell BS1 1).trans rfl; have s1f1 := blk_frozen BS1 1; have s1q2 : ((w1).setCell ⟨g, 2, none⟩ (.int .i64 (wrap64 (a + 1)))).cell? ⟨g, 2, none⟩ = some (.int .i64 (wrap64 (a + 1))) := (blk_cell BS1 2).trans rfl; have s1f2 := blk_frozen BS1 2; have s1q3 : ((w1).setCell ⟨g, 2, none⟩ (.int .i64 (wrap64 (a + 1)))).cell? ⟨g, 3, none⟩ = some (.int .i64 r) := (blk_cell BS1 3).trans rfl; have s1f3 := blk_frozen BS1 3; have s1q4 : ((w1).setCell ⟨g, 2, none⟩ (.int .i64 (wrap64 (a + 1)))).cell? ⟨g, 4, none⟩ = some (.int .i16 lo) := (blk_cell BS1 4).trans rfl; have s1f4 := blk_frozen BS1 4; have s1q5 : ((w1).setCell ⟨g, 2, none⟩ (.int .i64 (wrap64 (a + 1)))).cell? ⟨g, 5, none⟩ = some (.int .i16 hi) := (blk_cell BS1 5).trans rfl; have s1f5 := blk_frozen BS1 5))
      generalize hWW : (w1).setCell ⟨g, 2, none⟩ (.int .i64 (wrap64 (a + 1))) = W6 at *
      have hT6 : Touch g w W6 := by
        rw [← hWW]
        repeat (first | exact hT | refine Touch.trans ?_ (Touch.set _ _ _ _))
      have BG6 := BS1
      have z4 : W6.cell? ⟨g, 4, none⟩ = some (.int .i16 lo) := (blk_cell BG6 4).trans rfl
      have z5 : W6.cell? ⟨g, 5, none⟩ = some (.int .i16 hi) := (blk_cell BG6 5).trans rfl
      have y0 := blk_frozen BG6 0
      have y4 := blk_frozen BG6 4
      have y5 := blk_frozen BG6 5
      clear hWW
      go_region
      all_goals go_wp2
      all_goals go_end0
      all_goals (
        refine ⟨rfl, ?_, ?_⟩
        · repeat (first | exact hT6 | refine Touch.trans ?_ (Touch.drew _ _) | refine Touch.trans ?_ (Touch.set _ _ _ _))
        · refine (blk_drew (blk_set (blk_set (blk_set BG6 _ _) _ _) _ _)).trans ?_
          have d3 := of_decide_eq_false (show decide (a = 0) = false from d2)
          simp only [regAdd, hw, d1, d3, if_true, if_false, Bool.false_eq_true]
          simp
          try omega)
  · by_cases c2 : a = 0
    · have d1 : (decide ((IntKind.i16.wrap (v + x)) < v) == decide (x < 0)) = false := by simpa using c1
      have d2 : (a == 0) = true := by simpa using c2
      clear c1 c2
      go_enter Try.func64, Try.ntmps64
      go_wp2_with (first | (go_at_call 27; refine (lane_Add_int16.calls v x _ _ _ rfl).mono ?_; rintro e w1 ⟨rfl, hd⟩; have hT := Touch.drawn (g := g) hd; have BG1 : w1.heap[g]? = _ := (by obtain ⟨nd, rfl⟩ := hd; exact hg); have aq0 : (w1).cell? ⟨g, 0, none⟩ = some (.int .i16 v) := (blk_cell BG1 0).trans rfl; have af0 := blk_frozen BG1 0; have aq1 : (w1).cell? ⟨g, 1, none⟩ = some (.int .i64 m) := (blk_cell BG1 1).trans rfl; have af1 := blk_frozen BG1 1; have aq2 : (w1).cell? ⟨g, 2, none⟩ = some (.int .i64 a) := (blk_cell BG1 2).trans rfl; have af2 := blk_frozen BG1 2; have aq3 : (w1).cell? ⟨g, 3, none⟩ = some (.int .i64 r) := (blk_cell BG1 3).trans rfl; have af3 := blk_frozen BG1 3; have aq4 : (w1).cell? ⟨g, 4, none⟩ = some (.int .i16 lo) := (blk_cell BG1 4).trans rfl; have af4 := blk_frozen BG1 4; have aq5 : (w1).cell? ⟨g, 5, none⟩ = some (.int .i16 hi) := (blk_cell BG1 5).trans rfl; have af5 := blk_frozen BG1 5; have BS1 : ((w1).setCell ⟨g, 3, none⟩ (.int .i64 (wrap64 (r + 1)))).heap[g]? = some (.cells #[.int .i16 v, .int .i64 m, .int .i64 a, .int .i64 (wrap64 (r + 1)), .int .i16 lo, .int .i16 hi] 98 (0, 0)) := (blk_set BG1 3 (.int .i64 (wrap64 (r + 1)))).trans rfl; have s1q0 : ((w1).setCell ⟨g, 3, none⟩ (.int .i64 (wrap64 (r + 1)))).cell? ⟨g, 0, none⟩ = some (.int .i16 v) := (blk_cell BS1 0).trans rfl; have s1f0 := blk_frozen BS1 0; have s1q1 : ((w1).setCell ⟨g, 3, none⟩ (.int .i64 (wrap64 (r + 1)))).cell? ⟨g, 1, none⟩ = some (.int .i64 m) := (blk_cell BS1 1).trans rfl; have s1f1 := blk_frozen BS1 1; have s1q2 : ((w1).setCell ⟨g, 3, none⟩ (.int .i64 (wrap64 (r + 1)))).cell? ⟨g, 2, none⟩ = some (.int .i64 a) := (blk_cell BS1 2).trans rfl; have s1f2 := blk_frozen BS1 2; have s1q3 : ((w1).setCell ⟨g, 3, none⟩ (.int .i64 (wrap64 (r + 1)))).cell? ⟨g, 3, none⟩ = some (.int .i64 (wrap64 (r + 1))) := (blk_cell BS1 3).trans rfl; have s1f3 := blk_frozen BS1 3; have s1q4 : ((w1).setCell ⟨g, 3, none⟩ (.int .i64 (wrap64 (r + 1)))).cell? ⟨g, 4, none⟩ = some (.int .i16 lo) := (blk_cell BS1 4).trans rfl; have s1f4 := blk_frozen BS1 4; have s1q5 : ((w1).setCell ⟨g, 3, none⟩ (.int .i64 (wrap64 (r + 1)))).cell? ⟨g, 5, none⟩ = some (.int .i16 hi) := (blk_cell BS1 5).trans rfl; have s1f5 := blk_frozen BS1 5; have BS2 : (((w1).setCell ⟨g, 3, none⟩ (.int .i64 (wrap64 (r + 1)))).setCell ⟨g, 4, none⟩ (.int .i16 (IntKind.i16.wrap (v + x)))).heap[g]? = some (.cells #[.int .i16 v, .int .i64 m, .int .i64 a, .int .i64 (wrap64 (r + 1)), .int .i16 (IntKind.i16.wrap (v + x)), .int .i16 hi] 98 (0, 0)) := (blk_set BS1 4 (.int .i16 (IntKind.i16.wrap (v + x)))).trans rfl; have s2q0 : (((w1).setCell ⟨g, 3, none⟩ (.int .i64 (wrap64 (r + 1)))).setCell ⟨g, 4, none⟩ (.int .i16 (IntKind.i16.wrap (v + x)))).cell? ⟨g, 0, none⟩ = some (.int .i16 v) := (blk_cell BS2 0).trans rfl; have s2f0 := blk_frozen BS2 0; have s2q1 : (((w1).setCell ⟨g, 3, none⟩ (.int .i64 (wrap64 (r + 1)))).setCell ⟨g, 4, none⟩ (.int .i16 (IntKind.i16.wrap (v + x)))).cell? ⟨g, 1, none⟩ = some (.int .i64 m) := (blk_cell BS2 1).trans rfl; have s2f1 := blk_frozen BS2 1; have s2q2 : (((w1).setCell ⟨g, 3, none⟩ (.int .i64 (wrap64 (r + 1)))).setCell ⟨g, 4, none⟩ (.int .i16 (IntKind.i16.wrap (v + x)))).cell? ⟨g, 2, none⟩ = some (.int .i64 a) := (blk_cell BS2 2).trans rfl; have s2f2 := blk_frozen BS2 2; have s2q3 : (((w1).setCell ⟨g, 3, none⟩ (.int .i64 (wrap64 (r + 1)))).setCell ⟨g, 4, none⟩ (.int .i16 (IntKind.i16.wrap (v + x)))).cell? ⟨g, 3, none⟩ = some (.int .i64 (wrap64 (r + 1))) := (blk_cell BS2 3).trans rfl; have s2f3 := blk_frozen BS2 3; have s2q4 : (((w1).setCell ⟨g, 3, none⟩ (.int .i64 (wrap64 (r + 1)))).setCell ⟨g, 4, none⟩ (.int .i16 (IntKind.i16.wrap (v + x)))).cell? ⟨g, 4, none⟩ = some (.int .i16 (IntKind.i16.wrap (v + x))) := (blk_cell BS2 4).trans rfl; have s2f4 := blk_frozen BS2 4; have s2q5 : (((w1).setCell ⟨g, 3, none⟩ (.int .i64 (wrap64 (r + 1)))).setCell ⟨g, 4, none⟩ (.int .i16 (IntKind.i16.wrap (v + x)))).cell? ⟨g, 5, none⟩ = some (.int .i16 hi) := (blk_cell BS2 5).trans rfl; have s2f5 := blk_frozen BS2 5; have BS3 : ((((w1).setCell ⟨g, 3, none⟩ (.int .i64 (wrap64 (r + 1)))).setCell ⟨g, 4, none⟩ (.int .i16 (IntKind.i16.wrap (v + x)))).setCell ⟨g, 5, none⟩ (.int .i16 (IntKind.i16.wrap (v + x)))).heap[g]? = some (.cells #[.int .i16 v, .int .i64 m, .int .i64 a, .int .i64 (wrap64 (r + 1)), .int .i16 (IntKind.i16.wrap (v + x)), .int .i16 (IntKind.i16.wrap (v + x))] 98 (0, 0)) := (blk_set BS2 5 (.int .i16 (IntKind.i16.wrap (v + x)))).trans rfl; have s3q0 : ((((w1).setCell ⟨g, 3, none⟩ (.int .i64 (wrap64 (r + 1)))).setCell ⟨g, 4, none⟩ (.int .i16 (IntKind.i16.wrap (v + x)))).setCell ⟨g, 5, none⟩ (.int .i16 (IntKind.i16.wrap (v + x)))).cell? ⟨g, 0, none⟩ = some (.int .i16 v) := (blk_cell BS3 0).trans rfl; have s3f0 := blk_frozen BS3 0; have s3q1 : ((((w1).setCell ⟨g, 3, none⟩ (.int .i64 (wrap64 (r + 1)))).setCell ⟨g, 4, none⟩ (.int .i16 (IntKind.i16.wrap (v + x)))).setCell ⟨g, 5, none⟩ (.int .i16 (IntKind.i16.wrap (v + x)))).cell? ⟨g, 1, none⟩ = some (.int .i64 m) := (blk_cell BS3 1).trans rfl; have s3f1 := blk_frozen BS3 1; have s3q2 : ((((w1).setCell ⟨g, 3, none⟩ (.int .i64 (wrap64 (r + 1)))).setCell ⟨g, 4, none⟩ (.int .i16 (IntKind.i16.wrap (v + x)))).setCell ⟨g, 5, none⟩ (.int .i16 (IntKind.i16.wrap (v + x)))).cell? ⟨g, 2, none⟩ = some (.int .i64 a) := (blk_cell BS3 2).trans rfl; have s3f2 := blk_frozen BS3 2; have s3q3 : ((((w1).setCell ⟨g, 3, none⟩ (.int .i64 (wrap64 (r + 1)))).setCell ⟨g, 4, none⟩ (.int .i16 (IntKind.i16.wrap (v + x)))).setCell ⟨g, 5, none⟩ (.int .i16 (IntKind.i16.wrap (v + x)))).cell? ⟨g, 3, none⟩ = some (.int .i64 (wrap64 (r + 1))) := (blk_cell BS3 3).trans rfl; have s3f3 := blk_frozen BS3 3; have s3q4 : ((((w1).setCell ⟨g, 3, none⟩ (.int .i64 (wrap64 (r + 1)))).setCell ⟨g, 4, none⟩ (.int .i16 (IntKind.i16.wrap (v + x)))).setCell ⟨g, 5, none⟩ (.int .i16 (IntKind.i16.wrap (v + x)))).cell? ⟨g, 4, none⟩ = some (.int .i16 (IntKind.i16.wrap (v + x))) := (blk_cell BS3 4).trans rfl; have s3f4 := blk_frozen BS3 4; have s3q5 : ((((w1).setCell ⟨g, 3, none⟩ (.int .i64 (wrap64 (r + 1)))).setCell ⟨g, 4, none⟩ (.int .i16 (IntKind.i16.wrap (v + x)))).setCell ⟨g, 5, none⟩ (.int .i16 (IntKind.i16.wrap (v + x)))).cell? ⟨g, 5, none⟩ = some (.int .i16 (IntKind.i16.wrap (v + x))) := (blk_cell BS3 5).trans rfl; have s3f5 := blk_frozen BS3 5; have BS4 : (((((w1).setCell ⟨g, 3, none⟩ (.int .i64 (wrap64 (r + 1)))).setCell ⟨g, 4, none⟩ (.int .i16 (IntKind.i16.wrap (v + x)))).setCell ⟨g, 5, none⟩ (.int .i16 (IntKind.i16.wrap (v + x)))).setCell ⟨g, 2, none⟩ (.int .i64 (wrap64 (a + 1)))).heap[g]? = some (.cells #[.int .i16 v, .int .i64 m, .int .i64 (wrap64 (a + 1)), .int .i64 (wrap64 (r + 1)), .int .i16 (IntKind.i16.wrap (v + x)), .int .i16 (IntKind.i16.wrap (v + x))] 98 (0, 0)) := (blk_set BS3 2 (.int .i64 (wrap64 (a + 1)))).trans rfl; have s4q0 : (((((w1).setCell ⟨g, 3, none⟩ (.int .i64 (wrap64 (r + 1)))).setCell ⟨g, 4, none⟩ (.int .i16 (IntKind.i16.wrap (v + x)))).setCell ⟨g, 5, none⟩ (.int .i16 (IntKind.i16.wrap (v + x)))).setCell ⟨g, 2, none⟩ (.int .i64 (wrap64 (a + 1)))).cell? ⟨g, 0, none⟩ = some (.int .i16 v) := (blk_cell BS4 0).trans rfl; have s4f0 := blk_frozen BS4 0; have s4q1 : (((((w1).setCell ⟨g, 3, none⟩ (.int .i64 (wrap64 (r + 1)))).setCell ⟨g, 4, none⟩ (.int .i16 (IntKind.i16.wrap (v + x)))).setCell ⟨g, 5, none⟩ (.int .i16 (IntKind.i16.wrap (v + x)))).setCell ⟨g, 2, none⟩ (.int .i64 (wrap64 (a + 1)))).cell? ⟨g, 1, none⟩ = some (.int .i64 m) := (blk_cell BS4 1).trans rfl; have s4f1 := blk_frozen BS4 1; have s4q2 : (((((w1).setCell ⟨g, 3, none⟩ (.int .i64 (wrap64 (r + 1)))).setCell ⟨g, 4, none⟩ (.int .i16 (IntKind.i16.wrap (v + x)))).setCell ⟨g, 5, none⟩ (.int .i16 (IntKind.i16.wrap (v + x)))).setCell ⟨g, 2, none⟩ (.int .i64 (wrap64 (a + 1)))).cell? ⟨g, 2, none⟩ = some (.int .i64 (wrap64 (a + 1))) := (blk_cell BS4 2).trans rfl; have s4f2 := blk_frozen BS4 2; have s4q3 : (((((w1).setCell ⟨g, 3, none⟩ (.int .i64 (wrap64 (r + 1)))).setCell ⟨g, 4, none⟩ (.int .i16 (IntKind.i16.wrap (v + x)))).setCell ⟨g, 5, none⟩ (.int .i16 (IntKind.i16.wrap (v + x)))).setCell ⟨g, 2, none⟩ (.int .i64 (wrap64 (a + 1)))).cell? ⟨g, 3, none⟩ = some (.int .i64 (wrap64 (r + 1))) := (blk_cell BS4 3).trans rfl; have s4f3 := blk_frozen BS4 3; have s4q4 : (((((w1).setCell ⟨g, 3, none⟩ (.int .i64 (wrap64 (r + 1)))).setCell ⟨g, 4, none⟩ (.int .i16 (IntKind.i16.wrap (v + x)))).setCell ⟨g, 5, none⟩ (.int .i16 (IntKind.i16.wrap (v + x)))).setCell ⟨g, 2, none⟩ (.int .i64 (wrap64 (a + 1)))).cell? ⟨g, 4, none⟩ = some (.int .i16 (IntKind.i16.wrap (v + x))) := (blk_cell BS4 4).trans rfl; have s4f4 := blk_frozen BS4 4; have s4q5 : (((((w1).setCell ⟨g, 3, none⟩ (.int .i64 (wrap64 (r + 1)))).setCell ⟨g, 4, none⟩ (.int .i16 (IntKind.i16.wrap (v + x)))).setCell ⟨g, 5, none⟩ (.int .i16 (IntKind.i16.wrap (v + x)))).setCell ⟨g, 2, none⟩ (.int .i64 (wrap64 (a + 1)))).cell? ⟨g, 5, none⟩ = some (.int .i16 (IntKind.i16.wrap (v + x))) := (blk_cell BS4 5).trans rfl; have s4f5 := blk_frozen BS4 5))
      generalize hWW : ((((w1).setCell ⟨g, 3, none⟩ (.int .i64 (wrap64 (r + 1)))).setCell ⟨g, 4, none⟩ (.int .i16 (IntKind.i16.wrap (v + x)))).setCell ⟨g, 5, none⟩ (.int .i16 (IntKind.i16.wrap (v + x)))).setCell ⟨g, 2, none⟩ (.int .i64 (wrap64 (a + 1))) = W6 at *
      have hT6 : Touch g w W6 := by
        rw [← hWW]
        repeat (first | exact hT | refine Touch.trans ?_ (Touch.set _ _ _ _))
      have BG6 := BS4
      have z4 : W6.cell? ⟨g, 4, none⟩ = some (.int .i16 (IntKind.i16.wrap (v + x))) := (blk_cell BG6 4).trans rfl
      have z5 : W6.cell? ⟨g, 5, none⟩ = some (.int .i16 (IntKind.i16.wrap (v + x))) := (blk_cell BG6 5).trans rfl
      have y0 := blk_frozen BG6 0
      have y4 := blk_frozen BG6 4
      have y5 := blk_frozen BG6 5
      clear hWW
      go_region
      all_goals go_wp2
      all_goals go_end0
      all_goals (
        refine ⟨rfl, ?_, ?_⟩
        · repeat (first | exact hT6 | refine Touch.trans ?_ (Touch.drew _ _) | refine Touch.trans ?_ (Touch.set _ _ _ _))
        · refine (blk_drew (blk_set (blk_set (blk_set BG6 _ _) _ _) _ _)).trans ?_
          have d3 := of_decide_eq_true (show decide (a = 0) = true from d2)
          simp only [regAdd, hw, d1, d3, if_true, if_false, Bool.false_eq_true]
          simp
          try omega)
    · have d1 : (decide ((IntKind.i16.wrap (v + x)) < v) == decide (x < 0)) = false := by simpa using c1
      have d2 : (a == 0) = false := by simpa using c2
      clear c1 c2
      go_enter Try.func64, Try.ntmps64
      go_wp2_with (first | (go_at_call 27; refine (lane_Add_int16.calls v x _ _ _ rfl).mono ?_; rintro e w1 ⟨rfl, hd⟩; have hT := Touch.drawn (g := g) hd; have BG1 : w1.heap[g]? = _ := (by obtain ⟨nd, rfl⟩ := hd; exact hg); have aq0 : (w1).cell? ⟨g, 0, none⟩ = some (.int .i16 v) := (blk_cell BG1 0).trans rfl; have af0 := blk_frozen BG1 0; have aq1 : (w1).cell? ⟨g, 1, none⟩ = some (.int .i64 m) := (blk_cell BG1 1).trans rfl; have af1 := blk_frozen BG1 1; have aq2 : (w1).cell? ⟨g, 2, none⟩ = some (.int .i64 a) := (blk_cell BG1 2).trans rfl; have af2 := blk_frozen BG1 2; have aq3 : (w1).cell? ⟨g, 3, none⟩ = some (.int .i64 r) := (blk_cell BG1 3).trans rfl; have af3 := blk_frozen BG1 3; have aq4 : (w1).cell? ⟨g, 4, none⟩ = some (.int .i16 lo) := (blk_cell BG1 4).trans rfl; have af4 := blk_frozen BG1 4; have aq5 : (w1).cell? ⟨g, 5, none⟩ = some (.int .i16 hi) := (blk_cell BG1 5).trans rfl; have af5 := blk_frozen BG1 5; have BS1 : ((w1).setCell ⟨g, 3, none⟩ (.int .i64 (wrap64 (r + 1)))).heap[g]? = some (.cells #[.int .i16 v, .int .i64 m, .int .i64 a, .int .i64 (wrap64 (r + 1)), .int .i16 lo, .int .i16 hi] 98 (0, 0)) := (blk_set BG1 3 (.int .i64 (wrap64 (r + 1)))).trans rfl; have s1q0 : ((w1).setCell ⟨g, 3, none⟩ (.int .i64 (wrap64 (r + 1)))).cell? ⟨g, 0, none⟩ = some (.int .i16 v) := (blk_cell BS1 0).trans rfl; have s1f0 := blk_frozen BS1 0; have s1q1 : ((w1).setCell ⟨g, 3, none⟩ (.int .i64 (wrap64 (r + 1)))).cell? ⟨g, 1, none⟩ = some (.int .i64 m) := (blk_cell BS1 1).trans rfl; have s1f1 := blk_frozen BS1 1; have s1q2 : ((w1).setCell ⟨g, 3, none⟩ (.int .i64 (wrap64 (r + 1)))).cell? ⟨g, 2, none⟩ = some (.int .i64 a) := (blk_cell BS1 2).trans rfl; have s1f2 := blk_frozen BS1 2; have s1q3 : ((w1).setCell ⟨g, 3, none⟩ (.int .i64 (wrap64 (r + 1)))).cell? ⟨g, 3, none⟩ = some (.int .i64 (wrap64 (r + 1))) := (blk_cell BS1 3).trans rfl; have s1f3 := blk_frozen BS1 3; have s1q4 : ((w1).setCell ⟨g, 3, none⟩ (.int .i64 (wrap64 (r + 1)))).cell? ⟨g, 4, none⟩ = some (.int .i16 lo) := (blk_cell BS1 4).trans rfl; have s1f4 := blk_frozen BS1 4; have s1q5 : ((w1).setCell ⟨g, 3, none⟩ (.int .i64 (wrap64 (r + 1)))).cell? ⟨g, 5, none⟩ = some (.int .i16 hi) := (blk_cell BS1 5).trans rfl; have s1f5 := blk_frozen BS1 5; have BS2 : (((w1).setCell ⟨g, 3, none⟩ (.int .i64 (wrap64 (r + 1)))).setCell ⟨g, 2, none⟩ (.int .i64 (wrap64 (a + 1)))).heap[g]? = some (.cells #[.int .i16 v, .int .i64 m, .int .i64 (wrap64 (a + 1)), .int .i64 (wrap64 (r + 1)), .int .i16 lo, .int .i16 hi] 98 (0, 0)) := (blk_set BS1 2 (.int .i64 (wrap64 (a + 1)))).trans rfl; have s2q0 : (((w1).setCell ⟨g, 3, none⟩ (.int .i64 (wrap64 (r + 1)))).setCell ⟨g, 2, none⟩ (.int .i64 (wrap64 (a + 1)))).cell? ⟨g, 0, none⟩ = some (.int .i16 v) := (blk_cell BS2 0).trans rfl; have s2f0 := blk_frozen BS2 0; have s2q1 : (((w1).setCell ⟨g, 3, none⟩ (.int .i64 (wrap64 (r + 1)))).setCell ⟨g, 2, none⟩ (.int .i64 (wrap64 (a + 1)))).cell? ⟨g, 1, none⟩ = some (.int .i64 m) := (blk_cell BS2 1).trans rfl; have s2f1 := blk_frozen BS2 1; have s2q2 : (((w1).setCell ⟨g, 3, none⟩ (.int .i64 (wrap64 (r + 1)))).setCell ⟨g, 2, none⟩ (.int .i64 (wrap64 (a + 1)))).cell? ⟨g, 2, none⟩ = some (.int .i64 (wrap64 (a + 1))) := (blk_cell BS2 2).trans rfl; have s2f2 := blk_frozen BS2 2; have s2q3 : (((w1).setCell ⟨g, 3, none⟩ (.int .i64 (wrap64 (r + 1)))).setCell ⟨g, 2, none⟩ (.int .i64 (wrap64 (a + 1)))).cell? ⟨g, 3, none⟩ = some (.int .i64 (wrap64 (r + 1))) := (blk_cell BS2 3).trans rfl; have s2f3 := blk_frozen BS2 3; have s2q4 : (((w1).setCell ⟨g, 3, none⟩ (.int .i64 (wrap64 (r + 1)))).setCell ⟨g, 2, none⟩ (.int .i64 (wrap64 (a + 1)))).cell? ⟨g, 4, none⟩ = some (.int .i16 lo) := (blk_cell BS2 4).trans rfl; have s2f4 := blk_frozen BS2 4; have s2q5 : (((w1).setCell ⟨g, 3, none⟩ (.int .i64 (wrap64 (r + 1)))).setCell ⟨g, 2, none⟩ (.int .i64 (wrap64 (a + 1)))).cell? ⟨g, 5, none⟩ = some (.int .i16 hi) := (blk_cell BS2 5).trans rfl; have s2f5 := blk_frozen BS2 5))
      generalize hWW : ((w1).setCell ⟨g, 3, none⟩ (.int .i64 (wrap64 (r + 1)))).setCell ⟨g, 2, none⟩ (.int .i64 (wrap64 (a + 1))) = W6 at *
      have hT6 : Touch g w W6 := by
        rw [← hWW]
        repeat (first | exact hT | refine Touch.trans ?_ (Touch.set _ _ _ _))
      have BG6 := BS2
      have z4 : W6.cell? ⟨g, 4, none⟩ = some (.int .i16 lo) := (blk_cell BG6 4).trans rfl
      have z5 : W6.cell? ⟨g, 5, none⟩ = some (.int .i16 hi) := (blk_cell BG6 5).trans rfl
      have y0 := blk_frozen BG6 0
      have y4 := blk_frozen BG6 4
      have y5 := blk_frozen BG6 5
      clear hWW
      go_region
      all_goals go_wp2
      all_goals go_end0
      all_goals (
        refine ⟨rfl, ?_, ?_⟩
        · repeat (first | exact hT6 | refine Touch.trans ?_ (Touch.drew _ _) | refine Touch.trans ?_ (Touch.set _ _ _ _))
        · refine (blk_drew (blk_set (blk_set (blk_set BG6 _ _) _ _) _ _)).trans ?_
          have d3 := of_decide_eq_false (show decide (a = 0) = false from d2)
          simp only [regAdd, hw, d1, d3, if_true, if_false, Bool.false_eq_true]
          simp
          try omega)
end

/-! ### lane_register_int16_mul: function 56 -/
section
open Go.Shelf
set_option linter.unusedSimpArgs false
set_option maxHeartbeats 8000000 in
set_option maxRecDepth 100000 in
theorem lane_register_int16_mul.calls (g : Nat) (v m a r lo hi x y : Int) (hx : -32768 ≤ x ∧ x ≤ 32767) (hy : -32768 ≤ y ∧ y ≤ 32767) (w : World) (hg : w.heap[g]? = some (.cells #[.int .i16 v, .int .i64 m, .int .i64 a, .int .i64 r, .int .i16 lo, .int .i16 hi] 98 (0, 0))) :
    Calls Try.prog 56 #[.pointer (some ⟨g, 0, none⟩), .int .i16 x, .int .i16 y] w fun e w' => e = .returned (.tuple #[]) ∧ Touch g w w' ∧
      w'.heap[g]? = some (.cells #[.int .i16 (regMul .i16 (v, m, a, r, lo, hi) x y).1, .int .i64 (regMul .i16 (v, m, a, r, lo, hi) x y).2.1, .int .i64 (regMul .i16 (v, m, a, r, lo, hi) x y).2.2.1, .int .i64 (regMul .i16 (v, m, a, r, lo, hi) x y).2.2.2.1, .int .i16 (regMul .i16 (v, m, a, r, lo, hi) x y).2.2.2.2.1, .int .i16 (regMul .i16 (v, m, a, r, lo, hi) x y).2.2.2.2.2] 98 (0, 0)) := by
  have hw : IntKind.i16.wrap (x * y) = (IntKind.i16.wrap (x * y)) := by first | rfl | (rw [IntKind.wrap_i32]; unfold wrap32; rfl)
  have hok : (wrap64 (IntKind.i16.wrap (x * y)) == wrap64 (wrap64 x * wrap64 y)) = ((IntKind.i16.wrap (x * y)) == x * y) := by
    have n1 : (x * y).natAbs ≤ 32768 * 32768 := by rw [Int.natAbs_mul]; exact Nat.mul_le_mul (by omega) (by omega)
    have n2 : -2147483648 ≤ (IntKind.i16.wrap (x * y)) ∧ (IntKind.i16.wrap (x * y)) ≤ 2147483647 := by
      rw [← hw]
      first | (rw [IntKind.wrap_i32]; omega) | (simp only [IntKind.wrap, IntKind.bits, IntKind.signed]; simp; omega)
    rw [w64i (x := (IntKind.i16.wrap (x * y))) (by omega), w64i (x := x) (by omega), w64i (x := y) (by omega), w64i (x := x * y) (by omega)]
  by_cases c1 : ((IntKind.i16.wrap (x * y)) == x * y) = true
  · have d1 : ((IntKind.i16.wrap (x * y)) == x * y) = true := by simpa using c1
    clear c1
    go_enter Try.func56, Try.ntmps56
    go_wp2_with (first | (go_at_call 28; refine (lane_Mul_int16.calls x y _ _ _ rfl).mono ?_; rintro e w1 ⟨rfl, hd⟩; have hT := Touch.drawn (g := g) hd; have BG1 : w1.heap[g]? = _ := (by obtain ⟨nd, rfl⟩ := hd; exact hg); have aq0 : (w1).cell? ⟨g, 0, none⟩ = some (.int .i16 v) := (blk_cell BG1 0).trans rfl; have af0 := blk_frozen BG1 0; have aq1 : (w1).cell? ⟨g, 1, none⟩ = some (.int .i64 m) := (blk_cell BG1 1).trans rfl; have af1 := blk_frozen BG1 1; have aq2 : (w1).cell? ⟨g, 2, none⟩ = some (.int .i64 a) := (blk_cell BG1 2).trans rfl; have af2 := blk_frozen BG1 2; have aq3 : (w1).cell? ⟨g, 3, none⟩ = some (.int .i64 r) := (blk_cell BG1 3).trans rfl; have af3 := blk_frozen BG1 3; have aq4 : (w1).cell? ⟨g, 4, none⟩ = some (.int .i16 lo) := (blk_cell BG1 4).trans rfl; have af4 := blk_frozen BG1 4; have aq5 : (w1).cell? ⟨g, 5, none⟩ = some (.int .i16 hi) := (blk_cell BG1 5).trans rfl; have af5 := blk_frozen BG1 5; have BS1 : ((w1).setCell ⟨g, 1, none⟩ (.int .i64 (wrap64 (m + 1)))).heap[g]? = some (.cells #[.int .i16 v, .int .i64 (wrap64 (m + 1)), .int .i64 a, .int .i64 r, .int .i16 lo, .int .i16 hi] 98 (0, 0)) := (blk_set BG1 1 (.int .i64 (wrap64 (m + 1)))).trans rfl; have s1q0 : ((w1).setCell ⟨g, 1, none⟩ (.int .i64 (wrap64 (m + 1)))).cell? ⟨g, 0, none⟩ = some (.int .i16 v) := (blk_cell BS1 0).trans rfl; have s1f0 := blk_frozen BS1 0; have s1q1 : ((w1).setCell ⟨g, 1, none⟩ (.int .i64 (wrap64 (m + 1)))).cell? ⟨g, 1, none⟩ = some (.int .i64 (wrap64 (m + 1))) := (blk_cell BS1 1).trans rfl; have s1f1 := blk_frozen BS1 1; have s1q2 : ((w1).setCell ⟨g, 1, none⟩ (.int .i64 (wrap64 (m + 1)))).cell? ⟨g, 2, none⟩ = some (.int .i64 a) := (blk_cell BS1 2).trans rfl; have s1f2 := blk_frozen BS1 2; have s1q3 : ((w1).setCell ⟨g, 1, none⟩ (.int .i64 (wrap64 (m + 1)))).cell? ⟨g, 3, none⟩ = some (.int .i64 r) := (blk_cell BS1 3).trans rfl; have s1f3 := blk_frozen BS1 3; have s1q4 : ((w1).setCell ⟨g, 1, none⟩ (.int .i64 (wrap64 (m + 1)))).cell? ⟨g, 4, none⟩ = some (.int .i16 lo) := (blk_cell BS1 4).trans rfl; have s1f4 := blk_frozen BS1 4; have s1q5 : ((w1).setCell ⟨g, 1, none⟩ (.int .i64 (wrap64 (m + 1)))).cell? ⟨g, 5, none⟩ = some (.int .i16 hi) := (blk_cell BS1 5).trans rfl; have s1f5 := blk_frozen BS1 5) | (go_at_call 64; refine (lane_register_int16_add.calls g v (wrap64 (m + 1)) a r lo hi (IntKind.i16.wrap (x * y)) _ BS1).mono ?_; rintro e w2 ⟨rfl, hT2, hb2⟩))
    go_end0
    refine ⟨rfl, ?_, ?_⟩
    · refine Touch.trans ?_ hT2
      repeat (first | exact hT | refine Touch.trans ?_ (Touch.set _ _ _ _))
    · simp only [regMul, hw, d1, if_true, if_false, Bool.false_eq_true]
      exact hb2
  · have d1 : ((IntKind.i16.wrap (x * y)) == x * y) = false := by simpa using c1
    clear c1
    go_enter Try.func56, Try.ntmps56
    go_wp2_with (first | (go_at_call 28; refine (lane_Mul_int16.calls x y _ _ _ rfl).mono ?_; rintro e w1 ⟨rfl, hd⟩; have hT := Touch.drawn (g := g) hd; have BG1 : w1.heap[g]? = _ := (by obtain ⟨nd, rfl⟩ := hd; exact hg); have aq0 : (w1).cell? ⟨g, 0, none⟩ = some (.int .i16 v) := (blk_cell BG1 0).trans rfl; have af0 := blk_frozen BG1 0; have aq1 : (w1).cell? ⟨g, 1, none⟩ = some (.int .i64 m) := (blk_cell BG1 1).trans rfl; have af1 := blk_frozen BG1 1; have aq2 : (w1).cell? ⟨g, 2, none⟩ = some (.int .i64 a) := (blk_cell BG1 2).trans rfl; have af2 := blk_frozen BG1 2; have aq3 : (w1).cell? ⟨g, 3, none⟩ = some (.int .i64 r) := (blk_cell BG1 3).trans rfl; have af3 := blk_frozen BG1 3; have aq4 : (w1).cell? ⟨g, 4, none⟩ = some (.int .i16 lo) := (blk_cell BG1 4).trans rfl; have af4 := blk_frozen BG1 4; have aq5 : (w1).cell? ⟨g, 5, none⟩ = some (.int .i16 hi) := (blk_cell BG1 5).trans rfl; have af5 := blk_frozen BG1 5; have BS1 : ((w1).setCell ⟨g, 3, none⟩ (.int .i64 (wrap64 (r + 1)))).heap[g]? = some (.cells #[.int .i16 v, .int .i64 m, .int .i64 a, .int .i64 (wrap64 (r + 1)), .int .i16 lo, .int .i16 hi] 98 (0, 0)) := (blk_set BG1 3 (.int .i64 (wrap64 (r + 1)))).trans rfl; have s1q0 : ((w1).setCell ⟨g, 3, none⟩ (.int .i64 (wrap64 (r + 1)))).cell? ⟨g, 0, none⟩ = some (.int .i16 v) := (blk_cell BS1 0).trans rfl; have s1f0 := blk_frozen BS1 0; have s1q1 : ((w1).setCell ⟨g, 3, none⟩ (.int .i64 (wrap64 (r + 1)))).cell? ⟨g, 1, none⟩ = some (.int .i64 m) := (blk_cell BS1 1).trans rfl; have s1f1 := blk_frozen BS1 1; have s1q2 : ((w1).setCell ⟨g, 3, none⟩ (.int .i64 (wrap64 (r + 1)))).cell? ⟨g, 2, none⟩ = some (.int .i64 a) := (blk_cell BS1 2).trans rfl; have s1f2 := blk_frozen BS1 2; have s1q3 : ((w1).setCell ⟨g, 3, none⟩ (.int .i64 (wrap64 (r + 1)))).cell? ⟨g, 3, none⟩ = some (.int .i64 (wrap64 (r + 1))) := (blk_cell BS1 3).trans rfl; have s1f3 := blk_frozen BS1 3; have s1q4 : ((w1).setCell ⟨g, 3, none⟩ (.int .i64 (wrap64 (r + 1)))).cell? ⟨g, 4, none⟩ = some (.int .i16 lo) := (blk_cell BS1 4).trans rfl; have s1f4 := blk_frozen BS1 4; have s1q5 : ((w1).setCell ⟨g, 3, none⟩ (.int .i64 (wrap64 (r + 1)))).cell? ⟨g, 5, none⟩ = some (.int .i16 hi) := (blk_cell BS1 5).trans rfl; have s1f5 := blk_frozen BS1 5; have BS2 : (((w1).setCell ⟨g, 3, none⟩ (.int .i64 (wrap64 (r + 1)))).setCell ⟨g, 1, none⟩ (.int .i64 (wrap64 (m + 1)))).heap[g]? = some (.cells #[.int .i16 v, .int .i64 (wrap64 (m + 1)), .int .i64 a, .int .i64 (wrap64 (r + 1)), .int .i16 lo, .int .i16 hi] 98 (0, 0)) := (blk_set BS1 1 (.int .i64 (wrap64 (m + 1)))).trans rfl; have s2q0 : (((w1).setCell ⟨g, 3, none⟩ (.int .i64 (wrap64 (r + 1)))).setCell ⟨g, 1, none⟩ (.int .i64 (wrap64 (m + 1)))).cell? ⟨g, 0, none⟩ = some (.int .i16 v) := (blk_cell BS2 0).trans rfl; have s2f0 := blk_frozen BS2 0; have s2q1 : (((w1).setCell ⟨g, 3, none⟩ (.int .i64 (wrap64 (r + 1)))).setCell ⟨g, 1, none⟩ (.int .i64 (wrap64 (m + 1)))).cell? ⟨g, 1, none⟩ = some (.int .i64 (wrap64 (m + 1))) := (blk_cell BS2 1).trans rfl; have s2f1 := blk_frozen BS2 1; have s2q2 : (((w1).setCell ⟨g, 3, none⟩ (.int .i64 (wrap64 (r + 1)))).setCell ⟨g, 1, none⟩ (.int .i64 (wrap64 (m + 1)))).cell? ⟨g, 2, none⟩ = some (.int .i64 a) := (blk_cell BS2 2).trans rfl; have s2f2 := blk_frozen BS2 2; have s2q3 : (((w1).setCell ⟨g, 3, none⟩ (.int .i64 (wrap64 (r + 1)))).setCell ⟨g, 1, none⟩ (.int .i64 (wrap64 (m + 1)))).cell? ⟨g, 3, none⟩ = some (.int .i64 (wrap64 (r + 1))) := (blk_cell BS2 3).trans rfl; have s2f3 := blk_frozen BS2 3; have s2q4 : (((w1).setCell ⟨g, 3, none⟩ (.int .i64 (wrap64 (r + 1)))).setCell ⟨g, 1, none⟩ (.int .i64 (wrap64 (m + 1)))).cell? ⟨g, 4, none⟩ = some (.int .i16 lo) := (blk_cell BS2 4).trans rfl; have s2f4 := blk_frozen BS2 4; have s2q5 : (((w1).setCell ⟨g, 3, none⟩ (.int .i64 (wrap64 (r + 1)))).setCell ⟨g, 1, none⟩ (.int .i64 (wrap64 (m + 1)))).cell? ⟨g, 5, none⟩ = some (.int .i16 hi) := (blk_cell BS2 5).trans rfl; have s2f5 := blk_frozen BS2 5) | (go_at_call 64; refine (lane_register_int16_add.calls g v (wrap64 (m + 1)) a (wrap64 (r + 1)) lo hi (IntKind.i16.wrap (x * y)) _ BS2).mono ?_; rintro e w2 ⟨rfl, hT2, hb2⟩))
    go_end0
    refine ⟨rfl, ?_, ?_⟩
    · refine Touch.trans ?_ hT2
      repeat (first | exact hT | refine Touch.trans ?_ (Touch.set _ _ _ _))
    · simp only [regMul, hw, d1, if_true, if_false, Bool.false_eq_true]
      exact hb2
end

end Go.Proofs.Ytnbhimgojnclbaa.CLneDots
