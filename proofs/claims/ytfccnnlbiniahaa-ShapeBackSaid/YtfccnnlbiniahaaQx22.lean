-- PRINTED by print.py (a twelfth state) out of the translation. Not trusted: Lean checks it.
import Derived.Test.YtfccnnlbiniahaaQx0
import Derived.Test.YtfccnnlbiniahaaQx9
import Derived.Test.YtfccnnlbiniahaaQx21
namespace Go.Proofs.Ytfccnnlbiniahaa.Q
open Go.RowKit Go.Proofs.YtfccnnlbiniahaaW.PrintWords Go.Proofs.YtfccnnlbiniahaaW.PrintLast Go.Proofs.YtfccnnlbiniahaaW.PrintMore
attribute [local go_sem] max2_int min2_int max_two min_two max_three min_three max_four min_four   -- for this text's walks alone
set_option linter.unusedVariables false
set_option linter.unusedSimpArgs false

/-! ### spillwayref01_Mul: function 47 -/
def spillwayref01_Mul.j0 : Nat → Int → Int → Int → Int → Bool → Option (Int × Int)
  | 0, _, _, _, _, _ => none
  | k + 1, x0, x1, x6, x7, x19 => if x19 = true then (some (0, 0)) else (if x7 = 0 then (none) else (if x6 > (IntKind.u64.wrap (Int.tdiv (9223372036854775808 : Int) x7)) then (some (0, 10)) else ((spillwayref01_Signed.f (IntKind.u64.wrap (x6 * x7)) ((decide (x0 < 0)) != (decide (x1 < 0)))).bind fun bt259 => (if bt259.2 = true then (some (bt259.1, 0)) else (some (0, 10))))))
def spillwayref01_Mul.f (k : Nat) (a0 : Int) (a1 : Int) : Option (Int × Int) := (spillwayref01_Size.f a0).bind fun t257 => ((spillwayref01_Size.f a1).bind fun t258 => (if t257 = 0 then (spillwayref01_Mul.j0 k a0 a1 t257 t258 true) else (spillwayref01_Mul.j0 k a0 a1 t257 t258 (t258 == 0))))
theorem spillwayref01_Mul.mono_l : ∀ k, (∀ y0 y1 y2 y3 y4, LeO (spillwayref01_Mul.j0 k y0 y1 y2 y3 y4) (spillwayref01_Mul.j0 (k + 1) y0 y1 y2 y3 y4))
  | 0 => fun _ _ _ _ _ r h => by simp [spillwayref01_Mul.j0] at h
  | k + 1 => by
    have ih0 := spillwayref01_Mul.mono_l k
    · intro y0 y1 y2 y3 y4
      unfold spillwayref01_Mul.j0
      repeat' first
      | (with_reducible exact ih0 _ _ _ _ _)
      | (with_reducible exact LeO.refl _)
      | (with_reducible exact LeO.none _)
      | (with_reducible refine LeO.ite ?_ ?_)
      | (with_reducible refine LeO.bind ?_ (fun _ => ?_))
      | exact ih0 _ _ _ _ _
      | exact LeO.none _
      | refine LeO.ite ?_ ?_
      | refine LeO.bind ?_ (fun _ => ?_)
theorem spillwayref01_Mul.mono : ∀ a0 a1 k, LeO (spillwayref01_Mul.f k a0 a1) (spillwayref01_Mul.f (k + 1) a0 a1) := by
  intro a0 a1 k
  have ih0 := spillwayref01_Mul.mono_l k
  unfold spillwayref01_Mul.f
  repeat' first
      | (with_reducible exact ih0 _ _ _ _ _)
      | (with_reducible exact LeO.refl _)
      | (with_reducible exact LeO.none _)
      | (with_reducible refine LeO.ite ?_ ?_)
      | (with_reducible refine LeO.bind ?_ (fun _ => ?_))
      | exact ih0 _ _ _ _ _
      | exact LeO.none _
      | refine LeO.ite ?_ ?_
      | refine LeO.bind ?_ (fun _ => ?_)
set_option maxHeartbeats 8000000 in
set_option maxRecDepth 100000 in
theorem spillwayref01_Mul.calls (k : Nat) (a0 : Int) (a1 : Int) (r1 : Int) (r2 : Int) (w : World) (h : spillwayref01_Mul.f k a0 a1 = some (r1, r2)) :
    Calls Try.prog 47 #[.int .i64 a0, .int .i64 a1] w fun e w' => e = .returned (.tuple #[.int .i64 r1, .int .i64 r2]) ∧ Drawn0 w w' := by
  have H : ((spillwayref01_Size.f a0).bind fun t257 => ((spillwayref01_Size.f a1).bind fun t258 => (if t257 = 0 then (spillwayref01_Mul.j0 k a0 a1 t257 t258 true) else (spillwayref01_Mul.j0 k a0 a1 t257 t258 (t258 == 0))))) = some (r1, r2) := h
  clear h
  replace H := Option.bind_eq_some_iff.mp H
  obtain ⟨t257, A30, H⟩ := H
  replace H : ((spillwayref01_Size.f a1).bind fun t258 => (if t257 = 0 then (spillwayref01_Mul.j0 k a0 a1 t257 t258 true) else (spillwayref01_Mul.j0 k a0 a1 t257 t258 (t258 == 0)))) = some (r1, r2) := H
  have A3 := Aside0.mk A30
  clear A30
  replace H := Option.bind_eq_some_iff.mp H
  obtain ⟨t258, A40, H⟩ := H
  replace H : (if t257 = 0 then (spillwayref01_Mul.j0 k a0 a1 t257 t258 true) else (spillwayref01_Mul.j0 k a0 a1 t257 t258 (t258 == 0))) = some (r1, r2) := H
  have A4 := Aside0.mk A40
  clear A40
  have HC5 := Aside0.mk H
  clear H
  go_enter Try.func47, Try.ntmps47
  go_upto_region 2 with (first | ((with_reducible refine gate_callee (f := 50) rfl ?_); refine goesL_ (some 11) rfl rfl Try.func50 (by kernel_rfl) rfl #[.int .i64 a0] rfl (by (try simp only [List.map_toArray, List.map_cons, List.map_nil]); first | done | rfl | (simp only [List.length_drop, List.length_take]; rfl)) ?_; (with_reducible refine (spillwayref01_Size.calls a0 t257 _ A3.out).mono ?_); rintro e w' ⟨rfl, ⟨nd, rfl⟩⟩; refine ⟨_, rfl, ?_⟩) | ((with_reducible refine gate_callee (f := 50) rfl ?_); refine goesL_ (some 13) rfl rfl Try.func50 (by kernel_rfl) rfl #[.int .i64 a1] rfl (by (try simp only [List.map_toArray, List.map_cons, List.map_nil]); first | done | rfl | (simp only [List.length_drop, List.length_take]; rfl)) ?_; (with_reducible refine (spillwayref01_Size.calls a1 t258 _ A4.out).mono ?_); rintro e w' ⟨rfl, ⟨nd, rfl⟩⟩; refine ⟨_, rfl, ?_⟩))
  (try simp only [Act.put, List.setIfInBounds_toArray, List.set_cons_zero, List.set_cons_succ])
  go_cut [19] (fun v19 wc => ∃ (kq : Nat) (x19_4 : Bool), v19 = .bool x19_4 ∧ Aside0 (spillwayref01_Mul.j0 kq a0 a1 t257 t258 x19_4 = some (r1, r2)) ∧ Aside0 (kq ≤ k) ∧ Drawn0 w wc)
  case first =>
    have H := HC5.out
    clear HC5
    by_cases c6 : t257 = 0
    · rw [if_pos c6] at H
      have c6b0 : (t257 == 0) = true := beq_iff_eq.mpr c6
      have c6b1 : (t257 != 0) = false := bne_eq_false_iff_eq.mpr c6
      clear c6
      (first | rw [c6b0] | (simp only [i64_w, i32_w]; rw [c6b0]) | skip)
      have H' := Aside0.mk H
      clear H
      go_wp2
      go_meet
      case rel => exact ⟨_, (true), (by first | rfl | (simp; done) | (simp [*]; done)), H', ⟨by first | omega | exact Nat.le_refl _⟩, by repeat (first | exact Drawn0.refl _ | apply Drawn0.step)⟩
    · rw [if_neg c6] at H
      have c6b0 : (t257 == 0) = false := beq_eq_false_iff_ne.mpr c6
      have c6b1 : (t257 != 0) = true := bne_iff_ne.mpr c6
      (first | rw [c6b0] | (simp only [i64_w, i32_w]; rw [c6b0]) | skip)
      have H' := Aside0.mk H
      clear H
      go_wp2
      go_meet
      case rel => exact ⟨_, ((t258 == 0)), (by first | rfl | (simp; done) | (simp [*]; done)), H', ⟨by first | omega | exact Nat.le_refl _⟩, by repeat (first | exact Drawn0.refl _ | apply Drawn0.step)⟩
  case rest =>
    clear HC5
    try clear p2
    try clear c4
    try clear c5
    try clear c6
    try clear c6b0
    try clear c6b1
    obtain ⟨kq, x19_4, rfl, HA, HJ4, ⟨mc4, rfl⟩⟩ := hcut
    cases kq with
    | zero => exact absurd HA.out (by simp [spillwayref01_Mul.j0])
    | succ kj4 =>
      have H := HA.out
      clear HA
      simp only [spillwayref01_Mul.j0] at H
      by_cases c7 : x19_4 = true
      · subst c7
        have H1 : (some (0, 0)) = some (r1, r2) := by rw [if_pos rfl] at H; exact H
        clear H
        have H := H1
        clear H1
        simp only [Option.some.injEq, Prod.mk.injEq] at H
        obtain ⟨rfl, rfl⟩ := H
        go_wp2
        go_ret2
        exact ⟨by first | rfl | (simp; done) | (simp [*]; done), by repeat (first | exact Drawn0.refl _ | apply Drawn0.step)⟩
      · replace c7 := Bool.eq_false_iff.mpr c7
        subst c7
        have H1 : (if t258 = 0 then (none) else (if t257 > (IntKind.u64.wrap (Int.tdiv (9223372036854775808 : Int) t258)) then (some (0, 10)) else ((spillwayref01_Signed.f (IntKind.u64.wrap (t257 * t258)) ((decide (a0 < 0)) != (decide (a1 < 0)))).bind fun bt259 => (if bt259.2 = true then (some (bt259.1, 0)) else (some (0, 10)))))) = some (r1, r2) := by rw [if_neg (show ¬ (false = true) by decide)] at H; exact H
        clear H
        have H := H1
        clear H1
        by_cases c8 : t258 = 0
        · rw [if_pos c8] at H
          exact absurd H (by simp)
        · rw [if_neg c8] at H
          have c8b0 : (t258 == 0) = false := beq_eq_false_iff_ne.mpr c8
          have c8b1 : (t258 != 0) = true := bne_iff_ne.mpr c8
          by_cases c9 : t257 > (IntKind.u64.wrap (Int.tdiv (9223372036854775808 : Int) t258))
          · rw [if_pos c9] at H
            have c9b0 : decide ((IntKind.u64.wrap (Int.tdiv (9223372036854775808 : Int) t258)) < t257) = true := decide_eq_true c9
            clear c9
            simp only [Option.some.injEq, Prod.mk.injEq] at H
            obtain ⟨rfl, rfl⟩ := H
            go_wp2
            go_ret2
            exact ⟨by first | rfl | (simp; done) | (simp [*]; done), by repeat (first | exact Drawn0.refl _ | apply Drawn0.step)⟩
          · rw [if_neg c9] at H
            have c9b0 : decide ((IntKind.u64.wrap (Int.tdiv (9223372036854775808 : Int) t258)) < t257) = false := decide_eq_false c9
            clear c9
            replace H := Option.bind_eq_some_iff.mp H
            obtain ⟨⟨t259, t260⟩, A100, H⟩ := H
            replace H : (if t260 = true then (some (t259, 0)) else (some (0, 10))) = some (r1, r2) := H
            have A10 := Aside0.mk A100
            clear A100
            by_cases c11 : t260 = true
            · subst c11
              have H1 : (some (t259, 0)) = some (r1, r2) := by rw [if_pos rfl] at H; exact H
              clear H
              have H := H1
              clear H1
              simp only [Option.some.injEq, Prod.mk.injEq] at H
              obtain ⟨rfl, rfl⟩ := H
              go_wp2_with (first | ((with_reducible refine gate_callee (f := 51) rfl ?_); refine goesL_ (some 33) rfl rfl Try.func51 (by kernel_rfl) rfl #[.int .u64 (IntKind.u64.wrap (t257 * t258)), .bool ((decide (a0 < 0)) != (decide (a1 < 0)))] rfl (by (try simp only [List.map_toArray, List.map_cons, List.map_nil]); first | done | rfl | (simp only [List.length_drop, List.length_take]; rfl)) ?_; (with_reducible refine (spillwayref01_Signed.calls (IntKind.u64.wrap (t257 * t258)) ((decide (a0 < 0)) != (decide (a1 < 0))) t259 true _ A10.out).mono ?_); rintro e w' ⟨rfl, ⟨nd, rfl⟩⟩; refine ⟨_, rfl, ?_⟩))
              go_ret2
              exact ⟨by first | rfl | (simp; done) | (simp [*]; done), by repeat (first | exact Drawn0.refl _ | apply Drawn0.step)⟩
            · replace c11 := Bool.eq_false_iff.mpr c11
              subst c11
              have H1 : (some (0, 10)) = some (r1, r2) := by rw [if_neg (show ¬ (false = true) by decide)] at H; exact H
              clear H
              have H := H1
              clear H1
              simp only [Option.some.injEq, Prod.mk.injEq] at H
              obtain ⟨rfl, rfl⟩ := H
              go_wp2_with (first | ((with_reducible refine gate_callee (f := 51) rfl ?_); refine goesL_ (some 33) rfl rfl Try.func51 (by kernel_rfl) rfl #[.int .u64 (IntKind.u64.wrap (t257 * t258)), .bool ((decide (a0 < 0)) != (decide (a1 < 0)))] rfl (by (try simp only [List.map_toArray, List.map_cons, List.map_nil]); first | done | rfl | (simp only [List.length_drop, List.length_take]; rfl)) ?_; (with_reducible refine (spillwayref01_Signed.calls (IntKind.u64.wrap (t257 * t258)) ((decide (a0 < 0)) != (decide (a1 < 0))) t259 false _ A10.out).mono ?_); rintro e w' ⟨rfl, ⟨nd, rfl⟩⟩; refine ⟨_, rfl, ?_⟩))
              go_ret2
              exact ⟨by first | rfl | (simp; done) | (simp [*]; done), by repeat (first | exact Drawn0.refl _ | apply Drawn0.step)⟩

/-! ### spillwaylaw01_NumProducts: function 13 -/
def spillwaylaw01_NumProducts.f (k : Nat) (a0 : Int) (a1 : Int) : Option (Bool) := (num_Mul.f k a0 a1).bind fun bt261 => ((spillwayref01_Mul.f k a0 a1).bind fun bt263 => ((spillwaylaw01_fixed.f k).bind fun t265 => (if t265 = true then (if bt261.1 = bt263.1 then (some (bt261.2 == bt263.2)) else (some false)) else (some false))))
theorem spillwaylaw01_NumProducts.mono : ∀ a0 a1 k, LeO (spillwaylaw01_NumProducts.f k a0 a1) (spillwaylaw01_NumProducts.f (k + 1) a0 a1) := by
  intro a0 a1 k
  unfold spillwaylaw01_NumProducts.f
  repeat' first
      | (with_reducible exact num_Mul.mono _ _ _)
      | (with_reducible exact spillwaylaw01_fixed.mono _)
      | (with_reducible exact spillwayref01_Mul.mono _ _ _)
      | (with_reducible exact LeO.refl _)
      | (with_reducible exact LeO.none _)
      | (with_reducible refine LeO.ite ?_ ?_)
      | (with_reducible refine LeO.bind ?_ (fun _ => ?_))
      | exact num_Mul.mono _ _ _
      | exact spillwaylaw01_fixed.mono _
      | exact spillwayref01_Mul.mono _ _ _
      | exact LeO.none _
      | refine LeO.ite ?_ ?_
      | refine LeO.bind ?_ (fun _ => ?_)
set_option maxHeartbeats 8000000 in
set_option maxRecDepth 100000 in
theorem spillwaylaw01_NumProducts.calls (k : Nat) (a0 : Int) (a1 : Int) (r : Bool) (w : World) (hrt : r = true) (h : spillwaylaw01_NumProducts.f k a0 a1 = some r) :
    Calls Try.prog 13 #[.int .i64 a0, .int .i64 a1] w fun e w' => e = .returned (.bool r) ∧ Drawn0 w w' := by
  have H : ((num_Mul.f k a0 a1).bind fun bt261 => ((spillwayref01_Mul.f k a0 a1).bind fun bt263 => ((spillwaylaw01_fixed.f k).bind fun t265 => (if t265 = true then (if bt261.1 = bt263.1 then (some (bt261.2 == bt263.2)) else (some false)) else (some false))))) = some r := h
  clear h
  have HRT := Aside0.mk hrt
  clear hrt
  replace H := Option.bind_eq_some_iff.mp H
  obtain ⟨⟨t261, t262⟩, A30, H⟩ := H
  replace H : ((spillwayref01_Mul.f k a0 a1).bind fun bt263 => ((spillwaylaw01_fixed.f k).bind fun t265 => (if t265 = true then (if t261 = bt263.1 then (some (t262 == bt263.2)) else (some false)) else (some false)))) = some r := H
  have A3 := Aside0.mk A30
  clear A30
  replace H := Option.bind_eq_some_iff.mp H
  obtain ⟨⟨t263, t264⟩, A40, H⟩ := H
  replace H : ((spillwaylaw01_fixed.f k).bind fun t265 => (if t265 = true then (if t261 = t263 then (some (t262 == t264)) else (some false)) else (some false))) = some r := H
  have A4 := Aside0.mk A40
  clear A40
  replace H := Option.bind_eq_some_iff.mp H
  obtain ⟨t265, A50, H⟩ := H
  replace H : (if t265 = true then (if t261 = t263 then (some (t262 == t264)) else (some false)) else (some false)) = some r := H
  have A5 := Aside0.mk A50
  clear A50
  by_cases c6 : t265 = true
  · subst c6
    have H1 : (if t261 = t263 then (some (t262 == t264)) else (some false)) = some r := by rw [if_pos rfl] at H; exact H
    clear H
    have H := H1
    clear H1
    by_cases c7 : t261 = t263
    · rw [if_pos c7] at H
      have c7b0 : (t261 == t263) = true := beq_iff_eq.mpr c7
      have c7b1 : (t261 != t263) = false := bne_eq_false_iff_eq.mpr c7
      clear c7
      obtain rfl := Option.some.inj H
      go_enter Try.func13, Try.ntmps13
      go_wp2_with (first | ((with_reducible refine gate_callee (f := 46) rfl ?_); refine goesL_ (some 12) rfl rfl Try.func46 (by kernel_rfl) rfl #[.int .i64 a0, .int .i64 a1] rfl (by (try simp only [List.map_toArray, List.map_cons, List.map_nil]); first | done | rfl | (simp only [List.length_drop, List.length_take]; rfl)) ?_; (with_reducible refine (num_Mul.calls k a0 a1 t261 t262 _ A3.out).mono ?_); rintro e w' ⟨rfl, ⟨nd, rfl⟩⟩; refine ⟨_, rfl, ?_⟩) | ((with_reducible refine gate_callee (f := 47) rfl ?_); refine goesL_ (some 18) rfl rfl Try.func47 (by kernel_rfl) rfl #[.int .i64 a0, .int .i64 a1] rfl (by (try simp only [List.map_toArray, List.map_cons, List.map_nil]); first | done | rfl | (simp only [List.length_drop, List.length_take]; rfl)) ?_; (with_reducible refine (spillwayref01_Mul.calls k a0 a1 t263 t264 _ A4.out).mono ?_); rintro e w' ⟨rfl, ⟨nd, rfl⟩⟩; refine ⟨_, rfl, ?_⟩) | ((with_reducible refine gate_callee (f := 24) rfl ?_); refine goesL_ (some 21) rfl rfl Try.func24 (by kernel_rfl) rfl #[] rfl (by (try simp only [List.map_toArray, List.map_cons, List.map_nil]); first | done | rfl | (simp only [List.length_drop, List.length_take]; rfl)) ?_; (with_reducible refine (spillwaylaw01_fixed.calls k  true _ A5.out).mono ?_); rintro e w' ⟨rfl, ⟨nd, rfl⟩⟩; refine ⟨_, rfl, ?_⟩))
      go_ret
      exact ⟨by first | rfl | (simp; done) | (simp [*]; done), by repeat (first | exact Drawn0.refl _ | apply Drawn0.step)⟩
    · rw [if_neg c7] at H
      have c7b0 : (t261 == t263) = false := beq_eq_false_iff_ne.mpr c7
      have c7b1 : (t261 != t263) = true := bne_iff_ne.mpr c7
      exact absurd ((Option.some.inj H).trans HRT.out) Bool.false_ne_true
  · replace c6 := Bool.eq_false_iff.mpr c6
    subst c6
    have H1 : (some false) = some r := by rw [if_neg (show ¬ (false = true) by decide)] at H; exact H
    clear H
    have H := H1
    clear H1
    exact absurd ((Option.some.inj H).trans HRT.out) Bool.false_ne_true

end Go.Proofs.Ytfccnnlbiniahaa.Q
