-- PRINTED by print.py (a twelfth state) out of the translation. Not trusted: Lean checks it.
import Derived.Test.YtfccnnlbiniahaaQx0
import Derived.Test.YtfccnnlbiniahaaQx10
namespace Go.Proofs.Ytfccnnlbiniahaa.Q
open Go.RowKit Go.Proofs.YtfccnnlbiniahaaW.PrintWords Go.Proofs.YtfccnnlbiniahaaW.PrintLast Go.Proofs.YtfccnnlbiniahaaW.PrintMore
attribute [local go_sem] max2_int min2_int max_two min_two max_three min_three max_four min_four   -- for this text's walks alone
set_option linter.unusedVariables false
set_option linter.unusedSimpArgs false

/-! ### num_Sat_int32: function 34 -/
def num_Sat_int32.l0 : Nat → Int → Int → Int → Option (Int)
  | 0, _, _, _ => none
  | k + 1, x0, x3, x4 => if x4 > 0 then (num_Sat_int32.l0 k x0 x4 (wrap32 (x4 * 2))) else (if x0 < 0 then (some (wrap32 ((wrap32 (-x3)) - x3))) else (some (wrap32 ((wrap32 (x3 - 1)) + x3))))
def num_Sat_int32.f (k : Nat) (a0 : Int) : Option (Int) := (num_Fits_int32.f a0).bind fun t173 => (if t173 = true then (some (wrap32 (a0))) else (num_Sat_int32.l0 k a0 1 (1 * 2)))
theorem num_Sat_int32.mono_l : ∀ k, (∀ y0 y1 y2, LeO (num_Sat_int32.l0 k y0 y1 y2) (num_Sat_int32.l0 (k + 1) y0 y1 y2))
  | 0 => fun _ _ _ r h => by simp [num_Sat_int32.l0] at h
  | k + 1 => by
    have ih0 := num_Sat_int32.mono_l k
    · intro y0 y1 y2
      unfold num_Sat_int32.l0
      repeat' first
      | (with_reducible exact ih0 _ _ _)
      | (with_reducible exact LeO.refl _)
      | (with_reducible exact LeO.none _)
      | (with_reducible refine LeO.ite ?_ ?_)
      | (with_reducible refine LeO.bind ?_ (fun _ => ?_))
      | exact ih0 _ _ _
      | exact LeO.none _
      | refine LeO.ite ?_ ?_
      | refine LeO.bind ?_ (fun _ => ?_)
theorem num_Sat_int32.mono : ∀ a0 k, LeO (num_Sat_int32.f k a0) (num_Sat_int32.f (k + 1) a0) := by
  intro a0 k
  have ih0 := num_Sat_int32.mono_l k
  unfold num_Sat_int32.f
  repeat' first
      | (with_reducible exact ih0 _ _ _)
      | (with_reducible exact LeO.refl _)
      | (with_reducible exact LeO.none _)
      | (with_reducible refine LeO.ite ?_ ?_)
      | (with_reducible refine LeO.bind ?_ (fun _ => ?_))
      | exact ih0 _ _ _
      | exact LeO.none _
      | refine LeO.ite ?_ ?_
      | refine LeO.bind ?_ (fun _ => ?_)
set_option maxHeartbeats 8000000 in
set_option maxRecDepth 100000 in
theorem num_Sat_int32.calls (k : Nat) (a0 : Int) (r : Int) (w : World) (h : num_Sat_int32.f k a0 = some r) :
    Calls Try.prog 34 #[.int .i64 a0] w fun e w' => e = .returned (.int .i32 r) ∧ Drawn0 w w' := by
  have H : ((num_Fits_int32.f a0).bind fun t173 => (if t173 = true then (some (wrap32 (a0))) else (num_Sat_int32.l0 k a0 1 (1 * 2)))) = some r := h
  clear h
  replace H := Option.bind_eq_some_iff.mp H
  obtain ⟨t173, A20, H⟩ := H
  replace H : (if t173 = true then (some (wrap32 (a0))) else (num_Sat_int32.l0 k a0 1 (1 * 2))) = some r := H
  have A2 := Aside0.mk A20
  clear A20
  by_cases c3 : t173 = true
  · subst c3
    have H1 : (some (wrap32 (a0))) = some r := by rw [if_pos rfl] at H; exact H
    clear H
    have H := H1
    clear H1
    obtain rfl := Option.some.inj H
    go_enter Try.func34, Try.ntmps34
    go_wp2_with (first | ((with_reducible refine gate_callee (f := 30) rfl ?_); refine goesL_ (some 6) rfl rfl Try.func30 (by kernel_rfl) rfl #[.int .i64 a0] rfl (by (try simp only [List.map_toArray, List.map_cons, List.map_nil]); first | done | rfl | (simp only [List.length_drop, List.length_take]; rfl)) ?_; (with_reducible refine (num_Fits_int32.calls a0 true _ A2.out).mono ?_); rintro e w' ⟨rfl, ⟨nd, rfl⟩⟩; refine ⟨_, rfl, ?_⟩))
    go_ret
    exact ⟨by first | rfl | (simp; done) | (simp [*]; done), by repeat (first | exact Drawn0.refl _ | apply Drawn0.step)⟩
  · replace c3 := Bool.eq_false_iff.mpr c3
    subst c3
    have H1 : (num_Sat_int32.l0 k a0 1 (1 * 2)) = some r := by rw [if_neg (show ¬ (false = true) by decide)] at H; exact H
    clear H
    have H := H1
    clear H1
    have H' := Aside0.mk H
    clear H
    go_enter Try.func34, Try.ntmps34
    go_wp2_with (first | ((with_reducible refine gate_callee (f := 30) rfl ?_); refine goesL_ (some 6) rfl rfl Try.func30 (by kernel_rfl) rfl #[.int .i64 a0] rfl (by (try simp only [List.map_toArray, List.map_cons, List.map_nil]); first | done | rfl | (simp only [List.length_drop, List.length_take]; rfl)) ?_; (with_reducible refine (num_Fits_int32.calls a0 false _ A2.out).mono ?_); rintro e w' ⟨rfl, ⟨nd, rfl⟩⟩; refine ⟨_, rfl, ?_⟩))
    go_loopg [3, 4] k (fun kq v3 v4 w' => ∃ (x3_1 : Int) (x4_1 : Int), v3 = .int .i32 x3_1 ∧ v4 = .int .i32 x4_1 ∧ Aside0 (num_Sat_int32.l0 kq a0 x3_1 x4_1 = some r) ∧ Aside0 (kq ≤ k) ∧ Drawn0 w w')
    case atStart => exact ⟨(1), (1 * 2), (by first | rfl | (simp; done) | (simp [*]; done)), (by first | rfl | (simp; done) | (simp [*]; done)), H', ⟨Nat.le_refl _⟩, by repeat (first | exact Drawn0.refl _ | apply Drawn0.step)⟩
    case round =>
      clear H'
      try clear p2
      try clear c3
      try clear p3
      obtain ⟨x3_1, x4_1, rfl, rfl, HA, HK1, ⟨m1, rfl⟩⟩ := hrel
      cases gk with
      | zero => exact absurd HA.out (by simp [num_Sat_int32.l0])
      | succ k1 =>
        have H := HA.out
        clear HA
        simp only [num_Sat_int32.l0] at H
        by_cases c4 : x4_1 > 0
        · rw [if_pos c4] at H
          have c4b0 : decide (0 < x4_1) = true := decide_eq_true c4
          clear c4
          have H' := Aside0.mk H
          clear H
          go_wp2
          go_roundg k1
          case measure => have := HK1.out; omega
          case rel => exact ⟨(x4_1), (wrap32 (x4_1 * 2)), (by first | rfl | (simp; done) | (simp [*]; done)), (by first | rfl | (simp; done) | (simp [*]; done)), H', ⟨by have := HK1.out; omega⟩, by repeat (first | exact Drawn0.refl _ | apply Drawn0.step)⟩
        · rw [if_neg c4] at H
          have c4b0 : decide (0 < x4_1) = false := decide_eq_false c4
          clear c4
          by_cases c5 : a0 < 0
          · rw [if_pos c5] at H
            have c5b0 : decide (a0 < 0) = true := decide_eq_true c5
            clear c5
            obtain rfl := Option.some.inj H
            go_wp2
            go_ret
            exact ⟨by first | rfl | (simp; done) | (simp [*]; done), by repeat (first | exact Drawn0.refl _ | apply Drawn0.step)⟩
          · rw [if_neg c5] at H
            have c5b0 : decide (a0 < 0) = false := decide_eq_false c5
            clear c5
            obtain rfl := Option.some.inj H
            go_wp2
            go_ret
            exact ⟨by first | rfl | (simp; done) | (simp [*]; done), by repeat (first | exact Drawn0.refl _ | apply Drawn0.step)⟩

/-! ### num_Wrap_int8: function 35 -/
def num_Wrap_int8.f (a0 : Int) : Option (Int) := some (IntKind.i8.wrap (a0))
set_option maxHeartbeats 8000000 in
set_option maxRecDepth 100000 in
theorem num_Wrap_int8.calls (a0 : Int) (r : Int) (w : World) (h : num_Wrap_int8.f a0 = some r) :
    Calls Try.prog 35 #[.int .i64 a0] w fun e w' => e = .returned (.int .i8 r) ∧ Drawn0 w w' := by
  have H : (some (IntKind.i8.wrap (a0))) = some r := h
  clear h
  obtain rfl := Option.some.inj H
  go_enter Try.func35, Try.ntmps35
  go_wp2
  go_ret
  exact ⟨by first | rfl | (simp; done) | (simp [*]; done), by repeat (first | exact Drawn0.refl _ | apply Drawn0.step)⟩

/-! ### spillwayref01_Wrap: function 36 -/
def spillwayref01_Wrap.f (a0 : Int) (a1 : Int) : Option (Int) := if 0 ≤ (IntKind.u64.wrap (a0)) then (if (shl .i64 1 (IntKind.u64.wrap (a0))) = 0 then (none) else (if (Int.tmod a1 (shl .i64 1 (IntKind.u64.wrap (a0)))) < 0 then (if (wrap64 ((Int.tmod a1 (shl .i64 1 (IntKind.u64.wrap (a0)))) + (shl .i64 1 (IntKind.u64.wrap (a0))))) ≥ (wrap64 (Int.tdiv (shl .i64 1 (IntKind.u64.wrap (a0))) 2)) then (some (wrap64 ((wrap64 ((Int.tmod a1 (shl .i64 1 (IntKind.u64.wrap (a0)))) + (shl .i64 1 (IntKind.u64.wrap (a0))))) - (shl .i64 1 (IntKind.u64.wrap (a0)))))) else (some (wrap64 ((Int.tmod a1 (shl .i64 1 (IntKind.u64.wrap (a0)))) + (shl .i64 1 (IntKind.u64.wrap (a0))))))) else (if (Int.tmod a1 (shl .i64 1 (IntKind.u64.wrap (a0)))) ≥ (wrap64 (Int.tdiv (shl .i64 1 (IntKind.u64.wrap (a0))) 2)) then (some (wrap64 ((Int.tmod a1 (shl .i64 1 (IntKind.u64.wrap (a0)))) - (shl .i64 1 (IntKind.u64.wrap (a0)))))) else (some (Int.tmod a1 (shl .i64 1 (IntKind.u64.wrap (a0)))))))) else (none)
set_option maxHeartbeats 8000000 in
set_option maxRecDepth 100000 in
theorem spillwayref01_Wrap.calls (a0 : Int) (a1 : Int) (r : Int) (w : World) (h : spillwayref01_Wrap.f a0 a1 = some r) :
    Calls Try.prog 36 #[.int .i64 a0, .int .i64 a1] w fun e w' => e = .returned (.int .i64 r) ∧ Drawn0 w w' := by
  have H : (if 0 ≤ (IntKind.u64.wrap (a0)) then (if (shl .i64 1 (IntKind.u64.wrap (a0))) = 0 then (none) else (if (Int.tmod a1 (shl .i64 1 (IntKind.u64.wrap (a0)))) < 0 then (if (wrap64 ((Int.tmod a1 (shl .i64 1 (IntKind.u64.wrap (a0)))) + (shl .i64 1 (IntKind.u64.wrap (a0))))) ≥ (wrap64 (Int.tdiv (shl .i64 1 (IntKind.u64.wrap (a0))) 2)) then (some (wrap64 ((wrap64 ((Int.tmod a1 (shl .i64 1 (IntKind.u64.wrap (a0)))) + (shl .i64 1 (IntKind.u64.wrap (a0))))) - (shl .i64 1 (IntKind.u64.wrap (a0)))))) else (some (wrap64 ((Int.tmod a1 (shl .i64 1 (IntKind.u64.wrap (a0)))) + (shl .i64 1 (IntKind.u64.wrap (a0))))))) else (if (Int.tmod a1 (shl .i64 1 (IntKind.u64.wrap (a0)))) ≥ (wrap64 (Int.tdiv (shl .i64 1 (IntKind.u64.wrap (a0))) 2)) then (some (wrap64 ((Int.tmod a1 (shl .i64 1 (IntKind.u64.wrap (a0)))) - (shl .i64 1 (IntKind.u64.wrap (a0)))))) else (some (Int.tmod a1 (shl .i64 1 (IntKind.u64.wrap (a0)))))))) else (none)) = some r := h
  clear h
  obtain ⟨ji3, hji3⟩ : ∃ j_ : Int, (IntKind.u64.wrap (a0)) = j_ := ⟨_, rfl⟩
  replace H : (if 0 ≤ (ji3) then (if (shl .i64 1 (ji3)) = 0 then (none) else (if (Int.tmod a1 (shl .i64 1 (ji3))) < 0 then (if (wrap64 ((Int.tmod a1 (shl .i64 1 (ji3))) + (shl .i64 1 (ji3)))) ≥ (wrap64 (Int.tdiv (shl .i64 1 (ji3)) 2)) then (some (wrap64 ((wrap64 ((Int.tmod a1 (shl .i64 1 (ji3))) + (shl .i64 1 (ji3)))) - (shl .i64 1 (ji3))))) else (some (wrap64 ((Int.tmod a1 (shl .i64 1 (ji3))) + (shl .i64 1 (ji3)))))) else (if (Int.tmod a1 (shl .i64 1 (ji3))) ≥ (wrap64 (Int.tdiv (shl .i64 1 (ji3)) 2)) then (some (wrap64 ((Int.tmod a1 (shl .i64 1 (ji3))) - (shl .i64 1 (ji3))))) else (some (Int.tmod a1 (shl .i64 1 (ji3))))))) else (none)) = some r := by first | (rw [hji3] at H; exact H) | (simp only [hji3] at H ⊢; exact H)
  by_cases c4 : 0 ≤ (ji3)
  · rw [if_pos c4] at H
    have c4b0 := eq_true c4
    have c4b1 : decide (0 ≤ (ji3)) = true := decide_eq_true c4
    clear c4
    obtain ⟨ji5, hji5⟩ : ∃ j_ : Int, (shl .i64 1 (ji3)) = j_ := ⟨_, rfl⟩
    replace H : (if (ji5) = 0 then (none) else (if (Int.tmod a1 (ji5)) < 0 then (if (wrap64 ((Int.tmod a1 (ji5)) + (ji5))) ≥ (wrap64 (Int.tdiv (ji5) 2)) then (some (wrap64 ((wrap64 ((Int.tmod a1 (ji5)) + (ji5))) - (ji5)))) else (some (wrap64 ((Int.tmod a1 (ji5)) + (ji5))))) else (if (Int.tmod a1 (ji5)) ≥ (wrap64 (Int.tdiv (ji5) 2)) then (some (wrap64 ((Int.tmod a1 (ji5)) - (ji5)))) else (some (Int.tmod a1 (ji5)))))) = some r := by first | (rw [hji5] at H; exact H) | (simp only [hji5] at H ⊢; exact H)
    have hji5_ : (IntKind.i64.wrap (1 * 2 ^ min (ji3).toNat 64)) = ji5 := hji5
    have hji5z : (ji3) ≤ 64 → (IntKind.i64.wrap (1 * 2 ^ (ji3).toNat)) = ji5 := shl_small hji5
    have hji5u : (IntKind.i64.wrap (2 ^ min (ji3).toNat 64)) = ji5 := by have h_ := hji5_; rw [Int.one_mul] at h_; exact h_
    have hji5v : (ji3) ≤ 64 → (IntKind.i64.wrap (2 ^ (ji3).toNat)) = ji5 := fun hle_ => by have h_ := hji5z hle_; rw [Int.one_mul] at h_; exact h_
    have hji5y : (wrap64 (1 * 2 ^ min (ji3).toNat 64)) = ji5 := (i64_w _).symm.trans hji5_
    have hji5x : (ji3) ≤ 64 → (wrap64 (1 * 2 ^ (ji3).toNat)) = ji5 := fun h_ => (i64_w _).symm.trans (hji5z h_)
    by_cases c6 : (ji5) = 0
    · rw [if_pos c6] at H
      exact absurd H (by simp)
    · rw [if_neg c6] at H
      have c6b0 : ((ji5) == 0) = false := beq_eq_false_iff_ne.mpr c6
      have c6b1 : ((ji5) != 0) = true := bne_iff_ne.mpr c6
      by_cases c7 : (Int.tmod a1 (ji5)) < 0
      · rw [if_pos c7] at H
        have c7b0 : decide ((Int.tmod a1 (ji5)) < 0) = true := decide_eq_true c7
        clear c7
        by_cases c8 : (wrap64 ((Int.tmod a1 (ji5)) + (ji5))) ≥ (wrap64 (Int.tdiv (ji5) 2))
        · rw [if_pos c8] at H
          have c8b0 : decide ((wrap64 (Int.tdiv (ji5) 2)) ≤ (wrap64 ((Int.tmod a1 (ji5)) + (ji5)))) = true := decide_eq_true c8
          clear c8
          obtain rfl := Option.some.inj H
          go_enter Try.func36, Try.ntmps36
          go_wp2
          go_ret
          exact ⟨by first | rfl | (simp; done) | (simp only [← hji3, ← hji5] <;> (first | rfl | simp)) | (simp [*]; done), by repeat (first | exact Drawn0.refl _ | apply Drawn0.step)⟩
        · rw [if_neg c8] at H
          have c8b0 : decide ((wrap64 (Int.tdiv (ji5) 2)) ≤ (wrap64 ((Int.tmod a1 (ji5)) + (ji5)))) = false := decide_eq_false c8
          clear c8
          obtain rfl := Option.some.inj H
          go_enter Try.func36, Try.ntmps36
          go_wp2
          go_ret
          exact ⟨by first | rfl | (simp; done) | (simp only [← hji3, ← hji5] <;> (first | rfl | simp)) | (simp [*]; done), by repeat (first | exact Drawn0.refl _ | apply Drawn0.step)⟩
      · rw [if_neg c7] at H
        have c7b0 : decide ((Int.tmod a1 (ji5)) < 0) = false := decide_eq_false c7
        clear c7
        by_cases c9 : (Int.tmod a1 (ji5)) ≥ (wrap64 (Int.tdiv (ji5) 2))
        · rw [if_pos c9] at H
          have c9b0 : decide ((wrap64 (Int.tdiv (ji5) 2)) ≤ (Int.tmod a1 (ji5))) = true := decide_eq_true c9
          clear c9
          obtain rfl := Option.some.inj H
          go_enter Try.func36, Try.ntmps36
          go_wp2
          go_ret
          exact ⟨by first | rfl | (simp; done) | (simp only [← hji3, ← hji5] <;> (first | rfl | simp)) | (simp [*]; done), by repeat (first | exact Drawn0.refl _ | apply Drawn0.step)⟩
        · rw [if_neg c9] at H
          have c9b0 : decide ((wrap64 (Int.tdiv (ji5) 2)) ≤ (Int.tmod a1 (ji5))) = false := decide_eq_false c9
          clear c9
          obtain rfl := Option.some.inj H
          go_enter Try.func36, Try.ntmps36
          go_wp2
          go_ret
          exact ⟨by first | rfl | (simp; done) | (simp only [← hji3, ← hji5] <;> (first | rfl | simp)) | (simp [*]; done), by repeat (first | exact Drawn0.refl _ | apply Drawn0.step)⟩
  · rw [if_neg c4] at H
    exact absurd H (by simp)

/-! ### num_Wrap_int32: function 38 -/
def num_Wrap_int32.f (a0 : Int) : Option (Int) := some (wrap32 (a0))
set_option maxHeartbeats 8000000 in
set_option maxRecDepth 100000 in
theorem num_Wrap_int32.calls (a0 : Int) (r : Int) (w : World) (h : num_Wrap_int32.f a0 = some r) :
    Calls Try.prog 38 #[.int .i64 a0] w fun e w' => e = .returned (.int .i32 r) ∧ Drawn0 w w' := by
  have H : (some (wrap32 (a0))) = some r := h
  clear h
  obtain rfl := Option.some.inj H
  go_enter Try.func38, Try.ntmps38
  go_wp2
  go_ret
  exact ⟨by first | rfl | (simp; done) | (simp [*]; done), by repeat (first | exact Drawn0.refl _ | apply Drawn0.step)⟩

end Go.Proofs.Ytfccnnlbiniahaa.Q
