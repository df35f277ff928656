-- PRINTED by print.py (a twelfth state) out of the translation. Not trusted: Lean checks it.
import Derived.Test.YtfccnnlbiniahaaQx0
import Derived.Test.YtfccnnlbiniahaaQx7
import Derived.Test.YtfccnnlbiniahaaQx8
import Derived.Test.YtfccnnlbiniahaaQx9
import Derived.Test.YtfccnnlbiniahaaQx10
import Derived.Test.YtfccnnlbiniahaaQx11
import Derived.Test.YtfccnnlbiniahaaQx12
namespace Go.Proofs.Ytfccnnlbiniahaa.Q
open Go.RowKit Go.Proofs.YtfccnnlbiniahaaW.PrintWords Go.Proofs.YtfccnnlbiniahaaW.PrintLast Go.Proofs.YtfccnnlbiniahaaW.PrintMore
attribute [local go_sem] max2_int min2_int max_two min_two max_three min_three max_four min_four   -- for this text's walks alone
set_option linter.unusedVariables false
set_option linter.unusedSimpArgs false

/-! ### spillwaylaw01_NumNarrow: function 7 -/
mutual
def spillwaylaw01_NumNarrow.j0 : Nat → Int → Bool → Option (Bool)
  | 0, _, _ => none
  | k + 1, x0, x25 => if x25 = true then (some false) else ((num_Sat_int8.f k x0).bind fun t181 => ((spillwayref01_Sat.f 8 x0).bind fun t182 => (if (wrap64 (t181)) = t182 then ((num_Sat_int16.f k x0).bind fun t183 => ((spillwayref01_Sat.f 16 x0).bind fun t184 => (if (wrap64 (t183)) = t184 then ((num_Sat_int32.f k x0).bind fun t185 => ((spillwayref01_Sat.f 32 x0).bind fun t186 => (spillwaylaw01_NumNarrow.j1 k x0 ((wrap64 (t185)) != t186)))) else (spillwaylaw01_NumNarrow.j1 k x0 true)))) else (spillwaylaw01_NumNarrow.j1 k x0 true))))
def spillwaylaw01_NumNarrow.j1 : Nat → Int → Bool → Option (Bool)
  | 0, _, _ => none
  | k + 1, x0, x47 => if x47 = true then (some false) else ((num_Wrap_int8.f x0).bind fun t187 => ((spillwayref01_Wrap.f 8 x0).bind fun t188 => (if (wrap64 (t187)) = t188 then ((num_Wrap_int16.f x0).bind fun t189 => ((spillwayref01_Wrap.f 16 x0).bind fun t190 => (if (wrap64 (t189)) = t190 then ((num_Wrap_int32.f x0).bind fun t191 => ((spillwayref01_Wrap.f 32 x0).bind fun t192 => (some ((wrap64 (t191)) == t192)))) else (some false)))) else (some false))))
end
def spillwaylaw01_NumNarrow.f (k : Nat) (a0 : Int) : Option (Bool) := (spillwaylaw01_fixed.f k).bind fun t174 => (if t174 = true then ((num_Fits_int8.f a0).bind fun t175 => ((spillwayref01_Fits.f 8 a0).bind fun t176 => (if (t175 != t176) = true then (spillwaylaw01_NumNarrow.j0 k a0 true) else ((num_Fits_int16.f a0).bind fun t177 => ((spillwayref01_Fits.f 16 a0).bind fun t178 => (if (t177 != t178) = true then (spillwaylaw01_NumNarrow.j0 k a0 true) else ((num_Fits_int32.f a0).bind fun t179 => ((spillwayref01_Fits.f 32 a0).bind fun t180 => (spillwaylaw01_NumNarrow.j0 k a0 (t179 != t180)))))))))) else (spillwaylaw01_NumNarrow.j0 k a0 true))
theorem spillwaylaw01_NumNarrow.mono_l : ∀ k, (∀ y0 y1, LeO (spillwaylaw01_NumNarrow.j0 k y0 y1) (spillwaylaw01_NumNarrow.j0 (k + 1) y0 y1)) ∧ (∀ y0 y1, LeO (spillwaylaw01_NumNarrow.j1 k y0 y1) (spillwaylaw01_NumNarrow.j1 (k + 1) y0 y1))
  | 0 => ⟨fun _ _ r h => by simp [spillwaylaw01_NumNarrow.j0] at h, fun _ _ r h => by simp [spillwaylaw01_NumNarrow.j1] at h⟩
  | k + 1 => by
    obtain ⟨ih0, ih1⟩ := spillwaylaw01_NumNarrow.mono_l k
    refine ⟨?_, ?_⟩
    · intro y0 y1
      unfold spillwaylaw01_NumNarrow.j0
      repeat' first
      | (with_reducible exact ih0 _ _)
      | (with_reducible exact ih1 _ _)
      | (with_reducible exact num_Sat_int16.mono _ _)
      | (with_reducible exact num_Sat_int32.mono _ _)
      | (with_reducible exact num_Sat_int8.mono _ _)
      | (with_reducible exact spillwaylaw01_fixed.mono _)
      | (with_reducible exact LeO.refl _)
      | (with_reducible exact LeO.none _)
      | (with_reducible refine LeO.ite ?_ ?_)
      | (with_reducible refine LeO.bind ?_ (fun _ => ?_))
      | exact ih0 _ _
      | exact ih1 _ _
      | exact num_Sat_int16.mono _ _
      | exact num_Sat_int32.mono _ _
      | exact num_Sat_int8.mono _ _
      | exact spillwaylaw01_fixed.mono _
      | exact LeO.none _
      | refine LeO.ite ?_ ?_
      | refine LeO.bind ?_ (fun _ => ?_)
    · intro y0 y1
      unfold spillwaylaw01_NumNarrow.j1
      repeat' first
      | (with_reducible exact ih0 _ _)
      | (with_reducible exact ih1 _ _)
      | (with_reducible exact num_Sat_int16.mono _ _)
      | (with_reducible exact num_Sat_int32.mono _ _)
      | (with_reducible exact num_Sat_int8.mono _ _)
      | (with_reducible exact spillwaylaw01_fixed.mono _)
      | (with_reducible exact LeO.refl _)
      | (with_reducible exact LeO.none _)
      | (with_reducible refine LeO.ite ?_ ?_)
      | (with_reducible refine LeO.bind ?_ (fun _ => ?_))
      | exact ih0 _ _
      | exact ih1 _ _
      | exact num_Sat_int16.mono _ _
      | exact num_Sat_int32.mono _ _
      | exact num_Sat_int8.mono _ _
      | exact spillwaylaw01_fixed.mono _
      | exact LeO.none _
      | refine LeO.ite ?_ ?_
      | refine LeO.bind ?_ (fun _ => ?_)
theorem spillwaylaw01_NumNarrow.mono : ∀ a0 k, LeO (spillwaylaw01_NumNarrow.f k a0) (spillwaylaw01_NumNarrow.f (k + 1) a0) := by
  intro a0 k
  obtain ⟨ih0, ih1⟩ := spillwaylaw01_NumNarrow.mono_l k
  unfold spillwaylaw01_NumNarrow.f
  repeat' first
      | (with_reducible exact ih0 _ _)
      | (with_reducible exact ih1 _ _)
      | (with_reducible exact num_Sat_int16.mono _ _)
      | (with_reducible exact num_Sat_int32.mono _ _)
      | (with_reducible exact num_Sat_int8.mono _ _)
      | (with_reducible exact spillwaylaw01_fixed.mono _)
      | (with_reducible exact LeO.refl _)
      | (with_reducible exact LeO.none _)
      | (with_reducible refine LeO.ite ?_ ?_)
      | (with_reducible refine LeO.bind ?_ (fun _ => ?_))
      | exact ih0 _ _
      | exact ih1 _ _
      | exact num_Sat_int16.mono _ _
      | exact num_Sat_int32.mono _ _
      | exact num_Sat_int8.mono _ _
      | exact spillwaylaw01_fixed.mono _
      | exact LeO.none _
      | refine LeO.ite ?_ ?_
      | refine LeO.bind ?_ (fun _ => ?_)
set_option maxHeartbeats 8000000 in
set_option maxRecDepth 100000 in
theorem spillwaylaw01_NumNarrow.calls (k : Nat) (a0 : Int) (r : Bool) (w : World) (hrt : r = true) (h : spillwaylaw01_NumNarrow.f k a0 = some r) :
    Calls Try.prog 7 #[.int .i64 a0] w fun e w' => e = .returned (.bool r) ∧ Drawn0 w w' := by
  have H : ((spillwaylaw01_fixed.f k).bind fun t174 => (if t174 = true then ((num_Fits_int8.f a0).bind fun t175 => ((spillwayref01_Fits.f 8 a0).bind fun t176 => (if (t175 != t176) = true then (spillwaylaw01_NumNarrow.j0 k a0 true) else ((num_Fits_int16.f a0).bind fun t177 => ((spillwayref01_Fits.f 16 a0).bind fun t178 => (if (t177 != t178) = true then (spillwaylaw01_NumNarrow.j0 k a0 true) else ((num_Fits_int32.f a0).bind fun t179 => ((spillwayref01_Fits.f 32 a0).bind fun t180 => (spillwaylaw01_NumNarrow.j0 k a0 (t179 != t180)))))))))) else (spillwaylaw01_NumNarrow.j0 k a0 true))) = some r := h
  clear h
  have HRT := Aside0.mk hrt
  clear hrt
  have HC2 := Aside0.mk H
  clear H
  go_enter Try.func7, Try.ntmps7
  go_upto_region 1 with (fail)
  go_cut [25] (fun v25 wc => ∃ (kq : Nat) (x25_1 : Bool), v25 = .bool x25_1 ∧ Aside0 (spillwaylaw01_NumNarrow.j0 kq a0 x25_1 = some r) ∧ Aside0 (kq ≤ k) ∧ Drawn0 w wc)
  case first =>
    have H := HC2.out
    clear HC2
    replace H := Option.bind_eq_some_iff.mp H
    obtain ⟨t174, A30, H⟩ := H
    replace H : (if t174 = true then ((num_Fits_int8.f a0).bind fun t175 => ((spillwayref01_Fits.f 8 a0).bind fun t176 => (if (t175 != t176) = true then (spillwaylaw01_NumNarrow.j0 k a0 true) else ((num_Fits_int16.f a0).bind fun t177 => ((spillwayref01_Fits.f 16 a0).bind fun t178 => (if (t177 != t178) = true then (spillwaylaw01_NumNarrow.j0 k a0 true) else ((num_Fits_int32.f a0).bind fun t179 => ((spillwayref01_Fits.f 32 a0).bind fun t180 => (spillwaylaw01_NumNarrow.j0 k a0 (t179 != t180)))))))))) else (spillwaylaw01_NumNarrow.j0 k a0 true)) = some r := H
    have A3 := Aside0.mk A30
    clear A30
    by_cases c4 : t174 = true
    · subst c4
      have H1 : ((num_Fits_int8.f a0).bind fun t175 => ((spillwayref01_Fits.f 8 a0).bind fun t176 => (if (t175 != t176) = true then (spillwaylaw01_NumNarrow.j0 k a0 true) else ((num_Fits_int16.f a0).bind fun t177 => ((spillwayref01_Fits.f 16 a0).bind fun t178 => (if (t177 != t178) = true then (spillwaylaw01_NumNarrow.j0 k a0 true) else ((num_Fits_int32.f a0).bind fun t179 => ((spillwayref01_Fits.f 32 a0).bind fun t180 => (spillwaylaw01_NumNarrow.j0 k a0 (t179 != t180)))))))))) = some r := by rw [if_pos rfl] at H; exact H
      clear H
      have H := H1
      clear H1
      replace H := Option.bind_eq_some_iff.mp H
      obtain ⟨t175, A50, H⟩ := H
      replace H : ((spillwayref01_Fits.f 8 a0).bind fun t176 => (if (t175 != t176) = true then (spillwaylaw01_NumNarrow.j0 k a0 true) else ((num_Fits_int16.f a0).bind fun t177 => ((spillwayref01_Fits.f 16 a0).bind fun t178 => (if (t177 != t178) = true then (spillwaylaw01_NumNarrow.j0 k a0 true) else ((num_Fits_int32.f a0).bind fun t179 => ((spillwayref01_Fits.f 32 a0).bind fun t180 => (spillwaylaw01_NumNarrow.j0 k a0 (t179 != t180))))))))) = some r := H
      have A5 := Aside0.mk A50
      clear A50
      replace H := Option.bind_eq_some_iff.mp H
      obtain ⟨t176, A60, H⟩ := H
      replace H : (if (t175 != t176) = true then (spillwaylaw01_NumNarrow.j0 k a0 true) else ((num_Fits_int16.f a0).bind fun t177 => ((spillwayref01_Fits.f 16 a0).bind fun t178 => (if (t177 != t178) = true then (spillwaylaw01_NumNarrow.j0 k a0 true) else ((num_Fits_int32.f a0).bind fun t179 => ((spillwayref01_Fits.f 32 a0).bind fun t180 => (spillwaylaw01_NumNarrow.j0 k a0 (t179 != t180)))))))) = some r := H
      have A6 := Aside0.mk A60
      clear A60
      by_cases c7 : (t175 != t176) = true
      · rw [if_pos c7] at H
        have c7b0 : (t175 != t176) = true := c7
        (try (have c7b1 : decide (t175 = t176) = false := by simpa using c7))
        (try (have c7b2 : (t175 == t176) = false := by simpa using c7))
        (try (have c7b3 : ¬ (t175 = t176) := by simpa using c7))
        clear c7
        (first | rw [c7b0] | (simp only [i64_w, i32_w]; rw [c7b0]) | skip)
        have H' := Aside0.mk H
        clear H
        go_wp2_with (first | ((with_reducible refine gate_callee (f := 24) rfl ?_); refine goesL_ (some 3) rfl rfl Try.func24 (by kernel_rfl) rfl #[] rfl (by (try simp only [List.map_toArray, List.map_cons, List.map_nil]); first | done | rfl | (simp only [List.length_drop, List.length_take]; rfl)) ?_; (with_reducible refine (spillwaylaw01_fixed.calls k  true _ A3.out).mono ?_); rintro e w' ⟨rfl, ⟨nd, rfl⟩⟩; refine ⟨_, rfl, ?_⟩) | (go_at_call 27; (with_reducible refine (num_Fits_int8.calls a0 t175 _ A5.out).mono ?_); rintro e w' ⟨rfl, ⟨nd, rfl⟩⟩) | (go_at_call 28; (with_reducible refine (spillwayref01_Fits.calls 8 a0 t176 _ A6.out).mono ?_); rintro e w' ⟨rfl, ⟨nd, rfl⟩⟩))
        go_meet
        case rel => exact ⟨_, (true), (by first | rfl | (simp; done) | (simp [*]; done)), H', ⟨by first | omega | exact Nat.le_refl _⟩, by repeat (first | exact Drawn0.refl _ | apply Drawn0.step)⟩
      · rw [if_neg c7] at H
        have c7b0 : (t175 != t176) = false := by simpa using c7
        (try (have c7b1 : decide (t175 = t176) = true := by simpa using c7))
        (try (have c7b2 : (t175 == t176) = true := by simpa using c7))
        clear c7
        (first | rw [c7b0] | (simp only [i64_w, i32_w]; rw [c7b0]) | skip)
        replace H := Option.bind_eq_some_iff.mp H
        obtain ⟨t177, A80, H⟩ := H
        replace H : ((spillwayref01_Fits.f 16 a0).bind fun t178 => (if (t177 != t178) = true then (spillwaylaw01_NumNarrow.j0 k a0 true) else ((num_Fits_int32.f a0).bind fun t179 => ((spillwayref01_Fits.f 32 a0).bind fun t180 => (spillwaylaw01_NumNarrow.j0 k a0 (t179 != t180)))))) = some r := H
        have A8 := Aside0.mk A80
        clear A80
        replace H := Option.bind_eq_some_iff.mp H
        obtain ⟨t178, A90, H⟩ := H
        replace H : (if (t177 != t178) = true then (spillwaylaw01_NumNarrow.j0 k a0 true) else ((num_Fits_int32.f a0).bind fun t179 => ((spillwayref01_Fits.f 32 a0).bind fun t180 => (spillwaylaw01_NumNarrow.j0 k a0 (t179 != t180))))) = some r := H
        have A9 := Aside0.mk A90
        clear A90
        by_cases c10 : (t177 != t178) = true
        · rw [if_pos c10] at H
          have c10b0 : (t177 != t178) = true := c10
          (try (have c10b1 : decide (t177 = t178) = false := by simpa using c10))
          (try (have c10b2 : (t177 == t178) = false := by simpa using c10))
          (try (have c10b3 : ¬ (t177 = t178) := by simpa using c10))
          clear c10
          have H' := Aside0.mk H
          clear H
          go_wp2_with (first | ((with_reducible refine gate_callee (f := 24) rfl ?_); refine goesL_ (some 3) rfl rfl Try.func24 (by kernel_rfl) rfl #[] rfl (by (try simp only [List.map_toArray, List.map_cons, List.map_nil]); first | done | rfl | (simp only [List.length_drop, List.length_take]; rfl)) ?_; (with_reducible refine (spillwaylaw01_fixed.calls k  true _ A3.out).mono ?_); rintro e w' ⟨rfl, ⟨nd, rfl⟩⟩; refine ⟨_, rfl, ?_⟩) | (go_at_call 27; (with_reducible refine (num_Fits_int8.calls a0 t175 _ A5.out).mono ?_); rintro e w' ⟨rfl, ⟨nd, rfl⟩⟩) | (go_at_call 28; (with_reducible refine (spillwayref01_Fits.calls 8 a0 t176 _ A6.out).mono ?_); rintro e w' ⟨rfl, ⟨nd, rfl⟩⟩) | (go_at_call 29; (with_reducible refine (num_Fits_int16.calls a0 t177 _ A8.out).mono ?_); rintro e w' ⟨rfl, ⟨nd, rfl⟩⟩) | (go_at_call 28; (with_reducible refine (spillwayref01_Fits.calls 16 a0 t178 _ A9.out).mono ?_); rintro e w' ⟨rfl, ⟨nd, rfl⟩⟩))
          go_meet
          case rel => exact ⟨_, (true), (by first | rfl | (simp; done) | (simp [*]; done)), H', ⟨by first | omega | exact Nat.le_refl _⟩, by repeat (first | exact Drawn0.refl _ | apply Drawn0.step)⟩
        · rw [if_neg c10] at H
          have c10b0 : (t177 != t178) = false := by simpa using c10
          (try (have c10b1 : decide (t177 = t178) = true := by simpa using c10))
          (try (have c10b2 : (t177 == t178) = true := by simpa using c10))
          clear c10
          replace H := Option.bind_eq_some_iff.mp H
          obtain ⟨t179, A110, H⟩ := H
          replace H : ((spillwayref01_Fits.f 32 a0).bind fun t180 => (spillwaylaw01_NumNarrow.j0 k a0 (t179 != t180))) = some r := H
          have A11 := Aside0.mk A110
          clear A110
          replace H := Option.bind_eq_some_iff.mp H
          obtain ⟨t180, A120, H⟩ := H
          replace H : (spillwaylaw01_NumNarrow.j0 k a0 (t179 != t180)) = some r := H
          have A12 := Aside0.mk A120
          clear A120
          have H' := Aside0.mk H
          clear H
          go_wp2_with (first | ((with_reducible refine gate_callee (f := 24) rfl ?_); refine goesL_ (some 3) rfl rfl Try.func24 (by kernel_rfl) rfl #[] rfl (by (try simp only [List.map_toArray, List.map_cons, List.map_nil]); first | done | rfl | (simp only [List.length_drop, List.length_take]; rfl)) ?_; (with_reducible refine (spillwaylaw01_fixed.calls k  true _ A3.out).mono ?_); rintro e w' ⟨rfl, ⟨nd, rfl⟩⟩; refine ⟨_, rfl, ?_⟩) | (go_at_call 27; (with_reducible refine (num_Fits_int8.calls a0 t175 _ A5.out).mono ?_); rintro e w' ⟨rfl, ⟨nd, rfl⟩⟩) | (go_at_call 28; (with_reducible refine (spillwayref01_Fits.calls 8 a0 t176 _ A6.out).mono ?_); rintro e w' ⟨rfl, ⟨nd, rfl⟩⟩) | (go_at_call 29; (with_reducible refine (num_Fits_int16.calls a0 t177 _ A8.out).mono ?_); rintro e w' ⟨rfl, ⟨nd, rfl⟩⟩) | (go_at_call 28; (with_reducible refine (spillwayref01_Fits.calls 16 a0 t178 _ A9.out).mono ?_); rintro e w' ⟨rfl, ⟨nd, rfl⟩⟩) | (go_at_call 30; (with_reducible refine (num_Fits_int32.calls a0 t179 _ A11.out).mono ?_); rintro e w' ⟨rfl, ⟨nd, rfl⟩⟩) | (go_at_call 28; (with_reducible refine (spillwayref01_Fits.calls 32 a0 t180 _ A12.out).mono ?_); rintro e w' ⟨rfl, ⟨nd, rfl⟩⟩))
          go_meet
          case rel => exact ⟨_, ((t179 != t180)), (by first | rfl | (simp; done) | (simp [*]; done)), H', ⟨by first | omega | exact Nat.le_refl _⟩, by repeat (first | exact Drawn0.refl _ | apply Drawn0.step)⟩
    · replace c4 := Bool.eq_false_iff.mpr c4
      subst c4
      have H1 : (spillwaylaw01_NumNarrow.j0 k a0 true) = some r := by rw [if_neg (show ¬ (false = true) by decide)] at H; exact H
      clear H
      have H := H1
      clear H1
      have H' := Aside0.mk H
      clear H
      go_wp2_with (first | ((with_reducible refine gate_callee (f := 24) rfl ?_); refine goesL_ (some 3) rfl rfl Try.func24 (by kernel_rfl) rfl #[] rfl (by (try simp only [List.map_toArray, List.map_cons, List.map_nil]); first | done | rfl | (simp only [List.length_drop, List.length_take]; rfl)) ?_; (with_reducible refine (spillwaylaw01_fixed.calls k  false _ A3.out).mono ?_); rintro e w' ⟨rfl, ⟨nd, rfl⟩⟩; refine ⟨_, rfl, ?_⟩))
      go_meet
      case rel => exact ⟨_, (true), (by first | rfl | (simp; done) | (simp [*]; done)), H', ⟨by first | omega | exact Nat.le_refl _⟩, by repeat (first | exact Drawn0.refl _ | apply Drawn0.step)⟩
  case rest =>
    clear HC2
    try clear c1
    try clear c2
    try clear p2
    try clear c4
    try clear c7
    try clear c7b0
    try clear c7b1
    try clear c7b2
    try clear c10
    try clear c10b0
    try clear c10b1
    try clear c10b2
    obtain ⟨kq, x25_1, rfl, HA, HJ1, ⟨mc1, rfl⟩⟩ := hcut
    cases kq with
    | zero => exact absurd HA.out (by simp [spillwaylaw01_NumNarrow.j0])
    | succ kj1 =>
      have H := HA.out
      clear HA
      simp only [spillwaylaw01_NumNarrow.j0] at H
      by_cases c13 : x25_1 = true
      · subst c13
        have H1 : (some false) = some r := by rw [if_pos rfl] at H; exact H
        clear H
        have H := H1
        clear H1
        exact absurd ((Option.some.inj H).trans HRT.out) Bool.false_ne_true
      · replace c13 := Bool.eq_false_iff.mpr c13
        subst c13
        have H1 : ((num_Sat_int8.f kj1 a0).bind fun t181 => ((spillwayref01_Sat.f 8 a0).bind fun t182 => (if (wrap64 (t181)) = t182 then ((num_Sat_int16.f kj1 a0).bind fun t183 => ((spillwayref01_Sat.f 16 a0).bind fun t184 => (if (wrap64 (t183)) = t184 then ((num_Sat_int32.f kj1 a0).bind fun t185 => ((spillwayref01_Sat.f 32 a0).bind fun t186 => (spillwaylaw01_NumNarrow.j1 kj1 a0 ((wrap64 (t185)) != t186)))) else (spillwaylaw01_NumNarrow.j1 kj1 a0 true)))) else (spillwaylaw01_NumNarrow.j1 kj1 a0 true)))) = some r := by rw [if_neg (show ¬ (false = true) by decide)] at H; exact H
        clear H
        have H := H1
        clear H1
        have HC14 := Aside0.mk H
        clear H
        go_upto_region 3 with (fail)
        go_cut [47] (fun v47 wc => ∃ (kq : Nat) (x47_13 : Bool), v47 = .bool x47_13 ∧ Aside0 (spillwaylaw01_NumNarrow.j1 kq a0 x47_13 = some r) ∧ Aside0 (kq ≤ kj1) ∧ Drawn0 w wc)
        case first =>
          have H := HC14.out
          clear HC14
          replace H := Option.bind_eq_some_iff.mp H
          obtain ⟨t181, A150, H⟩ := H
          replace H : ((spillwayref01_Sat.f 8 a0).bind fun t182 => (if (wrap64 (t181)) = t182 then ((num_Sat_int16.f kj1 a0).bind fun t183 => ((spillwayref01_Sat.f 16 a0).bind fun t184 => (if (wrap64 (t183)) = t184 then ((num_Sat_int32.f kj1 a0).bind fun t185 => ((spillwayref01_Sat.f 32 a0).bind fun t186 => (spillwaylaw01_NumNarrow.j1 kj1 a0 ((wrap64 (t185)) != t186)))) else (spillwaylaw01_NumNarrow.j1 kj1 a0 true)))) else (spillwaylaw01_NumNarrow.j1 kj1 a0 true))) = some r := H
          have A15 := Aside0.mk A150
          clear A150
          replace H := Option.bind_eq_some_iff.mp H
          obtain ⟨t182, A160, H⟩ := H
          replace H : (if (wrap64 (t181)) = t182 then ((num_Sat_int16.f kj1 a0).bind fun t183 => ((spillwayref01_Sat.f 16 a0).bind fun t184 => (if (wrap64 (t183)) = t184 then ((num_Sat_int32.f kj1 a0).bind fun t185 => ((spillwayref01_Sat.f 32 a0).bind fun t186 => (spillwaylaw01_NumNarrow.j1 kj1 a0 ((wrap64 (t185)) != t186)))) else (spillwaylaw01_NumNarrow.j1 kj1 a0 true)))) else (spillwaylaw01_NumNarrow.j1 kj1 a0 true)) = some r := H
          have A16 := Aside0.mk A160
          clear A160
          by_cases c17 : (wrap64 (t181)) = t182
          · rw [if_pos c17] at H
            have c17b0 : ((wrap64 (t181)) == t182) = true := beq_iff_eq.mpr c17
            have c17b1 : ((wrap64 (t181)) != t182) = false := bne_eq_false_iff_eq.mpr c17
            clear c17
            (first | rw [c17b0] | (simp only [i64_w, i32_w]; rw [c17b0]) | skip)
            replace H := Option.bind_eq_some_iff.mp H
            obtain ⟨t183, A180, H⟩ := H
            replace H : ((spillwayref01_Sat.f 16 a0).bind fun t184 => (if (wrap64 (t183)) = t184 then ((num_Sat_int32.f kj1 a0).bind fun t185 => ((spillwayref01_Sat.f 32 a0).bind fun t186 => (spillwaylaw01_NumNarrow.j1 kj1 a0 ((wrap64 (t185)) != t186)))) else (spillwaylaw01_NumNarrow.j1 kj1 a0 true))) = some r := H
            have A18 := Aside0.mk A180
            clear A180
            replace H := Option.bind_eq_some_iff.mp H
            obtain ⟨t184, A190, H⟩ := H
            replace H : (if (wrap64 (t183)) = t184 then ((num_Sat_int32.f kj1 a0).bind fun t185 => ((spillwayref01_Sat.f 32 a0).bind fun t186 => (spillwaylaw01_NumNarrow.j1 kj1 a0 ((wrap64 (t185)) != t186)))) else (spillwaylaw01_NumNarrow.j1 kj1 a0 true)) = some r := H
            have A19 := Aside0.mk A190
            clear A190
            by_cases c20 : (wrap64 (t183)) = t184
            · rw [if_pos c20] at H
              have c20b0 : ((wrap64 (t183)) == t184) = true := beq_iff_eq.mpr c20
              have c20b1 : ((wrap64 (t183)) != t184) = false := bne_eq_false_iff_eq.mpr c20
              clear c20
              replace H := Option.bind_eq_some_iff.mp H
              obtain ⟨t185, A210, H⟩ := H
              replace H : ((spillwayref01_Sat.f 32 a0).bind fun t186 => (spillwaylaw01_NumNarrow.j1 kj1 a0 ((wrap64 (t185)) != t186))) = some r := H
              have A21 := Aside0.mk A210
              clear A210
              replace H := Option.bind_eq_some_iff.mp H
              obtain ⟨t186, A220, H⟩ := H
              replace H : (spillwaylaw01_NumNarrow.j1 kj1 a0 ((wrap64 (t185)) != t186)) = some r := H
              have A22 := Aside0.mk A220
              clear A220
              have H' := Aside0.mk H
              clear H
              go_wp2_with (first | ((with_reducible refine gate_callee (f := 31) rfl ?_); refine goesL_ (some 27) rfl rfl Try.func31 (by kernel_rfl) rfl #[.int .i64 a0] rfl (by (try simp only [List.map_toArray, List.map_cons, List.map_nil]); first | done | rfl | (simp only [List.length_drop, List.length_take]; rfl)) ?_; (with_reducible refine (num_Sat_int8.calls kj1 a0 t181 _ A15.out).mono ?_); rintro e w' ⟨rfl, ⟨nd, rfl⟩⟩; refine ⟨_, rfl, ?_⟩) | ((with_reducible refine gate_callee (f := 32) rfl ?_); refine goesL_ (some 30) rfl rfl Try.func32 (by kernel_rfl) rfl #[.int .i64 8, .int .i64 a0] rfl (by (try simp only [List.map_toArray, List.map_cons, List.map_nil]); first | done | rfl | (simp only [List.length_drop, List.length_take]; rfl)) ?_; (with_reducible refine (spillwayref01_Sat.calls 8 a0 t182 _ A16.out).mono ?_); rintro e w' ⟨rfl, ⟨nd, rfl⟩⟩; refine ⟨_, rfl, ?_⟩) | (go_at_call 33; (with_reducible refine (num_Sat_int16.calls kj1 a0 t183 _ A18.out).mono ?_); rintro e w' ⟨rfl, ⟨nd, rfl⟩⟩) | (go_at_call 32; (with_reducible refine (spillwayref01_Sat.calls 16 a0 t184 _ A19.out).mono ?_); rintro e w' ⟨rfl, ⟨nd, rfl⟩⟩) | (go_at_call 34; (with_reducible refine (num_Sat_int32.calls kj1 a0 t185 _ A21.out).mono ?_); rintro e w' ⟨rfl, ⟨nd, rfl⟩⟩) | (go_at_call 32; (with_reducible refine (spillwayref01_Sat.calls 32 a0 t186 _ A22.out).mono ?_); rintro e w' ⟨rfl, ⟨nd, rfl⟩⟩))
              go_meet
              case rel => exact ⟨_, (((wrap64 (t185)) != t186)), (by first | rfl | (simp; done) | (simp [*]; done)), H', ⟨by have := HJ1.out; first | omega | exact Nat.le_refl _⟩, by repeat (first | exact Drawn0.refl _ | apply Drawn0.step)⟩
            · rw [if_neg c20] at H
              have c20b0 : ((wrap64 (t183)) == t184) = false := beq_eq_false_iff_ne.mpr c20
              have c20b1 : ((wrap64 (t183)) != t184) = true := bne_iff_ne.mpr c20
              have H' := Aside0.mk H
              clear H
              go_wp2_with (first | ((with_reducible refine gate_callee (f := 31) rfl ?_); refine goesL_ (some 27) rfl rfl Try.func31 (by kernel_rfl) rfl #[.int .i64 a0] rfl (by (try simp only [List.map_toArray, List.map_cons, List.map_nil]); first | done | rfl | (simp only [List.length_drop, List.length_take]; rfl)) ?_; (with_reducible refine (num_Sat_int8.calls kj1 a0 t181 _ A15.out).mono ?_); rintro e w' ⟨rfl, ⟨nd, rfl⟩⟩; refine ⟨_, rfl, ?_⟩) | ((with_reducible refine gate_callee (f := 32) rfl ?_); refine goesL_ (some 30) rfl rfl Try.func32 (by kernel_rfl) rfl #[.int .i64 8, .int .i64 a0] rfl (by (try simp only [List.map_toArray, List.map_cons, List.map_nil]); first | done | rfl | (simp only [List.length_drop, List.length_take]; rfl)) ?_; (with_reducible refine (spillwayref01_Sat.calls 8 a0 t182 _ A16.out).mono ?_); rintro e w' ⟨rfl, ⟨nd, rfl⟩⟩; refine ⟨_, rfl, ?_⟩) | (go_at_call 33; (with_reducible refine (num_Sat_int16.calls kj1 a0 t183 _ A18.out).mono ?_); rintro e w' ⟨rfl, ⟨nd, rfl⟩⟩) | (go_at_call 32; (with_reducible refine (spillwayref01_Sat.calls 16 a0 t184 _ A19.out).mono ?_); rintro e w' ⟨rfl, ⟨nd, rfl⟩⟩))
              go_meet
              case rel => exact ⟨_, (true), (by first | rfl | (simp; done) | (simp [*]; done)), H', ⟨by have := HJ1.out; first | omega | exact Nat.le_refl _⟩, by repeat (first | exact Drawn0.refl _ | apply Drawn0.step)⟩
          · rw [if_neg c17] at H
            have c17b0 : ((wrap64 (t181)) == t182) = false := beq_eq_false_iff_ne.mpr c17
            have c17b1 : ((wrap64 (t181)) != t182) = true := bne_iff_ne.mpr c17
            (first | rw [c17b0] | (simp only [i64_w, i32_w]; rw [c17b0]) | skip)
            have H' := Aside0.mk H
            clear H
            go_wp2_with (first | ((with_reducible refine gate_callee (f := 31) rfl ?_); refine goesL_ (some 27) rfl rfl Try.func31 (by kernel_rfl) rfl #[.int .i64 a0] rfl (by (try simp only [List.map_toArray, List.map_cons, List.map_nil]); first | done | rfl | (simp only [List.length_drop, List.length_take]; rfl)) ?_; (with_reducible refine (num_Sat_int8.calls kj1 a0 t181 _ A15.out).mono ?_); rintro e w' ⟨rfl, ⟨nd, rfl⟩⟩; refine ⟨_, rfl, ?_⟩) | ((with_reducible refine gate_callee (f := 32) rfl ?_); refine goesL_ (some 30) rfl rfl Try.func32 (by kernel_rfl) rfl #[.int .i64 8, .int .i64 a0] rfl (by (try simp only [List.map_toArray, List.map_cons, List.map_nil]); first | done | rfl | (simp only [List.length_drop, List.length_take]; rfl)) ?_; (with_reducible refine (spillwayref01_Sat.calls 8 a0 t182 _ A16.out).mono ?_); rintro e w' ⟨rfl, ⟨nd, rfl⟩⟩; refine ⟨_, rfl, ?_⟩))
            go_meet
            case rel => exact ⟨_, (true), (by first | rfl | (simp; done) | (simp [*]; done)), H', ⟨by have := HJ1.out; first | omega | exact Nat.le_refl _⟩, by repeat (first | exact Drawn0.refl _ | apply Drawn0.step)⟩
        case rest =>
          clear HC14
          try clear c1
          try clear c2
          try clear p2
          try clear c3
          try clear c4
          try clear p6
          try clear c7
          try clear c7b0
          try clear c7b1
          try clear c7b2
          try clear c10
          try clear c10b0
          try clear c10b1
          try clear c10b2
          try clear c13
          try clear c17
          try clear c17b0
          try clear c17b1
          try clear c20
          try clear c20b0
          try clear c20b1
          try clear p2
          obtain ⟨kq, x47_13, rfl, HA, HJ13, ⟨mc13, rfl⟩⟩ := hcut
          cases kq with
          | zero => exact absurd HA.out (by simp [spillwaylaw01_NumNarrow.j1])
          | succ kj13 =>
            have H := HA.out
            clear HA
            simp only [spillwaylaw01_NumNarrow.j1] at H
            by_cases c23 : x47_13 = true
            · subst c23
              have H1 : (some false) = some r := by rw [if_pos rfl] at H; exact H
              clear H
              have H := H1
              clear H1
              exact absurd ((Option.some.inj H).trans HRT.out) Bool.false_ne_true
            · replace c23 := Bool.eq_false_iff.mpr c23
              subst c23
              have H1 : ((num_Wrap_int8.f a0).bind fun t187 => ((spillwayref01_Wrap.f 8 a0).bind fun t188 => (if (wrap64 (t187)) = t188 then ((num_Wrap_int16.f a0).bind fun t189 => ((spillwayref01_Wrap.f 16 a0).bind fun t190 => (if (wrap64 (t189)) = t190 then ((num_Wrap_int32.f a0).bind fun t191 => ((spillwayref01_Wrap.f 32 a0).bind fun t192 => (some ((wrap64 (t191)) == t192)))) else (some false)))) else (some false)))) = some r := by rw [if_neg (show ¬ (false = true) by decide)] at H; exact H
              clear H
              have H := H1
              clear H1
              replace H := Option.bind_eq_some_iff.mp H
              obtain ⟨t187, A240, H⟩ := H
              replace H : ((spillwayref01_Wrap.f 8 a0).bind fun t188 => (if (wrap64 (t187)) = t188 then ((num_Wrap_int16.f a0).bind fun t189 => ((spillwayref01_Wrap.f 16 a0).bind fun t190 => (if (wrap64 (t189)) = t190 then ((num_Wrap_int32.f a0).bind fun t191 => ((spillwayref01_Wrap.f 32 a0).bind fun t192 => (some ((wrap64 (t191)) == t192)))) else (some false)))) else (some false))) = some r := H
              have A24 := Aside0.mk A240
              clear A240
              replace H := Option.bind_eq_some_iff.mp H
              obtain ⟨t188, A250, H⟩ := H
              replace H : (if (wrap64 (t187)) = t188 then ((num_Wrap_int16.f a0).bind fun t189 => ((spillwayref01_Wrap.f 16 a0).bind fun t190 => (if (wrap64 (t189)) = t190 then ((num_Wrap_int32.f a0).bind fun t191 => ((spillwayref01_Wrap.f 32 a0).bind fun t192 => (some ((wrap64 (t191)) == t192)))) else (some false)))) else (some false)) = some r := H
              have A25 := Aside0.mk A250
              clear A250
              by_cases c26 : (wrap64 (t187)) = t188
              · rw [if_pos c26] at H
                have c26b0 : ((wrap64 (t187)) == t188) = true := beq_iff_eq.mpr c26
                have c26b1 : ((wrap64 (t187)) != t188) = false := bne_eq_false_iff_eq.mpr c26
                clear c26
                replace H := Option.bind_eq_some_iff.mp H
                obtain ⟨t189, A270, H⟩ := H
                replace H : ((spillwayref01_Wrap.f 16 a0).bind fun t190 => (if (wrap64 (t189)) = t190 then ((num_Wrap_int32.f a0).bind fun t191 => ((spillwayref01_Wrap.f 32 a0).bind fun t192 => (some ((wrap64 (t191)) == t192)))) else (some false))) = some r := H
                have A27 := Aside0.mk A270
                clear A270
                replace H := Option.bind_eq_some_iff.mp H
                obtain ⟨t190, A280, H⟩ := H
                replace H : (if (wrap64 (t189)) = t190 then ((num_Wrap_int32.f a0).bind fun t191 => ((spillwayref01_Wrap.f 32 a0).bind fun t192 => (some ((wrap64 (t191)) == t192)))) else (some false)) = some r := H
                have A28 := Aside0.mk A280
                clear A280
                by_cases c29 : (wrap64 (t189)) = t190
                · rw [if_pos c29] at H
                  have c29b0 : ((wrap64 (t189)) == t190) = true := beq_iff_eq.mpr c29
                  have c29b1 : ((wrap64 (t189)) != t190) = false := bne_eq_false_iff_eq.mpr c29
                  clear c29
                  replace H := Option.bind_eq_some_iff.mp H
                  obtain ⟨t191, A300, H⟩ := H
                  replace H : ((spillwayref01_Wrap.f 32 a0).bind fun t192 => (some ((wrap64 (t191)) == t192))) = some r := H
                  have A30 := Aside0.mk A300
                  clear A300
                  replace H := Option.bind_eq_some_iff.mp H
                  obtain ⟨t192, A310, H⟩ := H
                  replace H : (some ((wrap64 (t191)) == t192)) = some r := H
                  have A31 := Aside0.mk A310
                  clear A310
                  obtain rfl := Option.some.inj H
                  go_wp2_with (first | ((with_reducible refine gate_callee (f := 35) rfl ?_); refine goesL_ (some 49) rfl rfl Try.func35 (by kernel_rfl) rfl #[.int .i64 a0] rfl (by (try simp only [List.map_toArray, List.map_cons, List.map_nil]); first | done | rfl | (simp only [List.length_drop, List.length_take]; rfl)) ?_; (with_reducible refine (num_Wrap_int8.calls a0 t187 _ A24.out).mono ?_); rintro e w' ⟨rfl, ⟨nd, rfl⟩⟩; refine ⟨_, rfl, ?_⟩) | ((with_reducible refine gate_callee (f := 36) rfl ?_); refine goesL_ (some 52) rfl rfl Try.func36 (by kernel_rfl) rfl #[.int .i64 8, .int .i64 a0] rfl (by (try simp only [List.map_toArray, List.map_cons, List.map_nil]); first | done | rfl | (simp only [List.length_drop, List.length_take]; rfl)) ?_; (with_reducible refine (spillwayref01_Wrap.calls 8 a0 t188 _ A25.out).mono ?_); rintro e w' ⟨rfl, ⟨nd, rfl⟩⟩; refine ⟨_, rfl, ?_⟩) | (go_at_call 37; (with_reducible refine (num_Wrap_int16.calls a0 t189 _ A27.out).mono ?_); rintro e w' ⟨rfl, ⟨nd, rfl⟩⟩) | (go_at_call 36; (with_reducible refine (spillwayref01_Wrap.calls 16 a0 t190 _ A28.out).mono ?_); rintro e w' ⟨rfl, ⟨nd, rfl⟩⟩) | (go_at_call 38; (with_reducible refine (num_Wrap_int32.calls a0 t191 _ A30.out).mono ?_); rintro e w' ⟨rfl, ⟨nd, rfl⟩⟩) | (go_at_call 36; (with_reducible refine (spillwayref01_Wrap.calls 32 a0 t192 _ A31.out).mono ?_); rintro e w' ⟨rfl, ⟨nd, rfl⟩⟩))
                  go_ret
                  exact ⟨by first | rfl | (simp; done) | (simp [*]; done), by repeat (first | exact Drawn0.refl _ | apply Drawn0.step)⟩
                · rw [if_neg c29] at H
                  have c29b0 : ((wrap64 (t189)) == t190) = false := beq_eq_false_iff_ne.mpr c29
                  have c29b1 : ((wrap64 (t189)) != t190) = true := bne_iff_ne.mpr c29
                  exact absurd ((Option.some.inj H).trans HRT.out) Bool.false_ne_true
              · rw [if_neg c26] at H
                have c26b0 : ((wrap64 (t187)) == t188) = false := beq_eq_false_iff_ne.mpr c26
                have c26b1 : ((wrap64 (t187)) != t188) = true := bne_iff_ne.mpr c26
                exact absurd ((Option.some.inj H).trans HRT.out) Bool.false_ne_true

end Go.Proofs.Ytfccnnlbiniahaa.Q
