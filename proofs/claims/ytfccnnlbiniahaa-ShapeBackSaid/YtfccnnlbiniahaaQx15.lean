-- PRINTED by print.py (a twelfth state) out of the translation. Not trusted: Lean checks it.
import Derived.Test.YtfccnnlbiniahaaQx0
import Derived.Test.YtfccnnlbiniahaaQx7
import Derived.Test.YtfccnnlbiniahaaQx8
import Derived.Test.YtfccnnlbiniahaaQx9
import Derived.Test.YtfccnnlbiniahaaQx14
namespace Go.Proofs.Ytfccnnlbiniahaa.Q
open Go.RowKit Go.Proofs.YtfccnnlbiniahaaW.PrintWords Go.Proofs.YtfccnnlbiniahaaW.PrintLast Go.Proofs.YtfccnnlbiniahaaW.PrintMore
attribute [local go_sem] max2_int min2_int max_two min_two max_three min_three max_four min_four   -- for this text's walks alone
set_option linter.unusedVariables false
set_option linter.unusedSimpArgs false

/-! ### spillwaylaw01_NumOwn: function 9 -/
def spillwaylaw01_NumOwn.f (k : Nat) (a0 : Int) : Option (Bool) := (spillwaylaw01_fixed.f k).bind fun t197 => (if t197 = true then ((spillwaylaw01_word_41.f a0).bind fun t198 => ((num_Fits_int16.f a0).bind fun t199 => (if (t198 == t199) = true then ((spillwaylaw01_word_42.f k a0).bind fun t200 => ((num_Sat_int16.f k a0).bind fun t201 => (if (wrap64 (t200)) = (wrap64 (t201)) then ((spillwaylaw01_word_43.f a0).bind fun t202 => ((num_Wrap_int16.f a0).bind fun t203 => (some ((wrap64 (t202)) == (wrap64 (t203)))))) else (some false)))) else (some false)))) else (some false))
theorem spillwaylaw01_NumOwn.mono : ∀ a0 k, LeO (spillwaylaw01_NumOwn.f k a0) (spillwaylaw01_NumOwn.f (k + 1) a0) := by
  intro a0 k
  unfold spillwaylaw01_NumOwn.f
  repeat' first
      | (with_reducible exact num_Sat_int16.mono _ _)
      | (with_reducible exact spillwaylaw01_fixed.mono _)
      | (with_reducible exact spillwaylaw01_word_42.mono _ _)
      | (with_reducible exact LeO.refl _)
      | (with_reducible exact LeO.none _)
      | (with_reducible refine LeO.ite ?_ ?_)
      | (with_reducible refine LeO.bind ?_ (fun _ => ?_))
      | exact num_Sat_int16.mono _ _
      | exact spillwaylaw01_fixed.mono _
      | exact spillwaylaw01_word_42.mono _ _
      | exact LeO.none _
      | refine LeO.ite ?_ ?_
      | refine LeO.bind ?_ (fun _ => ?_)
set_option maxHeartbeats 8000000 in
set_option maxRecDepth 100000 in
theorem spillwaylaw01_NumOwn.calls (k : Nat) (a0 : Int) (r : Bool) (w : World) (hrt : r = true) (h : spillwaylaw01_NumOwn.f k a0 = some r) :
    Calls Try.prog 9 #[.int .i64 a0] w fun e w' => e = .returned (.bool r) ∧ Drawn0 w w' := by
  have H : ((spillwaylaw01_fixed.f k).bind fun t197 => (if t197 = true then ((spillwaylaw01_word_41.f a0).bind fun t198 => ((num_Fits_int16.f a0).bind fun t199 => (if (t198 == t199) = true then ((spillwaylaw01_word_42.f k a0).bind fun t200 => ((num_Sat_int16.f k a0).bind fun t201 => (if (wrap64 (t200)) = (wrap64 (t201)) then ((spillwaylaw01_word_43.f a0).bind fun t202 => ((num_Wrap_int16.f a0).bind fun t203 => (some ((wrap64 (t202)) == (wrap64 (t203)))))) else (some false)))) else (some false)))) else (some false))) = some r := h
  clear h
  have HRT := Aside0.mk hrt
  clear hrt
  replace H := Option.bind_eq_some_iff.mp H
  obtain ⟨t197, A20, H⟩ := H
  replace H : (if t197 = true then ((spillwaylaw01_word_41.f a0).bind fun t198 => ((num_Fits_int16.f a0).bind fun t199 => (if (t198 == t199) = true then ((spillwaylaw01_word_42.f k a0).bind fun t200 => ((num_Sat_int16.f k a0).bind fun t201 => (if (wrap64 (t200)) = (wrap64 (t201)) then ((spillwaylaw01_word_43.f a0).bind fun t202 => ((num_Wrap_int16.f a0).bind fun t203 => (some ((wrap64 (t202)) == (wrap64 (t203)))))) else (some false)))) else (some false)))) else (some false)) = some r := H
  have A2 := Aside0.mk A20
  clear A20
  by_cases c3 : t197 = true
  · subst c3
    have H1 : ((spillwaylaw01_word_41.f a0).bind fun t198 => ((num_Fits_int16.f a0).bind fun t199 => (if (t198 == t199) = true then ((spillwaylaw01_word_42.f k a0).bind fun t200 => ((num_Sat_int16.f k a0).bind fun t201 => (if (wrap64 (t200)) = (wrap64 (t201)) then ((spillwaylaw01_word_43.f a0).bind fun t202 => ((num_Wrap_int16.f a0).bind fun t203 => (some ((wrap64 (t202)) == (wrap64 (t203)))))) else (some false)))) else (some false)))) = some r := by rw [if_pos rfl] at H; exact H
    clear H
    have H := H1
    clear H1
    replace H := Option.bind_eq_some_iff.mp H
    obtain ⟨t198, A40, H⟩ := H
    replace H : ((num_Fits_int16.f a0).bind fun t199 => (if (t198 == t199) = true then ((spillwaylaw01_word_42.f k a0).bind fun t200 => ((num_Sat_int16.f k a0).bind fun t201 => (if (wrap64 (t200)) = (wrap64 (t201)) then ((spillwaylaw01_word_43.f a0).bind fun t202 => ((num_Wrap_int16.f a0).bind fun t203 => (some ((wrap64 (t202)) == (wrap64 (t203)))))) else (some false)))) else (some false))) = some r := H
    have A4 := Aside0.mk A40
    clear A40
    replace H := Option.bind_eq_some_iff.mp H
    obtain ⟨t199, A50, H⟩ := H
    replace H : (if (t198 == t199) = true then ((spillwaylaw01_word_42.f k a0).bind fun t200 => ((num_Sat_int16.f k a0).bind fun t201 => (if (wrap64 (t200)) = (wrap64 (t201)) then ((spillwaylaw01_word_43.f a0).bind fun t202 => ((num_Wrap_int16.f a0).bind fun t203 => (some ((wrap64 (t202)) == (wrap64 (t203)))))) else (some false)))) else (some false)) = some r := H
    have A5 := Aside0.mk A50
    clear A50
    by_cases c6 : (t198 == t199) = true
    · rw [if_pos c6] at H
      have c6b0 : (t198 == t199) = true := c6
      (try (have c6b1 : decide (t198 = t199) = true := by simpa using c6))
      (try (have c6b2 : (t198 == t199) = true := by simpa using c6))
      clear c6
      replace H := Option.bind_eq_some_iff.mp H
      obtain ⟨t200, A70, H⟩ := H
      replace H : ((num_Sat_int16.f k a0).bind fun t201 => (if (wrap64 (t200)) = (wrap64 (t201)) then ((spillwaylaw01_word_43.f a0).bind fun t202 => ((num_Wrap_int16.f a0).bind fun t203 => (some ((wrap64 (t202)) == (wrap64 (t203)))))) else (some false))) = some r := H
      have A7 := Aside0.mk A70
      clear A70
      replace H := Option.bind_eq_some_iff.mp H
      obtain ⟨t201, A80, H⟩ := H
      replace H : (if (wrap64 (t200)) = (wrap64 (t201)) then ((spillwaylaw01_word_43.f a0).bind fun t202 => ((num_Wrap_int16.f a0).bind fun t203 => (some ((wrap64 (t202)) == (wrap64 (t203)))))) else (some false)) = some r := H
      have A8 := Aside0.mk A80
      clear A80
      by_cases c9 : (wrap64 (t200)) = (wrap64 (t201))
      · rw [if_pos c9] at H
        have c9b0 : ((wrap64 (t200)) == (wrap64 (t201))) = true := beq_iff_eq.mpr c9
        have c9b1 : ((wrap64 (t200)) != (wrap64 (t201))) = false := bne_eq_false_iff_eq.mpr c9
        clear c9
        replace H := Option.bind_eq_some_iff.mp H
        obtain ⟨t202, A100, H⟩ := H
        replace H : ((num_Wrap_int16.f a0).bind fun t203 => (some ((wrap64 (t202)) == (wrap64 (t203))))) = some r := H
        have A10 := Aside0.mk A100
        clear A100
        replace H := Option.bind_eq_some_iff.mp H
        obtain ⟨t203, A110, H⟩ := H
        replace H : (some ((wrap64 (t202)) == (wrap64 (t203)))) = some r := H
        have A11 := Aside0.mk A110
        clear A110
        obtain rfl := Option.some.inj H
        go_enter Try.func9, Try.ntmps9
        go_wp2_with (first | ((with_reducible refine gate_callee (f := 24) rfl ?_); refine goesL_ (some 3) rfl rfl Try.func24 (by kernel_rfl) rfl #[] rfl (by (try simp only [List.map_toArray, List.map_cons, List.map_nil]); first | done | rfl | (simp only [List.length_drop, List.length_take]; rfl)) ?_; (with_reducible refine (spillwaylaw01_fixed.calls k  true _ A2.out).mono ?_); rintro e w' ⟨rfl, ⟨nd, rfl⟩⟩; refine ⟨_, rfl, ?_⟩) | (go_at_call 41; (with_reducible refine (spillwaylaw01_word_41.calls a0 t198 _ A4.out).mono ?_); rintro e w' ⟨rfl, ⟨nd, rfl⟩⟩) | (go_at_call 29; (with_reducible refine (num_Fits_int16.calls a0 t199 _ A5.out).mono ?_); rintro e w' ⟨rfl, ⟨nd, rfl⟩⟩) | (go_at_call 42; (with_reducible refine (spillwaylaw01_word_42.calls k a0 t200 _ A7.out).mono ?_); rintro e w' ⟨rfl, ⟨nd, rfl⟩⟩) | (go_at_call 33; (with_reducible refine (num_Sat_int16.calls k a0 t201 _ A8.out).mono ?_); rintro e w' ⟨rfl, ⟨nd, rfl⟩⟩) | (go_at_call 43; (with_reducible refine (spillwaylaw01_word_43.calls a0 t202 _ A10.out).mono ?_); rintro e w' ⟨rfl, ⟨nd, rfl⟩⟩) | (go_at_call 37; (with_reducible refine (num_Wrap_int16.calls a0 t203 _ A11.out).mono ?_); rintro e w' ⟨rfl, ⟨nd, rfl⟩⟩))
        go_ret
        exact ⟨by first | rfl | (simp; done) | (simp [*]; done), by repeat (first | exact Drawn0.refl _ | apply Drawn0.step)⟩
      · rw [if_neg c9] at H
        have c9b0 : ((wrap64 (t200)) == (wrap64 (t201))) = false := beq_eq_false_iff_ne.mpr c9
        have c9b1 : ((wrap64 (t200)) != (wrap64 (t201))) = true := bne_iff_ne.mpr c9
        exact absurd ((Option.some.inj H).trans HRT.out) Bool.false_ne_true
    · rw [if_neg c6] at H
      have c6b0 : (t198 == t199) = false := by simpa using c6
      (try (have c6b1 : decide (t198 = t199) = false := by simpa using c6))
      (try (have c6b2 : (t198 == t199) = false := by simpa using c6))
      (try (have c6b3 : ¬ (t198 = t199) := by simpa using c6))
      clear c6
      exact absurd ((Option.some.inj H).trans HRT.out) Bool.false_ne_true
  · replace c3 := Bool.eq_false_iff.mpr c3
    subst c3
    have H1 : (some false) = some r := by rw [if_neg (show ¬ (false = true) by decide)] at H; exact H
    clear H
    have H := H1
    clear H1
    exact absurd ((Option.some.inj H).trans HRT.out) Bool.false_ne_true

end Go.Proofs.Ytfccnnlbiniahaa.Q
