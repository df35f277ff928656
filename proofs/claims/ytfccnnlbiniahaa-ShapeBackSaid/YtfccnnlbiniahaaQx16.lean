-- PRINTED by print.py (a twelfth state) out of the translation. Not trusted: Lean checks it.
import Derived.Test.YtfccnnlbiniahaaQx0
import Derived.Test.YtfccnnlbiniahaaQx7
import Derived.Test.YtfccnnlbiniahaaQx8
import Derived.Test.YtfccnnlbiniahaaQx9
import Derived.Test.YtfccnnlbiniahaaQx12
namespace Go.Proofs.Ytfccnnlbiniahaa.Q
open Go.RowKit Go.Proofs.YtfccnnlbiniahaaW.PrintWords Go.Proofs.YtfccnnlbiniahaaW.PrintLast Go.Proofs.YtfccnnlbiniahaaW.PrintMore
attribute [local go_sem] max2_int min2_int max_two min_two max_three min_three max_four min_four   -- for this text's walks alone
set_option linter.unusedVariables false
set_option linter.unusedSimpArgs false

/-! ### spillwaylaw01_NumModulo: function 10 -/
def spillwaylaw01_NumModulo.j0 : Nat → Int → Int → Bool → Option (Bool)
  | 0, _, _, _ => none
  | k + 1, x0, x1, x30 => if x30 = true then (some false) else ((num_Add.f x0 x1).bind fun bt208 => (if bt208.2 = 0 then ((num_Wrap_int16.f x0).bind fun t210 => ((num_Wrap_int16.f x1).bind fun t211 => ((num_Wrap_int32.f x0).bind fun t212 => ((num_Wrap_int32.f x1).bind fun t213 => ((num_Wrap_int8.f x0).bind fun t214 => ((num_Wrap_int8.f x1).bind fun t215 => ((num_Wrap_int16.f (wrap64 ((wrap64 (t210)) + (wrap64 (t211))))).bind fun t216 => ((num_Wrap_int16.f bt208.1).bind fun t217 => (if t216 = t217 then ((num_Wrap_int32.f (wrap64 ((wrap64 (t212)) + (wrap64 (t213))))).bind fun t218 => ((num_Wrap_int32.f bt208.1).bind fun t219 => (if t218 = t219 then ((num_Wrap_int8.f (wrap64 ((wrap64 (t214)) + (wrap64 (t215))))).bind fun t220 => ((num_Wrap_int8.f bt208.1).bind fun t221 => (some (t220 == t221)))) else (some false)))) else (some false)))))))))) else (some true)))
def spillwaylaw01_NumModulo.f (k : Nat) (a0 : Int) (a1 : Int) : Option (Bool) := (spillwaylaw01_fixed.f k).bind fun t204 => (if t204 = true then ((num_Fits_int16.f a0).bind fun t205 => ((num_Sat_int16.f k a0).bind fun t206 => (if (((wrap64 (t206)) == a0) != t205) = true then (spillwaylaw01_NumModulo.j0 k a0 a1 true) else ((num_Wrap_int16.f a0).bind fun t207 => (spillwaylaw01_NumModulo.j0 k a0 a1 (((wrap64 (t207)) == a0) != t205)))))) else (some false))
theorem spillwaylaw01_NumModulo.mono_l : ∀ k, (∀ y0 y1 y2, LeO (spillwaylaw01_NumModulo.j0 k y0 y1 y2) (spillwaylaw01_NumModulo.j0 (k + 1) y0 y1 y2))
  | 0 => fun _ _ _ r h => by simp [spillwaylaw01_NumModulo.j0] at h
  | k + 1 => by
    have ih0 := spillwaylaw01_NumModulo.mono_l k
    · intro y0 y1 y2
      unfold spillwaylaw01_NumModulo.j0
      repeat' first
      | (with_reducible exact ih0 _ _ _)
      | (with_reducible exact num_Sat_int16.mono _ _)
      | (with_reducible exact spillwaylaw01_fixed.mono _)
      | (with_reducible exact LeO.refl _)
      | (with_reducible exact LeO.none _)
      | (with_reducible refine LeO.ite ?_ ?_)
      | (with_reducible refine LeO.bind ?_ (fun _ => ?_))
      | exact ih0 _ _ _
      | exact num_Sat_int16.mono _ _
      | exact spillwaylaw01_fixed.mono _
      | exact LeO.none _
      | refine LeO.ite ?_ ?_
      | refine LeO.bind ?_ (fun _ => ?_)
theorem spillwaylaw01_NumModulo.mono : ∀ a0 a1 k, LeO (spillwaylaw01_NumModulo.f k a0 a1) (spillwaylaw01_NumModulo.f (k + 1) a0 a1) := by
  intro a0 a1 k
  have ih0 := spillwaylaw01_NumModulo.mono_l k
  unfold spillwaylaw01_NumModulo.f
  repeat' first
      | (with_reducible exact ih0 _ _ _)
      | (with_reducible exact num_Sat_int16.mono _ _)
      | (with_reducible exact spillwaylaw01_fixed.mono _)
      | (with_reducible exact LeO.refl _)
      | (with_reducible exact LeO.none _)
      | (with_reducible refine LeO.ite ?_ ?_)
      | (with_reducible refine LeO.bind ?_ (fun _ => ?_))
      | exact ih0 _ _ _
      | exact num_Sat_int16.mono _ _
      | exact spillwaylaw01_fixed.mono _
      | exact LeO.none _
      | refine LeO.ite ?_ ?_
      | refine LeO.bind ?_ (fun _ => ?_)
set_option maxHeartbeats 8000000 in
set_option maxRecDepth 100000 in
theorem spillwaylaw01_NumModulo.calls (k : Nat) (a0 : Int) (a1 : Int) (r : Bool) (w : World) (hrt : r = true) (h : spillwaylaw01_NumModulo.f k a0 a1 = some r) :
    Calls Try.prog 10 #[.int .i64 a0, .int .i64 a1] w fun e w' => e = .returned (.bool r) ∧ Drawn0 w w' := by
  have H : ((spillwaylaw01_fixed.f k).bind fun t204 => (if t204 = true then ((num_Fits_int16.f a0).bind fun t205 => ((num_Sat_int16.f k a0).bind fun t206 => (if (((wrap64 (t206)) == a0) != t205) = true then (spillwaylaw01_NumModulo.j0 k a0 a1 true) else ((num_Wrap_int16.f a0).bind fun t207 => (spillwaylaw01_NumModulo.j0 k a0 a1 (((wrap64 (t207)) == a0) != t205)))))) else (some false))) = some r := h
  clear h
  have HRT := Aside0.mk hrt
  clear hrt
  replace H := Option.bind_eq_some_iff.mp H
  obtain ⟨t204, A30, H⟩ := H
  replace H : (if t204 = true then ((num_Fits_int16.f a0).bind fun t205 => ((num_Sat_int16.f k a0).bind fun t206 => (if (((wrap64 (t206)) == a0) != t205) = true then (spillwaylaw01_NumModulo.j0 k a0 a1 true) else ((num_Wrap_int16.f a0).bind fun t207 => (spillwaylaw01_NumModulo.j0 k a0 a1 (((wrap64 (t207)) == a0) != t205)))))) else (some false)) = some r := H
  have A3 := Aside0.mk A30
  clear A30
  by_cases c4 : t204 = true
  · subst c4
    have H1 : ((num_Fits_int16.f a0).bind fun t205 => ((num_Sat_int16.f k a0).bind fun t206 => (if (((wrap64 (t206)) == a0) != t205) = true then (spillwaylaw01_NumModulo.j0 k a0 a1 true) else ((num_Wrap_int16.f a0).bind fun t207 => (spillwaylaw01_NumModulo.j0 k a0 a1 (((wrap64 (t207)) == a0) != t205)))))) = some r := by rw [if_pos rfl] at H; exact H
    clear H
    have H := H1
    clear H1
    replace H := Option.bind_eq_some_iff.mp H
    obtain ⟨t205, A50, H⟩ := H
    replace H : ((num_Sat_int16.f k a0).bind fun t206 => (if (((wrap64 (t206)) == a0) != t205) = true then (spillwaylaw01_NumModulo.j0 k a0 a1 true) else ((num_Wrap_int16.f a0).bind fun t207 => (spillwaylaw01_NumModulo.j0 k a0 a1 (((wrap64 (t207)) == a0) != t205))))) = some r := H
    have A5 := Aside0.mk A50
    clear A50
    have HC6 := Aside0.mk H
    clear H
    go_enter Try.func10, Try.ntmps10
    go_upto_region 4 with (first | ((with_reducible refine gate_callee (f := 24) rfl ?_); refine goesL_ (some 11) rfl rfl Try.func24 (by kernel_rfl) rfl #[] rfl (by (try simp only [List.map_toArray, List.map_cons, List.map_nil]); first | done | rfl | (simp only [List.length_drop, List.length_take]; rfl)) ?_; (with_reducible refine (spillwaylaw01_fixed.calls k  true _ A3.out).mono ?_); rintro e w' ⟨rfl, ⟨nd, rfl⟩⟩; refine ⟨_, rfl, ?_⟩) | ((with_reducible refine gate_callee (f := 29) rfl ?_); refine goesL_ (some 14) rfl rfl Try.func29 (by kernel_rfl) rfl #[.int .i64 a0] rfl (by (try simp only [List.map_toArray, List.map_cons, List.map_nil]); first | done | rfl | (simp only [List.length_drop, List.length_take]; rfl)) ?_; (with_reducible refine (num_Fits_int16.calls a0 t205 _ A5.out).mono ?_); rintro e w' ⟨rfl, ⟨nd, rfl⟩⟩; refine ⟨_, rfl, ?_⟩))
    (try simp only [Act.put, List.setIfInBounds_toArray, List.set_cons_zero, List.set_cons_succ])
    go_cut [30] (fun v30 wc => ∃ (kq : Nat) (x30_5 : Bool), v30 = .bool x30_5 ∧ Aside0 (spillwaylaw01_NumModulo.j0 kq a0 a1 x30_5 = some r) ∧ Aside0 (kq ≤ k) ∧ Drawn0 w wc)
    case first =>
      have H := HC6.out
      clear HC6
      replace H := Option.bind_eq_some_iff.mp H
      obtain ⟨t206, A70, H⟩ := H
      replace H : (if (((wrap64 (t206)) == a0) != t205) = true then (spillwaylaw01_NumModulo.j0 k a0 a1 true) else ((num_Wrap_int16.f a0).bind fun t207 => (spillwaylaw01_NumModulo.j0 k a0 a1 (((wrap64 (t207)) == a0) != t205)))) = some r := H
      have A7 := Aside0.mk A70
      clear A70
      by_cases c8 : (((wrap64 (t206)) == a0) != t205) = true
      · rw [if_pos c8] at H
        have c8b0 : (((wrap64 (t206)) == a0) != t205) = true := c8
        (try (have c8b1 : decide (((wrap64 (t206)) == a0) = t205) = false := by simpa using c8))
        (try (have c8b2 : (((wrap64 (t206)) == a0) == t205) = false := by simpa using c8))
        (try (have c8b3 : ¬ (((wrap64 (t206)) == a0) = t205) := by simpa using c8))
        clear c8
        (first | rw [c8b0] | (simp only [i64_w, i32_w]; rw [c8b0]) | skip)
        have H' := Aside0.mk H
        clear H
        go_wp2_with (first | ((with_reducible refine gate_callee (f := 33) rfl ?_); refine goesL_ (some 16) rfl rfl Try.func33 (by kernel_rfl) rfl #[.int .i64 a0] rfl (by (try simp only [List.map_toArray, List.map_cons, List.map_nil]); first | done | rfl | (simp only [List.length_drop, List.length_take]; rfl)) ?_; (with_reducible refine (num_Sat_int16.calls k a0 t206 _ A7.out).mono ?_); rintro e w' ⟨rfl, ⟨nd, rfl⟩⟩; refine ⟨_, rfl, ?_⟩))
        go_meet
        case rel => exact ⟨_, (true), (by first | rfl | (simp; done) | (simp [*]; done)), H', ⟨by first | omega | exact Nat.le_refl _⟩, by repeat (first | exact Drawn0.refl _ | apply Drawn0.step)⟩
      · rw [if_neg c8] at H
        have c8b0 : (((wrap64 (t206)) == a0) != t205) = false := by simpa using c8
        (try (have c8b1 : decide (((wrap64 (t206)) == a0) = t205) = true := by simpa using c8))
        (try (have c8b2 : (((wrap64 (t206)) == a0) == t205) = true := by simpa using c8))
        clear c8
        (first | rw [c8b0] | (simp only [i64_w, i32_w]; rw [c8b0]) | skip)
        replace H := Option.bind_eq_some_iff.mp H
        obtain ⟨t207, A90, H⟩ := H
        replace H : (spillwaylaw01_NumModulo.j0 k a0 a1 (((wrap64 (t207)) == a0) != t205)) = some r := H
        have A9 := Aside0.mk A90
        clear A90
        have H' := Aside0.mk H
        clear H
        go_wp2_with (first | ((with_reducible refine gate_callee (f := 33) rfl ?_); refine goesL_ (some 16) rfl rfl Try.func33 (by kernel_rfl) rfl #[.int .i64 a0] rfl (by (try simp only [List.map_toArray, List.map_cons, List.map_nil]); first | done | rfl | (simp only [List.length_drop, List.length_take]; rfl)) ?_; (with_reducible refine (num_Sat_int16.calls k a0 t206 _ A7.out).mono ?_); rintro e w' ⟨rfl, ⟨nd, rfl⟩⟩; refine ⟨_, rfl, ?_⟩) | (go_at_call 37; (with_reducible refine (num_Wrap_int16.calls a0 t207 _ A9.out).mono ?_); rintro e w' ⟨rfl, ⟨nd, rfl⟩⟩))
        go_meet
        case rel => exact ⟨_, ((((wrap64 (t207)) == a0) != t205)), (by first | rfl | (simp; done) | (simp [*]; done)), H', ⟨by first | omega | exact Nat.le_refl _⟩, by repeat (first | exact Drawn0.refl _ | apply Drawn0.step)⟩
    case rest =>
      clear HC6
      try clear c1
      try clear c2
      try clear p2
      try clear c3
      try clear c4
      try clear p6
      try clear c8
      try clear c8b0
      try clear c8b1
      try clear c8b2
      obtain ⟨kq, x30_5, rfl, HA, HJ5, ⟨mc5, rfl⟩⟩ := hcut
      cases kq with
      | zero => exact absurd HA.out (by simp [spillwaylaw01_NumModulo.j0])
      | succ kj5 =>
        have H := HA.out
        clear HA
        simp only [spillwaylaw01_NumModulo.j0] at H
        by_cases c10 : x30_5 = true
        · subst c10
          have H1 : (some false) = some r := by rw [if_pos rfl] at H; exact H
          clear H
          have H := H1
          clear H1
          exact absurd ((Option.some.inj H).trans HRT.out) Bool.false_ne_true
        · replace c10 := Bool.eq_false_iff.mpr c10
          subst c10
          have H1 : ((num_Add.f a0 a1).bind fun bt208 => (if bt208.2 = 0 then ((num_Wrap_int16.f a0).bind fun t210 => ((num_Wrap_int16.f a1).bind fun t211 => ((num_Wrap_int32.f a0).bind fun t212 => ((num_Wrap_int32.f a1).bind fun t213 => ((num_Wrap_int8.f a0).bind fun t214 => ((num_Wrap_int8.f a1).bind fun t215 => ((num_Wrap_int16.f (wrap64 ((wrap64 (t210)) + (wrap64 (t211))))).bind fun t216 => ((num_Wrap_int16.f bt208.1).bind fun t217 => (if t216 = t217 then ((num_Wrap_int32.f (wrap64 ((wrap64 (t212)) + (wrap64 (t213))))).bind fun t218 => ((num_Wrap_int32.f bt208.1).bind fun t219 => (if t218 = t219 then ((num_Wrap_int8.f (wrap64 ((wrap64 (t214)) + (wrap64 (t215))))).bind fun t220 => ((num_Wrap_int8.f bt208.1).bind fun t221 => (some (t220 == t221)))) else (some false)))) else (some false)))))))))) else (some true))) = some r := by rw [if_neg (show ¬ (false = true) by decide)] at H; exact H
          clear H
          have H := H1
          clear H1
          replace H := Option.bind_eq_some_iff.mp H
          obtain ⟨⟨t208, t209⟩, A110, H⟩ := H
          replace H : (if t209 = 0 then ((num_Wrap_int16.f a0).bind fun t210 => ((num_Wrap_int16.f a1).bind fun t211 => ((num_Wrap_int32.f a0).bind fun t212 => ((num_Wrap_int32.f a1).bind fun t213 => ((num_Wrap_int8.f a0).bind fun t214 => ((num_Wrap_int8.f a1).bind fun t215 => ((num_Wrap_int16.f (wrap64 ((wrap64 (t210)) + (wrap64 (t211))))).bind fun t216 => ((num_Wrap_int16.f t208).bind fun t217 => (if t216 = t217 then ((num_Wrap_int32.f (wrap64 ((wrap64 (t212)) + (wrap64 (t213))))).bind fun t218 => ((num_Wrap_int32.f t208).bind fun t219 => (if t218 = t219 then ((num_Wrap_int8.f (wrap64 ((wrap64 (t214)) + (wrap64 (t215))))).bind fun t220 => ((num_Wrap_int8.f t208).bind fun t221 => (some (t220 == t221)))) else (some false)))) else (some false)))))))))) else (some true)) = some r := H
          have A11 := Aside0.mk A110
          clear A110
          by_cases c12 : t209 = 0
          · rw [if_pos c12] at H
            have c12b0 : (t209 == 0) = true := beq_iff_eq.mpr c12
            have c12b1 : (t209 != 0) = false := bne_eq_false_iff_eq.mpr c12
            clear c12
            replace H := Option.bind_eq_some_iff.mp H
            obtain ⟨t210, A130, H⟩ := H
            replace H : ((num_Wrap_int16.f a1).bind fun t211 => ((num_Wrap_int32.f a0).bind fun t212 => ((num_Wrap_int32.f a1).bind fun t213 => ((num_Wrap_int8.f a0).bind fun t214 => ((num_Wrap_int8.f a1).bind fun t215 => ((num_Wrap_int16.f (wrap64 ((wrap64 (t210)) + (wrap64 (t211))))).bind fun t216 => ((num_Wrap_int16.f t208).bind fun t217 => (if t216 = t217 then ((num_Wrap_int32.f (wrap64 ((wrap64 (t212)) + (wrap64 (t213))))).bind fun t218 => ((num_Wrap_int32.f t208).bind fun t219 => (if t218 = t219 then ((num_Wrap_int8.f (wrap64 ((wrap64 (t214)) + (wrap64 (t215))))).bind fun t220 => ((num_Wrap_int8.f t208).bind fun t221 => (some (t220 == t221)))) else (some false)))) else (some false))))))))) = some r := H
            have A13 := Aside0.mk A130
            clear A130
            replace H := Option.bind_eq_some_iff.mp H
            obtain ⟨t211, A140, H⟩ := H
            replace H : ((num_Wrap_int32.f a0).bind fun t212 => ((num_Wrap_int32.f a1).bind fun t213 => ((num_Wrap_int8.f a0).bind fun t214 => ((num_Wrap_int8.f a1).bind fun t215 => ((num_Wrap_int16.f (wrap64 ((wrap64 (t210)) + (wrap64 (t211))))).bind fun t216 => ((num_Wrap_int16.f t208).bind fun t217 => (if t216 = t217 then ((num_Wrap_int32.f (wrap64 ((wrap64 (t212)) + (wrap64 (t213))))).bind fun t218 => ((num_Wrap_int32.f t208).bind fun t219 => (if t218 = t219 then ((num_Wrap_int8.f (wrap64 ((wrap64 (t214)) + (wrap64 (t215))))).bind fun t220 => ((num_Wrap_int8.f t208).bind fun t221 => (some (t220 == t221)))) else (some false)))) else (some false)))))))) = some r := H
            have A14 := Aside0.mk A140
            clear A140
            replace H := Option.bind_eq_some_iff.mp H
            obtain ⟨t212, A150, H⟩ := H
            replace H : ((num_Wrap_int32.f a1).bind fun t213 => ((num_Wrap_int8.f a0).bind fun t214 => ((num_Wrap_int8.f a1).bind fun t215 => ((num_Wrap_int16.f (wrap64 ((wrap64 (t210)) + (wrap64 (t211))))).bind fun t216 => ((num_Wrap_int16.f t208).bind fun t217 => (if t216 = t217 then ((num_Wrap_int32.f (wrap64 ((wrap64 (t212)) + (wrap64 (t213))))).bind fun t218 => ((num_Wrap_int32.f t208).bind fun t219 => (if t218 = t219 then ((num_Wrap_int8.f (wrap64 ((wrap64 (t214)) + (wrap64 (t215))))).bind fun t220 => ((num_Wrap_int8.f t208).bind fun t221 => (some (t220 == t221)))) else (some false)))) else (some false))))))) = some r := H
            have A15 := Aside0.mk A150
            clear A150
            replace H := Option.bind_eq_some_iff.mp H
            obtain ⟨t213, A160, H⟩ := H
            replace H : ((num_Wrap_int8.f a0).bind fun t214 => ((num_Wrap_int8.f a1).bind fun t215 => ((num_Wrap_int16.f (wrap64 ((wrap64 (t210)) + (wrap64 (t211))))).bind fun t216 => ((num_Wrap_int16.f t208).bind fun t217 => (if t216 = t217 then ((num_Wrap_int32.f (wrap64 ((wrap64 (t212)) + (wrap64 (t213))))).bind fun t218 => ((num_Wrap_int32.f t208).bind fun t219 => (if t218 = t219 then ((num_Wrap_int8.f (wrap64 ((wrap64 (t214)) + (wrap64 (t215))))).bind fun t220 => ((num_Wrap_int8.f t208).bind fun t221 => (some (t220 == t221)))) else (some false)))) else (some false)))))) = some r := H
            have A16 := Aside0.mk A160
            clear A160
            replace H := Option.bind_eq_some_iff.mp H
            obtain ⟨t214, A170, H⟩ := H
            replace H : ((num_Wrap_int8.f a1).bind fun t215 => ((num_Wrap_int16.f (wrap64 ((wrap64 (t210)) + (wrap64 (t211))))).bind fun t216 => ((num_Wrap_int16.f t208).bind fun t217 => (if t216 = t217 then ((num_Wrap_int32.f (wrap64 ((wrap64 (t212)) + (wrap64 (t213))))).bind fun t218 => ((num_Wrap_int32.f t208).bind fun t219 => (if t218 = t219 then ((num_Wrap_int8.f (wrap64 ((wrap64 (t214)) + (wrap64 (t215))))).bind fun t220 => ((num_Wrap_int8.f t208).bind fun t221 => (some (t220 == t221)))) else (some false)))) else (some false))))) = some r := H
            have A17 := Aside0.mk A170
            clear A170
            replace H := Option.bind_eq_some_iff.mp H
            obtain ⟨t215, A180, H⟩ := H
            replace H : ((num_Wrap_int16.f (wrap64 ((wrap64 (t210)) + (wrap64 (t211))))).bind fun t216 => ((num_Wrap_int16.f t208).bind fun t217 => (if t216 = t217 then ((num_Wrap_int32.f (wrap64 ((wrap64 (t212)) + (wrap64 (t213))))).bind fun t218 => ((num_Wrap_int32.f t208).bind fun t219 => (if t218 = t219 then ((num_Wrap_int8.f (wrap64 ((wrap64 (t214)) + (wrap64 (t215))))).bind fun t220 => ((num_Wrap_int8.f t208).bind fun t221 => (some (t220 == t221)))) else (some false)))) else (some false)))) = some r := H
            have A18 := Aside0.mk A180
            clear A180
            replace H := Option.bind_eq_some_iff.mp H
            obtain ⟨t216, A190, H⟩ := H
            replace H : ((num_Wrap_int16.f t208).bind fun t217 => (if t216 = t217 then ((num_Wrap_int32.f (wrap64 ((wrap64 (t212)) + (wrap64 (t213))))).bind fun t218 => ((num_Wrap_int32.f t208).bind fun t219 => (if t218 = t219 then ((num_Wrap_int8.f (wrap64 ((wrap64 (t214)) + (wrap64 (t215))))).bind fun t220 => ((num_Wrap_int8.f t208).bind fun t221 => (some (t220 == t221)))) else (some false)))) else (some false))) = some r := H
            have A19 := Aside0.mk A190
            clear A190
            replace H := Option.bind_eq_some_iff.mp H
            obtain ⟨t217, A200, H⟩ := H
            replace H : (if t216 = t217 then ((num_Wrap_int32.f (wrap64 ((wrap64 (t212)) + (wrap64 (t213))))).bind fun t218 => ((num_Wrap_int32.f t208).bind fun t219 => (if t218 = t219 then ((num_Wrap_int8.f (wrap64 ((wrap64 (t214)) + (wrap64 (t215))))).bind fun t220 => ((num_Wrap_int8.f t208).bind fun t221 => (some (t220 == t221)))) else (some false)))) else (some false)) = some r := H
            have A20 := Aside0.mk A200
            clear A200
            by_cases c21 : t216 = t217
            · rw [if_pos c21] at H
              have c21b0 : (t216 == t217) = true := beq_iff_eq.mpr c21
              have c21b1 : (t216 != t217) = false := bne_eq_false_iff_eq.mpr c21
              clear c21
              replace H := Option.bind_eq_some_iff.mp H
              obtain ⟨t218, A220, H⟩ := H
              replace H : ((num_Wrap_int32.f t208).bind fun t219 => (if t218 = t219 then ((num_Wrap_int8.f (wrap64 ((wrap64 (t214)) + (wrap64 (t215))))).bind fun t220 => ((num_Wrap_int8.f t208).bind fun t221 => (some (t220 == t221)))) else (some false))) = some r := H
              have A22 := Aside0.mk A220
              clear A220
              replace H := Option.bind_eq_some_iff.mp H
              obtain ⟨t219, A230, H⟩ := H
              replace H : (if t218 = t219 then ((num_Wrap_int8.f (wrap64 ((wrap64 (t214)) + (wrap64 (t215))))).bind fun t220 => ((num_Wrap_int8.f t208).bind fun t221 => (some (t220 == t221)))) else (some false)) = some r := H
              have A23 := Aside0.mk A230
              clear A230
              by_cases c24 : t218 = t219
              · rw [if_pos c24] at H
                have c24b0 : (t218 == t219) = true := beq_iff_eq.mpr c24
                have c24b1 : (t218 != t219) = false := bne_eq_false_iff_eq.mpr c24
                clear c24
                replace H := Option.bind_eq_some_iff.mp H
                obtain ⟨t220, A250, H⟩ := H
                replace H : ((num_Wrap_int8.f t208).bind fun t221 => (some (t220 == t221))) = some r := H
                have A25 := Aside0.mk A250
                clear A250
                replace H := Option.bind_eq_some_iff.mp H
                obtain ⟨t221, A260, H⟩ := H
                replace H : (some (t220 == t221)) = some r := H
                have A26 := Aside0.mk A260
                clear A260
                obtain rfl := Option.some.inj H
                go_wp2_with (first | ((with_reducible refine gate_callee (f := 22) rfl ?_); refine goesL_ (some 34) rfl rfl Try.func22 (by kernel_rfl) rfl #[.int .i64 a0, .int .i64 a1] rfl (by (try simp only [List.map_toArray, List.map_cons, List.map_nil]); first | done | rfl | (simp only [List.length_drop, List.length_take]; rfl)) ?_; (with_reducible refine (num_Add.calls a0 a1 t208 t209 _ A11.out).mono ?_); rintro e w' ⟨rfl, ⟨nd, rfl⟩⟩; refine ⟨_, rfl, ?_⟩) | ((with_reducible refine gate_callee (f := 37) rfl ?_); refine goesL_ (some 40) rfl rfl Try.func37 (by kernel_rfl) rfl #[.int .i64 a0] rfl (by (try simp only [List.map_toArray, List.map_cons, List.map_nil]); first | done | rfl | (simp only [List.length_drop, List.length_take]; rfl)) ?_; (with_reducible refine (num_Wrap_int16.calls a0 t210 _ A13.out).mono ?_); rintro e w' ⟨rfl, ⟨nd, rfl⟩⟩; refine ⟨_, rfl, ?_⟩) | ((with_reducible refine gate_callee (f := 37) rfl ?_); refine goesL_ (some 43) rfl rfl Try.func37 (by kernel_rfl) rfl #[.int .i64 a1] rfl (by (try simp only [List.map_toArray, List.map_cons, List.map_nil]); first | done | rfl | (simp only [List.length_drop, List.length_take]; rfl)) ?_; (with_reducible refine (num_Wrap_int16.calls a1 t211 _ A14.out).mono ?_); rintro e w' ⟨rfl, ⟨nd, rfl⟩⟩; refine ⟨_, rfl, ?_⟩) | ((with_reducible refine gate_callee (f := 38) rfl ?_); refine goesL_ (some 47) rfl rfl Try.func38 (by kernel_rfl) rfl #[.int .i64 a0] rfl (by (try simp only [List.map_toArray, List.map_cons, List.map_nil]); first | done | rfl | (simp only [List.length_drop, List.length_take]; rfl)) ?_; (with_reducible refine (num_Wrap_int32.calls a0 t212 _ A15.out).mono ?_); rintro e w' ⟨rfl, ⟨nd, rfl⟩⟩; refine ⟨_, rfl, ?_⟩) | ((with_reducible refine gate_callee (f := 38) rfl ?_); refine goesL_ (some 50) rfl rfl Try.func38 (by kernel_rfl) rfl #[.int .i64 a1] rfl (by (try simp only [List.map_toArray, List.map_cons, List.map_nil]); first | done | rfl | (simp only [List.length_drop, List.length_take]; rfl)) ?_; (with_reducible refine (num_Wrap_int32.calls a1 t213 _ A16.out).mono ?_); rintro e w' ⟨rfl, ⟨nd, rfl⟩⟩; refine ⟨_, rfl, ?_⟩) | ((with_reducible refine gate_callee (f := 35) rfl ?_); refine goesL_ (some 54) rfl rfl Try.func35 (by kernel_rfl) rfl #[.int .i64 a0] rfl (by (try simp only [List.map_toArray, List.map_cons, List.map_nil]); first | done | rfl | (simp only [List.length_drop, List.length_take]; rfl)) ?_; (with_reducible refine (num_Wrap_int8.calls a0 t214 _ A17.out).mono ?_); rintro e w' ⟨rfl, ⟨nd, rfl⟩⟩; refine ⟨_, rfl, ?_⟩) | ((with_reducible refine gate_callee (f := 35) rfl ?_); refine goesL_ (some 57) rfl rfl Try.func35 (by kernel_rfl) rfl #[.int .i64 a1] rfl (by (try simp only [List.map_toArray, List.map_cons, List.map_nil]); first | done | rfl | (simp only [List.length_drop, List.length_take]; rfl)) ?_; (with_reducible refine (num_Wrap_int8.calls a1 t215 _ A18.out).mono ?_); rintro e w' ⟨rfl, ⟨nd, rfl⟩⟩; refine ⟨_, rfl, ?_⟩) | ((with_reducible refine gate_callee (f := 37) rfl ?_); refine goesL_ (some 61) rfl rfl Try.func37 (by kernel_rfl) rfl #[.int .i64 (wrap64 ((wrap64 (t210)) + (wrap64 (t211))))] rfl (by (try simp only [List.map_toArray, List.map_cons, List.map_nil]); first | done | rfl | (simp only [List.length_drop, List.length_take]; rfl)) ?_; (with_reducible refine (num_Wrap_int16.calls (wrap64 ((wrap64 (t210)) + (wrap64 (t211)))) t216 _ A19.out).mono ?_); rintro e w' ⟨rfl, ⟨nd, rfl⟩⟩; refine ⟨_, rfl, ?_⟩) | ((with_reducible refine gate_callee (f := 37) rfl ?_); refine goesL_ (some 63) rfl rfl Try.func37 (by kernel_rfl) rfl #[.int .i64 t208] rfl (by (try simp only [List.map_toArray, List.map_cons, List.map_nil]); first | done | rfl | (simp only [List.length_drop, List.length_take]; rfl)) ?_; (with_reducible refine (num_Wrap_int16.calls t208 t217 _ A20.out).mono ?_); rintro e w' ⟨rfl, ⟨nd, rfl⟩⟩; refine ⟨_, rfl, ?_⟩) | (go_at_call 38; (with_reducible refine (num_Wrap_int32.calls (wrap64 ((wrap64 (t212)) + (wrap64 (t213)))) t218 _ A22.out).mono ?_); rintro e w' ⟨rfl, ⟨nd, rfl⟩⟩) | (go_at_call 38; (with_reducible refine (num_Wrap_int32.calls t208 t219 _ A23.out).mono ?_); rintro e w' ⟨rfl, ⟨nd, rfl⟩⟩) | (go_at_call 35; (with_reducible refine (num_Wrap_int8.calls (wrap64 ((wrap64 (t214)) + (wrap64 (t215)))) t220 _ A25.out).mono ?_); rintro e w' ⟨rfl, ⟨nd, rfl⟩⟩) | (go_at_call 35; (with_reducible refine (num_Wrap_int8.calls t208 t221 _ A26.out).mono ?_); rintro e w' ⟨rfl, ⟨nd, rfl⟩⟩))
                go_ret
                exact ⟨by first | rfl | (simp; done) | (simp [*]; done), by repeat (first | exact Drawn0.refl _ | apply Drawn0.step)⟩
              · rw [if_neg c24] at H
                have c24b0 : (t218 == t219) = false := beq_eq_false_iff_ne.mpr c24
                have c24b1 : (t218 != t219) = true := bne_iff_ne.mpr c24
                exact absurd ((Option.some.inj H).trans HRT.out) Bool.false_ne_true
            · rw [if_neg c21] at H
              have c21b0 : (t216 == t217) = false := beq_eq_false_iff_ne.mpr c21
              have c21b1 : (t216 != t217) = true := bne_iff_ne.mpr c21
              exact absurd ((Option.some.inj H).trans HRT.out) Bool.false_ne_true
          · rw [if_neg c12] at H
            have c12b0 : (t209 == 0) = false := beq_eq_false_iff_ne.mpr c12
            have c12b1 : (t209 != 0) = true := bne_iff_ne.mpr c12
            obtain rfl := Option.some.inj H
            go_wp2_with (first | ((with_reducible refine gate_callee (f := 22) rfl ?_); refine goesL_ (some 34) rfl rfl Try.func22 (by kernel_rfl) rfl #[.int .i64 a0, .int .i64 a1] rfl (by (try simp only [List.map_toArray, List.map_cons, List.map_nil]); first | done | rfl | (simp only [List.length_drop, List.length_take]; rfl)) ?_; (with_reducible refine (num_Add.calls a0 a1 t208 t209 _ A11.out).mono ?_); rintro e w' ⟨rfl, ⟨nd, rfl⟩⟩; refine ⟨_, rfl, ?_⟩))
            go_ret
            exact ⟨by first | rfl | (simp; done) | (simp [*]; done), by repeat (first | exact Drawn0.refl _ | apply Drawn0.step)⟩
  · replace c4 := Bool.eq_false_iff.mpr c4
    subst c4
    have H1 : (some false) = some r := by rw [if_neg (show ¬ (false = true) by decide)] at H; exact H
    clear H
    have H := H1
    clear H1
    exact absurd ((Option.some.inj H).trans HRT.out) Bool.false_ne_true

end Go.Proofs.Ytfccnnlbiniahaa.Q
