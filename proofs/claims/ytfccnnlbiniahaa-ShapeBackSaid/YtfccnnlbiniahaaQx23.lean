-- PRINTED by print.py (a twelfth state) out of the translation. Not trusted: Lean checks it.
import Derived.Test.YtfccnnlbiniahaaQx0
import Derived.Test.YtfccnnlbiniahaaQx7
import Derived.Test.YtfccnnlbiniahaaQx9
import Derived.Test.YtfccnnlbiniahaaQx21
namespace Go.Proofs.Ytfccnnlbiniahaa.Q
open Go.RowKit Go.Proofs.YtfccnnlbiniahaaW.PrintWords Go.Proofs.YtfccnnlbiniahaaW.PrintLast Go.Proofs.YtfccnnlbiniahaaW.PrintMore
attribute [local go_sem] max2_int min2_int max_two min_two max_three min_three max_four min_four   -- for this text's walks alone
set_option linter.unusedVariables false
set_option linter.unusedSimpArgs false

/-! ### spillwaylaw01_NumRing: function 14 -/
mutual
def spillwaylaw01_NumRing.j0 : Nat → Int → Int → Int → Int → Int → Bool → Option (Bool)
  | 0, _, _, _, _, _, _ => none
  | k + 1, x0, x1, x2, x7, x8, x44 => if x44 = true then (some false) else (if x8 = 0 then ((num_Sub.f x7 x1).bind fun bt271 => (if bt271.2 = 0 then (if bt271.1 = x0 then (spillwaylaw01_NumRing.j1 k x0 x1 x2 x7 x8) else (some false)) else (some false))) else (spillwaylaw01_NumRing.j1 k x0 x1 x2 x7 x8))
def spillwaylaw01_NumRing.j1 : Nat → Int → Int → Int → Int → Int → Option (Bool)
  | 0, _, _, _, _, _ => none
  | k + 1, x0, x1, x2, x7, x8 => (num_Mul.f k x0 x2).bind fun bt273 => ((num_Mul.f k x2 x0).bind fun bt275 => (if bt273.1 = bt275.1 then (spillwaylaw01_NumRing.j2 k x1 x2 x7 x8 bt273.1 bt273.2 (bt273.2 != bt275.2)) else (spillwaylaw01_NumRing.j2 k x1 x2 x7 x8 bt273.1 bt273.2 true)))
def spillwaylaw01_NumRing.j2 : Nat → Int → Int → Int → Int → Int → Int → Bool → Option (Bool)
  | 0, _, _, _, _, _, _, _ => none
  | k + 1, x1, x2, x7, x8, x13, x14, x79 => if x79 = true then (some false) else ((num_Mul.f k x1 x2).bind fun bt277 => ((num_Mul.f k x7 x2).bind fun bt279 => ((num_Add.f x13 bt277.1).bind fun bt281 => (if x8 = 0 then (if x14 = 0 then (if bt277.2 = 0 then (if bt279.2 = bt281.2 then (some (bt279.1 == bt281.1)) else (some false)) else (some true)) else (some true)) else (some true)))))
end
def spillwaylaw01_NumRing.f (k : Nat) (a0 : Int) (a1 : Int) (a2 : Int) : Option (Bool) := (spillwaylaw01_fixed.f k).bind fun t266 => (if t266 = true then ((num_Add.f a0 a1).bind fun bt267 => ((num_Add.f a1 a0).bind fun bt269 => (if bt267.1 = bt269.1 then (spillwaylaw01_NumRing.j0 k a0 a1 a2 bt267.1 bt267.2 (bt267.2 != bt269.2)) else (spillwaylaw01_NumRing.j0 k a0 a1 a2 bt267.1 bt267.2 true)))) else (some false))
theorem spillwaylaw01_NumRing.mono_l : ∀ k, (∀ y0 y1 y2 y3 y4 y5, LeO (spillwaylaw01_NumRing.j0 k y0 y1 y2 y3 y4 y5) (spillwaylaw01_NumRing.j0 (k + 1) y0 y1 y2 y3 y4 y5)) ∧ (∀ y0 y1 y2 y3 y4, LeO (spillwaylaw01_NumRing.j1 k y0 y1 y2 y3 y4) (spillwaylaw01_NumRing.j1 (k + 1) y0 y1 y2 y3 y4)) ∧ (∀ y0 y1 y2 y3 y4 y5 y6, LeO (spillwaylaw01_NumRing.j2 k y0 y1 y2 y3 y4 y5 y6) (spillwaylaw01_NumRing.j2 (k + 1) y0 y1 y2 y3 y4 y5 y6))
  | 0 => ⟨fun _ _ _ _ _ _ r h => by simp [spillwaylaw01_NumRing.j0] at h, fun _ _ _ _ _ r h => by simp [spillwaylaw01_NumRing.j1] at h, fun _ _ _ _ _ _ _ r h => by simp [spillwaylaw01_NumRing.j2] at h⟩
  | k + 1 => by
    obtain ⟨ih0, ih1, ih2⟩ := spillwaylaw01_NumRing.mono_l k
    refine ⟨?_, ?_, ?_⟩
    · intro y0 y1 y2 y3 y4 y5
      unfold spillwaylaw01_NumRing.j0
      repeat' first
      | (with_reducible exact ih0 _ _ _ _ _ _)
      | (with_reducible exact ih1 _ _ _ _ _)
      | (with_reducible exact ih2 _ _ _ _ _ _ _)
      | (with_reducible exact num_Mul.mono _ _ _)
      | (with_reducible exact spillwaylaw01_fixed.mono _)
      | (with_reducible exact LeO.refl _)
      | (with_reducible exact LeO.none _)
      | (with_reducible refine LeO.ite ?_ ?_)
      | (with_reducible refine LeO.bind ?_ (fun _ => ?_))
      | exact ih0 _ _ _ _ _ _
      | exact ih1 _ _ _ _ _
      | exact ih2 _ _ _ _ _ _ _
      | exact num_Mul.mono _ _ _
      | exact spillwaylaw01_fixed.mono _
      | exact LeO.none _
      | refine LeO.ite ?_ ?_
      | refine LeO.bind ?_ (fun _ => ?_)
    · intro y0 y1 y2 y3 y4
      unfold spillwaylaw01_NumRing.j1
      repeat' first
      | (with_reducible exact ih0 _ _ _ _ _ _)
      | (with_reducible exact ih1 _ _ _ _ _)
      | (with_reducible exact ih2 _ _ _ _ _ _ _)
      | (with_reducible exact num_Mul.mono _ _ _)
      | (with_reducible exact spillwaylaw01_fixed.mono _)
      | (with_reducible exact LeO.refl _)
      | (with_reducible exact LeO.none _)
      | (with_reducible refine LeO.ite ?_ ?_)
      | (with_reducible refine LeO.bind ?_ (fun _ => ?_))
      | exact ih0 _ _ _ _ _ _
      | exact ih1 _ _ _ _ _
      | exact ih2 _ _ _ _ _ _ _
      | exact num_Mul.mono _ _ _
      | exact spillwaylaw01_fixed.mono _
      | exact LeO.none _
      | refine LeO.ite ?_ ?_
      | refine LeO.bind ?_ (fun _ => ?_)
    · intro y0 y1 y2 y3 y4 y5 y6
      unfold spillwaylaw01_NumRing.j2
      repeat' first
      | (with_reducible exact ih0 _ _ _ _ _ _)
      | (with_reducible exact ih1 _ _ _ _ _)
      | (with_reducible exact ih2 _ _ _ _ _ _ _)
      | (with_reducible exact num_Mul.mono _ _ _)
      | (with_reducible exact spillwaylaw01_fixed.mono _)
      | (with_reducible exact LeO.refl _)
      | (with_reducible exact LeO.none _)
      | (with_reducible refine LeO.ite ?_ ?_)
      | (with_reducible refine LeO.bind ?_ (fun _ => ?_))
      | exact ih0 _ _ _ _ _ _
      | exact ih1 _ _ _ _ _
      | exact ih2 _ _ _ _ _ _ _
      | exact num_Mul.mono _ _ _
      | exact spillwaylaw01_fixed.mono _
      | exact LeO.none _
      | refine LeO.ite ?_ ?_
      | refine LeO.bind ?_ (fun _ => ?_)
theorem spillwaylaw01_NumRing.mono : ∀ a0 a1 a2 k, LeO (spillwaylaw01_NumRing.f k a0 a1 a2) (spillwaylaw01_NumRing.f (k + 1) a0 a1 a2) := by
  intro a0 a1 a2 k
  obtain ⟨ih0, ih1, ih2⟩ := spillwaylaw01_NumRing.mono_l k
  unfold spillwaylaw01_NumRing.f
  repeat' first
      | (with_reducible exact ih0 _ _ _ _ _ _)
      | (with_reducible exact ih1 _ _ _ _ _)
      | (with_reducible exact ih2 _ _ _ _ _ _ _)
      | (with_reducible exact num_Mul.mono _ _ _)
      | (with_reducible exact spillwaylaw01_fixed.mono _)
      | (with_reducible exact LeO.refl _)
      | (with_reducible exact LeO.none _)
      | (with_reducible refine LeO.ite ?_ ?_)
      | (with_reducible refine LeO.bind ?_ (fun _ => ?_))
      | exact ih0 _ _ _ _ _ _
      | exact ih1 _ _ _ _ _
      | exact ih2 _ _ _ _ _ _ _
      | exact num_Mul.mono _ _ _
      | exact spillwaylaw01_fixed.mono _
      | exact LeO.none _
      | refine LeO.ite ?_ ?_
      | refine LeO.bind ?_ (fun _ => ?_)
set_option maxHeartbeats 8000000 in
set_option maxRecDepth 100000 in
theorem spillwaylaw01_NumRing.calls (k : Nat) (a0 : Int) (a1 : Int) (a2 : Int) (r : Bool) (w : World) (hrt : r = true) (h : spillwaylaw01_NumRing.f k a0 a1 a2 = some r) :
    Calls Try.prog 14 #[.int .i64 a0, .int .i64 a1, .int .i64 a2] w fun e w' => e = .returned (.bool r) ∧ Drawn0 w w' := by
  have H : ((spillwaylaw01_fixed.f k).bind fun t266 => (if t266 = true then ((num_Add.f a0 a1).bind fun bt267 => ((num_Add.f a1 a0).bind fun bt269 => (if bt267.1 = bt269.1 then (spillwaylaw01_NumRing.j0 k a0 a1 a2 bt267.1 bt267.2 (bt267.2 != bt269.2)) else (spillwaylaw01_NumRing.j0 k a0 a1 a2 bt267.1 bt267.2 true)))) else (some false))) = some r := h
  clear h
  have HRT := Aside0.mk hrt
  clear hrt
  replace H := Option.bind_eq_some_iff.mp H
  obtain ⟨t266, A40, H⟩ := H
  replace H : (if t266 = true then ((num_Add.f a0 a1).bind fun bt267 => ((num_Add.f a1 a0).bind fun bt269 => (if bt267.1 = bt269.1 then (spillwaylaw01_NumRing.j0 k a0 a1 a2 bt267.1 bt267.2 (bt267.2 != bt269.2)) else (spillwaylaw01_NumRing.j0 k a0 a1 a2 bt267.1 bt267.2 true)))) else (some false)) = some r := H
  have A4 := Aside0.mk A40
  clear A40
  by_cases c5 : t266 = true
  · subst c5
    have H1 : ((num_Add.f a0 a1).bind fun bt267 => ((num_Add.f a1 a0).bind fun bt269 => (if bt267.1 = bt269.1 then (spillwaylaw01_NumRing.j0 k a0 a1 a2 bt267.1 bt267.2 (bt267.2 != bt269.2)) else (spillwaylaw01_NumRing.j0 k a0 a1 a2 bt267.1 bt267.2 true)))) = some r := by rw [if_pos rfl] at H; exact H
    clear H
    have H := H1
    clear H1
    replace H := Option.bind_eq_some_iff.mp H
    obtain ⟨⟨t267, t268⟩, A60, H⟩ := H
    replace H : ((num_Add.f a1 a0).bind fun bt269 => (if t267 = bt269.1 then (spillwaylaw01_NumRing.j0 k a0 a1 a2 t267 t268 (t268 != bt269.2)) else (spillwaylaw01_NumRing.j0 k a0 a1 a2 t267 t268 true))) = some r := H
    have A6 := Aside0.mk A60
    clear A60
    replace H := Option.bind_eq_some_iff.mp H
    obtain ⟨⟨t269, t270⟩, A70, H⟩ := H
    replace H : (if t267 = t269 then (spillwaylaw01_NumRing.j0 k a0 a1 a2 t267 t268 (t268 != t270)) else (spillwaylaw01_NumRing.j0 k a0 a1 a2 t267 t268 true)) = some r := H
    have A7 := Aside0.mk A70
    clear A70
    have HC8 := Aside0.mk H
    clear H
    go_enter Try.func14, Try.ntmps14
    go_upto_region 5 with (first | ((with_reducible refine gate_callee (f := 24) rfl ?_); refine goesL_ (some 23) rfl rfl Try.func24 (by kernel_rfl) rfl #[] rfl (by (try simp only [List.map_toArray, List.map_cons, List.map_nil]); first | done | rfl | (simp only [List.length_drop, List.length_take]; rfl)) ?_; (with_reducible refine (spillwaylaw01_fixed.calls k  true _ A4.out).mono ?_); rintro e w' ⟨rfl, ⟨nd, rfl⟩⟩; refine ⟨_, rfl, ?_⟩) | ((with_reducible refine gate_callee (f := 22) rfl ?_); refine goesL_ (some 28) rfl rfl Try.func22 (by kernel_rfl) rfl #[.int .i64 a0, .int .i64 a1] rfl (by (try simp only [List.map_toArray, List.map_cons, List.map_nil]); first | done | rfl | (simp only [List.length_drop, List.length_take]; rfl)) ?_; (with_reducible refine (num_Add.calls a0 a1 t267 t268 _ A6.out).mono ?_); rintro e w' ⟨rfl, ⟨nd, rfl⟩⟩; refine ⟨_, rfl, ?_⟩) | ((with_reducible refine gate_callee (f := 22) rfl ?_); refine goesL_ (some 34) rfl rfl Try.func22 (by kernel_rfl) rfl #[.int .i64 a1, .int .i64 a0] rfl (by (try simp only [List.map_toArray, List.map_cons, List.map_nil]); first | done | rfl | (simp only [List.length_drop, List.length_take]; rfl)) ?_; (with_reducible refine (num_Add.calls a1 a0 t269 t270 _ A7.out).mono ?_); rintro e w' ⟨rfl, ⟨nd, rfl⟩⟩; refine ⟨_, rfl, ?_⟩))
    (try simp only [Act.put, List.setIfInBounds_toArray, List.set_cons_zero, List.set_cons_succ])
    go_cut [44] (fun v44 wc => ∃ (kq : Nat) (x44_7 : Bool), v44 = .bool x44_7 ∧ Aside0 (spillwaylaw01_NumRing.j0 kq a0 a1 a2 t267 t268 x44_7 = some r) ∧ Aside0 (kq ≤ k) ∧ Drawn0 w wc)
    case first =>
      have H := HC8.out
      clear HC8
      by_cases c9 : t267 = t269
      · rw [if_pos c9] at H
        have c9b0 : (t267 == t269) = true := beq_iff_eq.mpr c9
        have c9b1 : (t267 != t269) = false := bne_eq_false_iff_eq.mpr c9
        clear c9
        (first | rw [c9b0] | (simp only [i64_w, i32_w]; rw [c9b0]) | skip)
        have H' := Aside0.mk H
        clear H
        go_wp2
        go_meet
        case rel => exact ⟨_, ((t268 != t270)), (by first | rfl | (simp; done) | (simp [*]; done)), H', ⟨by first | omega | exact Nat.le_refl _⟩, by repeat (first | exact Drawn0.refl _ | apply Drawn0.step)⟩
      · rw [if_neg c9] at H
        have c9b0 : (t267 == t269) = false := beq_eq_false_iff_ne.mpr c9
        have c9b1 : (t267 != t269) = true := bne_iff_ne.mpr c9
        (first | rw [c9b0] | (simp only [i64_w, i32_w]; rw [c9b0]) | skip)
        have H' := Aside0.mk H
        clear H
        go_wp2
        go_meet
        case rel => exact ⟨_, (true), (by first | rfl | (simp; done) | (simp [*]; done)), H', ⟨by first | omega | exact Nat.le_refl _⟩, by repeat (first | exact Drawn0.refl _ | apply Drawn0.step)⟩
    case rest =>
      clear HC8
      try clear c1
      try clear c2
      try clear p2
      try clear c5
      try clear c9
      try clear c9b0
      try clear c9b1
      obtain ⟨kq, x44_7, rfl, HA, HJ7, ⟨mc7, rfl⟩⟩ := hcut
      cases kq with
      | zero => exact absurd HA.out (by simp [spillwaylaw01_NumRing.j0])
      | succ kj7 =>
        have H := HA.out
        clear HA
        simp only [spillwaylaw01_NumRing.j0] at H
        by_cases c10 : x44_7 = true
        · subst c10
          have H1 : (some false) = some r := by rw [if_pos rfl] at H; exact H
          clear H
          have H := H1
          clear H1
          exact absurd ((Option.some.inj H).trans HRT.out) Bool.false_ne_true
        · replace c10 := Bool.eq_false_iff.mpr c10
          subst c10
          have H1 : (if t268 = 0 then ((num_Sub.f t267 a1).bind fun bt271 => (if bt271.2 = 0 then (if bt271.1 = a0 then (spillwaylaw01_NumRing.j1 kj7 a0 a1 a2 t267 t268) else (some false)) else (some false))) else (spillwaylaw01_NumRing.j1 kj7 a0 a1 a2 t267 t268)) = some r := by rw [if_neg (show ¬ (false = true) by decide)] at H; exact H
          clear H
          have H := H1
          clear H1
          have HC11 := Aside0.mk H
          clear H
          go_upto_if 46 with (fail)
          go_cut [] (fun wc => ∃ (kq : Nat), Aside0 (spillwaylaw01_NumRing.j1 kq a0 a1 a2 t267 t268 = some r) ∧ Aside0 (kq ≤ kj7) ∧ Drawn0 w wc)
          case first =>
            have H := HC11.out
            clear HC11
            by_cases c12 : t268 = 0
            · rw [if_pos c12] at H
              have c12b0 : (t268 == 0) = true := beq_iff_eq.mpr c12
              have c12b1 : (t268 != 0) = false := bne_eq_false_iff_eq.mpr c12
              clear c12
              (first | rw [c12b0] | (simp only [i64_w, i32_w]; rw [c12b0]) | skip)
              replace H := Option.bind_eq_some_iff.mp H
              obtain ⟨⟨t271, t272⟩, A130, H⟩ := H
              replace H : (if t272 = 0 then (if t271 = a0 then (spillwaylaw01_NumRing.j1 kj7 a0 a1 a2 t267 t268) else (some false)) else (some false)) = some r := H
              have A13 := Aside0.mk A130
              clear A130
              by_cases c14 : t272 = 0
              · rw [if_pos c14] at H
                have c14b0 : (t272 == 0) = true := beq_iff_eq.mpr c14
                have c14b1 : (t272 != 0) = false := bne_eq_false_iff_eq.mpr c14
                clear c14
                by_cases c15 : t271 = a0
                · rw [if_pos c15] at H
                  have c15b0 : (t271 == a0) = true := beq_iff_eq.mpr c15
                  have c15b1 : (t271 != a0) = false := bne_eq_false_iff_eq.mpr c15
                  clear c15
                  have H' := Aside0.mk H
                  clear H
                  go_wp2_with (first | ((with_reducible refine gate_callee (f := 25) rfl ?_); refine goesL_ (some 50) rfl rfl Try.func25 (by kernel_rfl) rfl #[.int .i64 t267, .int .i64 a1] rfl (by (try simp only [List.map_toArray, List.map_cons, List.map_nil]); first | done | rfl | (simp only [List.length_drop, List.length_take]; rfl)) ?_; (with_reducible refine (num_Sub.calls t267 a1 t271 t272 _ A13.out).mono ?_); rintro e w' ⟨rfl, ⟨nd, rfl⟩⟩; refine ⟨_, rfl, ?_⟩))
                  go_meet
                  case rel => exact ⟨_, H', ⟨by have := HJ7.out; first | omega | exact Nat.le_refl _⟩, by repeat (first | exact Drawn0.refl _ | apply Drawn0.step)⟩
                · rw [if_neg c15] at H
                  have c15b0 : (t271 == a0) = false := beq_eq_false_iff_ne.mpr c15
                  have c15b1 : (t271 != a0) = true := bne_iff_ne.mpr c15
                  exact absurd ((Option.some.inj H).trans HRT.out) Bool.false_ne_true
              · rw [if_neg c14] at H
                have c14b0 : (t272 == 0) = false := beq_eq_false_iff_ne.mpr c14
                have c14b1 : (t272 != 0) = true := bne_iff_ne.mpr c14
                exact absurd ((Option.some.inj H).trans HRT.out) Bool.false_ne_true
            · rw [if_neg c12] at H
              have c12b0 : (t268 == 0) = false := beq_eq_false_iff_ne.mpr c12
              have c12b1 : (t268 != 0) = true := bne_iff_ne.mpr c12
              (first | rw [c12b0] | (simp only [i64_w, i32_w]; rw [c12b0]) | skip)
              have H' := Aside0.mk H
              clear H
              go_wp2
              go_meet
              case rel => exact ⟨_, H', ⟨by have := HJ7.out; first | omega | exact Nat.le_refl _⟩, by repeat (first | exact Drawn0.refl _ | apply Drawn0.step)⟩
          case rest =>
            clear HC11
            try clear c1
            try clear c2
            try clear p2
            try clear c5
            try clear c7
            try clear c9
            try clear c9b0
            try clear c9b1
            try clear c10
            try clear c12
            try clear c12b0
            try clear c12b1
            try clear c14
            try clear c14b0
            try clear c14b1
            try clear c15
            try clear c15b0
            try clear c15b1
            try clear p2
            obtain ⟨kq, HA, HJ10, ⟨mc10, rfl⟩⟩ := hcut
            cases kq with
            | zero => exact absurd HA.out (by simp [spillwaylaw01_NumRing.j1])
            | succ kj10 =>
              have H := HA.out
              clear HA
              simp only [spillwaylaw01_NumRing.j1] at H
              replace H := Option.bind_eq_some_iff.mp H
              obtain ⟨⟨t273, t274⟩, A160, H⟩ := H
              replace H : ((num_Mul.f kj10 a2 a0).bind fun bt275 => (if t273 = bt275.1 then (spillwaylaw01_NumRing.j2 kj10 a1 a2 t267 t268 t273 t274 (t274 != bt275.2)) else (spillwaylaw01_NumRing.j2 kj10 a1 a2 t267 t268 t273 t274 true))) = some r := H
              have A16 := Aside0.mk A160
              clear A160
              replace H := Option.bind_eq_some_iff.mp H
              obtain ⟨⟨t275, t276⟩, A170, H⟩ := H
              replace H : (if t273 = t275 then (spillwaylaw01_NumRing.j2 kj10 a1 a2 t267 t268 t273 t274 (t274 != t276)) else (spillwaylaw01_NumRing.j2 kj10 a1 a2 t267 t268 t273 t274 true)) = some r := H
              have A17 := Aside0.mk A170
              clear A170
              have HC18 := Aside0.mk H
              clear H
              go_upto_region 13 with (first | ((with_reducible refine gate_callee (f := 46) rfl ?_); refine goesL_ (some 63) rfl rfl Try.func46 (by kernel_rfl) rfl #[.int .i64 a0, .int .i64 a2] rfl (by (try simp only [List.map_toArray, List.map_cons, List.map_nil]); first | done | rfl | (simp only [List.length_drop, List.length_take]; rfl)) ?_; (with_reducible refine (num_Mul.calls kj10 a0 a2 t273 t274 _ A16.out).mono ?_); rintro e w' ⟨rfl, ⟨nd, rfl⟩⟩; refine ⟨_, rfl, ?_⟩) | ((with_reducible refine gate_callee (f := 46) rfl ?_); refine goesL_ (some 69) rfl rfl Try.func46 (by kernel_rfl) rfl #[.int .i64 a2, .int .i64 a0] rfl (by (try simp only [List.map_toArray, List.map_cons, List.map_nil]); first | done | rfl | (simp only [List.length_drop, List.length_take]; rfl)) ?_; (with_reducible refine (num_Mul.calls kj10 a2 a0 t275 t276 _ A17.out).mono ?_); rintro e w' ⟨rfl, ⟨nd, rfl⟩⟩; refine ⟨_, rfl, ?_⟩))
              (try simp only [Act.put, List.setIfInBounds_toArray, List.set_cons_zero, List.set_cons_succ])
              go_cut [79] (fun v79 wc => ∃ (kq : Nat) (x79_17 : Bool), v79 = .bool x79_17 ∧ Aside0 (spillwaylaw01_NumRing.j2 kq a1 a2 t267 t268 t273 t274 x79_17 = some r) ∧ Aside0 (kq ≤ kj10) ∧ Drawn0 w wc)
              case first =>
                have H := HC18.out
                clear HC18
                by_cases c19 : t273 = t275
                · rw [if_pos c19] at H
                  have c19b0 : (t273 == t275) = true := beq_iff_eq.mpr c19
                  have c19b1 : (t273 != t275) = false := bne_eq_false_iff_eq.mpr c19
                  clear c19
                  (first | rw [c19b0] | (simp only [i64_w, i32_w]; rw [c19b0]) | skip)
                  have H' := Aside0.mk H
                  clear H
                  go_wp2
                  go_meet
                  case rel => exact ⟨_, ((t274 != t276)), (by first | rfl | (simp; done) | (simp [*]; done)), H', ⟨by have := HJ7.out; have := HJ10.out; first | omega | exact Nat.le_refl _⟩, by repeat (first | exact Drawn0.refl _ | apply Drawn0.step)⟩
                · rw [if_neg c19] at H
                  have c19b0 : (t273 == t275) = false := beq_eq_false_iff_ne.mpr c19
                  have c19b1 : (t273 != t275) = true := bne_iff_ne.mpr c19
                  (first | rw [c19b0] | (simp only [i64_w, i32_w]; rw [c19b0]) | skip)
                  have H' := Aside0.mk H
                  clear H
                  go_wp2
                  go_meet
                  case rel => exact ⟨_, (true), (by first | rfl | (simp; done) | (simp [*]; done)), H', ⟨by have := HJ7.out; have := HJ10.out; first | omega | exact Nat.le_refl _⟩, by repeat (first | exact Drawn0.refl _ | apply Drawn0.step)⟩
              case rest =>
                clear HC18
                try clear c1
                try clear c2
                try clear p2
                try clear c4
                try clear c5
                try clear c7
                try clear c9
                try clear c9b0
                try clear c9b1
                try clear c10
                try clear c12
                try clear c12b0
                try clear c12b1
                try clear c14
                try clear c14b0
                try clear c14b1
                try clear c15
                try clear c15b0
                try clear c15b1
                try clear c19
                try clear c19b0
                try clear c19b1
                try clear p2
                obtain ⟨kq, x79_17, rfl, HA, HJ17, ⟨mc17, rfl⟩⟩ := hcut
                cases kq with
                | zero => exact absurd HA.out (by simp [spillwaylaw01_NumRing.j2])
                | succ kj17 =>
                  have H := HA.out
                  clear HA
                  simp only [spillwaylaw01_NumRing.j2] at H
                  by_cases c20 : x79_17 = true
                  · subst c20
                    have H1 : (some false) = some r := by rw [if_pos rfl] at H; exact H
                    clear H
                    have H := H1
                    clear H1
                    exact absurd ((Option.some.inj H).trans HRT.out) Bool.false_ne_true
                  · replace c20 := Bool.eq_false_iff.mpr c20
                    subst c20
                    have H1 : ((num_Mul.f kj17 a1 a2).bind fun bt277 => ((num_Mul.f kj17 t267 a2).bind fun bt279 => ((num_Add.f t273 bt277.1).bind fun bt281 => (if t268 = 0 then (if t274 = 0 then (if bt277.2 = 0 then (if bt279.2 = bt281.2 then (some (bt279.1 == bt281.1)) else (some false)) else (some true)) else (some true)) else (some true))))) = some r := by rw [if_neg (show ¬ (false = true) by decide)] at H; exact H
                    clear H
                    have H := H1
                    clear H1
                    replace H := Option.bind_eq_some_iff.mp H
                    obtain ⟨⟨t277, t278⟩, A210, H⟩ := H
                    replace H : ((num_Mul.f kj17 t267 a2).bind fun bt279 => ((num_Add.f t273 t277).bind fun bt281 => (if t268 = 0 then (if t274 = 0 then (if t278 = 0 then (if bt279.2 = bt281.2 then (some (bt279.1 == bt281.1)) else (some false)) else (some true)) else (some true)) else (some true)))) = some r := H
                    have A21 := Aside0.mk A210
                    clear A210
                    replace H := Option.bind_eq_some_iff.mp H
                    obtain ⟨⟨t279, t280⟩, A220, H⟩ := H
                    replace H : ((num_Add.f t273 t277).bind fun bt281 => (if t268 = 0 then (if t274 = 0 then (if t278 = 0 then (if t280 = bt281.2 then (some (t279 == bt281.1)) else (some false)) else (some true)) else (some true)) else (some true))) = some r := H
                    have A22 := Aside0.mk A220
                    clear A220
                    replace H := Option.bind_eq_some_iff.mp H
                    obtain ⟨⟨t281, t282⟩, A230, H⟩ := H
                    replace H : (if t268 = 0 then (if t274 = 0 then (if t278 = 0 then (if t280 = t282 then (some (t279 == t281)) else (some false)) else (some true)) else (some true)) else (some true)) = some r := H
                    have A23 := Aside0.mk A230
                    clear A230
                    by_cases c24 : t268 = 0
                    · rw [if_pos c24] at H
                      have c24b0 : (t268 == 0) = true := beq_iff_eq.mpr c24
                      have c24b1 : (t268 != 0) = false := bne_eq_false_iff_eq.mpr c24
                      clear c24
                      by_cases c25 : t274 = 0
                      · rw [if_pos c25] at H
                        have c25b0 : (t274 == 0) = true := beq_iff_eq.mpr c25
                        have c25b1 : (t274 != 0) = false := bne_eq_false_iff_eq.mpr c25
                        clear c25
                        by_cases c26 : t278 = 0
                        · rw [if_pos c26] at H
                          have c26b0 : (t278 == 0) = true := beq_iff_eq.mpr c26
                          have c26b1 : (t278 != 0) = false := bne_eq_false_iff_eq.mpr c26
                          clear c26
                          by_cases c27 : t280 = t282
                          · rw [if_pos c27] at H
                            have c27b0 : (t280 == t282) = true := beq_iff_eq.mpr c27
                            have c27b1 : (t280 != t282) = false := bne_eq_false_iff_eq.mpr c27
                            clear c27
                            obtain rfl := Option.some.inj H
                            go_wp2_with (first | ((with_reducible refine gate_callee (f := 46) rfl ?_); refine goesL_ (some 83) rfl rfl Try.func46 (by kernel_rfl) rfl #[.int .i64 a1, .int .i64 a2] rfl (by (try simp only [List.map_toArray, List.map_cons, List.map_nil]); first | done | rfl | (simp only [List.length_drop, List.length_take]; rfl)) ?_; (with_reducible refine (num_Mul.calls kj17 a1 a2 t277 t278 _ A21.out).mono ?_); rintro e w' ⟨rfl, ⟨nd, rfl⟩⟩; refine ⟨_, rfl, ?_⟩) | ((with_reducible refine gate_callee (f := 46) rfl ?_); refine goesL_ (some 89) rfl rfl Try.func46 (by kernel_rfl) rfl #[.int .i64 t267, .int .i64 a2] rfl (by (try simp only [List.map_toArray, List.map_cons, List.map_nil]); first | done | rfl | (simp only [List.length_drop, List.length_take]; rfl)) ?_; (with_reducible refine (num_Mul.calls kj17 t267 a2 t279 t280 _ A22.out).mono ?_); rintro e w' ⟨rfl, ⟨nd, rfl⟩⟩; refine ⟨_, rfl, ?_⟩) | ((with_reducible refine gate_callee (f := 22) rfl ?_); refine goesL_ (some 95) rfl rfl Try.func22 (by kernel_rfl) rfl #[.int .i64 t273, .int .i64 t277] rfl (by (try simp only [List.map_toArray, List.map_cons, List.map_nil]); first | done | rfl | (simp only [List.length_drop, List.length_take]; rfl)) ?_; (with_reducible refine (num_Add.calls t273 t277 t281 t282 _ A23.out).mono ?_); rintro e w' ⟨rfl, ⟨nd, rfl⟩⟩; refine ⟨_, rfl, ?_⟩))
                            go_ret
                            exact ⟨by first | rfl | (simp; done) | (simp [*]; done), by repeat (first | exact Drawn0.refl _ | apply Drawn0.step)⟩
                          · rw [if_neg c27] at H
                            have c27b0 : (t280 == t282) = false := beq_eq_false_iff_ne.mpr c27
                            have c27b1 : (t280 != t282) = true := bne_iff_ne.mpr c27
                            exact absurd ((Option.some.inj H).trans HRT.out) Bool.false_ne_true
                        · rw [if_neg c26] at H
                          have c26b0 : (t278 == 0) = false := beq_eq_false_iff_ne.mpr c26
                          have c26b1 : (t278 != 0) = true := bne_iff_ne.mpr c26
                          obtain rfl := Option.some.inj H
                          go_wp2_with (first | ((with_reducible refine gate_callee (f := 46) rfl ?_); refine goesL_ (some 83) rfl rfl Try.func46 (by kernel_rfl) rfl #[.int .i64 a1, .int .i64 a2] rfl (by (try simp only [List.map_toArray, List.map_cons, List.map_nil]); first | done | rfl | (simp only [List.length_drop, List.length_take]; rfl)) ?_; (with_reducible refine (num_Mul.calls kj17 a1 a2 t277 t278 _ A21.out).mono ?_); rintro e w' ⟨rfl, ⟨nd, rfl⟩⟩; refine ⟨_, rfl, ?_⟩) | ((with_reducible refine gate_callee (f := 46) rfl ?_); refine goesL_ (some 89) rfl rfl Try.func46 (by kernel_rfl) rfl #[.int .i64 t267, .int .i64 a2] rfl (by (try simp only [List.map_toArray, List.map_cons, List.map_nil]); first | done | rfl | (simp only [List.length_drop, List.length_take]; rfl)) ?_; (with_reducible refine (num_Mul.calls kj17 t267 a2 t279 t280 _ A22.out).mono ?_); rintro e w' ⟨rfl, ⟨nd, rfl⟩⟩; refine ⟨_, rfl, ?_⟩) | ((with_reducible refine gate_callee (f := 22) rfl ?_); refine goesL_ (some 95) rfl rfl Try.func22 (by kernel_rfl) rfl #[.int .i64 t273, .int .i64 t277] rfl (by (try simp only [List.map_toArray, List.map_cons, List.map_nil]); first | done | rfl | (simp only [List.length_drop, List.length_take]; rfl)) ?_; (with_reducible refine (num_Add.calls t273 t277 t281 t282 _ A23.out).mono ?_); rintro e w' ⟨rfl, ⟨nd, rfl⟩⟩; refine ⟨_, rfl, ?_⟩))
                          go_ret
                          exact ⟨by first | rfl | (simp; done) | (simp [*]; done), by repeat (first | exact Drawn0.refl _ | apply Drawn0.step)⟩
                      · rw [if_neg c25] at H
                        have c25b0 : (t274 == 0) = false := beq_eq_false_iff_ne.mpr c25
                        have c25b1 : (t274 != 0) = true := bne_iff_ne.mpr c25
                        obtain rfl := Option.some.inj H
                        go_wp2_with (first | ((with_reducible refine gate_callee (f := 46) rfl ?_); refine goesL_ (some 83) rfl rfl Try.func46 (by kernel_rfl) rfl #[.int .i64 a1, .int .i64 a2] rfl (by (try simp only [List.map_toArray, List.map_cons, List.map_nil]); first | done | rfl | (simp only [List.length_drop, List.length_take]; rfl)) ?_; (with_reducible refine (num_Mul.calls kj17 a1 a2 t277 t278 _ A21.out).mono ?_); rintro e w' ⟨rfl, ⟨nd, rfl⟩⟩; refine ⟨_, rfl, ?_⟩) | ((with_reducible refine gate_callee (f := 46) rfl ?_); refine goesL_ (some 89) rfl rfl Try.func46 (by kernel_rfl) rfl #[.int .i64 t267, .int .i64 a2] rfl (by (try simp only [List.map_toArray, List.map_cons, List.map_nil]); first | done | rfl | (simp only [List.length_drop, List.length_take]; rfl)) ?_; (with_reducible refine (num_Mul.calls kj17 t267 a2 t279 t280 _ A22.out).mono ?_); rintro e w' ⟨rfl, ⟨nd, rfl⟩⟩; refine ⟨_, rfl, ?_⟩) | ((with_reducible refine gate_callee (f := 22) rfl ?_); refine goesL_ (some 95) rfl rfl Try.func22 (by kernel_rfl) rfl #[.int .i64 t273, .int .i64 t277] rfl (by (try simp only [List.map_toArray, List.map_cons, List.map_nil]); first | done | rfl | (simp only [List.length_drop, List.length_take]; rfl)) ?_; (with_reducible refine (num_Add.calls t273 t277 t281 t282 _ A23.out).mono ?_); rintro e w' ⟨rfl, ⟨nd, rfl⟩⟩; refine ⟨_, rfl, ?_⟩))
                        go_ret
                        exact ⟨by first | rfl | (simp; done) | (simp [*]; done), by repeat (first | exact Drawn0.refl _ | apply Drawn0.step)⟩
                    · rw [if_neg c24] at H
                      have c24b0 : (t268 == 0) = false := beq_eq_false_iff_ne.mpr c24
                      have c24b1 : (t268 != 0) = true := bne_iff_ne.mpr c24
                      obtain rfl := Option.some.inj H
                      go_wp2_with (first | ((with_reducible refine gate_callee (f := 46) rfl ?_); refine goesL_ (some 83) rfl rfl Try.func46 (by kernel_rfl) rfl #[.int .i64 a1, .int .i64 a2] rfl (by (try simp only [List.map_toArray, List.map_cons, List.map_nil]); first | done | rfl | (simp only [List.length_drop, List.length_take]; rfl)) ?_; (with_reducible refine (num_Mul.calls kj17 a1 a2 t277 t278 _ A21.out).mono ?_); rintro e w' ⟨rfl, ⟨nd, rfl⟩⟩; refine ⟨_, rfl, ?_⟩) | ((with_reducible refine gate_callee (f := 46) rfl ?_); refine goesL_ (some 89) rfl rfl Try.func46 (by kernel_rfl) rfl #[.int .i64 t267, .int .i64 a2] rfl (by (try simp only [List.map_toArray, List.map_cons, List.map_nil]); first | done | rfl | (simp only [List.length_drop, List.length_take]; rfl)) ?_; (with_reducible refine (num_Mul.calls kj17 t267 a2 t279 t280 _ A22.out).mono ?_); rintro e w' ⟨rfl, ⟨nd, rfl⟩⟩; refine ⟨_, rfl, ?_⟩) | ((with_reducible refine gate_callee (f := 22) rfl ?_); refine goesL_ (some 95) rfl rfl Try.func22 (by kernel_rfl) rfl #[.int .i64 t273, .int .i64 t277] rfl (by (try simp only [List.map_toArray, List.map_cons, List.map_nil]); first | done | rfl | (simp only [List.length_drop, List.length_take]; rfl)) ?_; (with_reducible refine (num_Add.calls t273 t277 t281 t282 _ A23.out).mono ?_); rintro e w' ⟨rfl, ⟨nd, rfl⟩⟩; refine ⟨_, rfl, ?_⟩))
                      go_ret
                      exact ⟨by first | rfl | (simp; done) | (simp [*]; done), by repeat (first | exact Drawn0.refl _ | apply Drawn0.step)⟩
  · replace c5 := Bool.eq_false_iff.mpr c5
    subst c5
    have H1 : (some false) = some r := by rw [if_neg (show ¬ (false = true) by decide)] at H; exact H
    clear H
    have H := H1
    clear H1
    exact absurd ((Option.some.inj H).trans HRT.out) Bool.false_ne_true

end Go.Proofs.Ytfccnnlbiniahaa.Q
