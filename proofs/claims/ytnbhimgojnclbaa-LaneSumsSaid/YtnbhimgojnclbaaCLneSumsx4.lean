-- PRINTED by print.py (a twelfth state) out of the translation. Not trusted: Lean checks it.
import Derived.Test.YtnbhimgojnclbaaCLneSumsx0
import Derived.Test.YtnbhimgojnclbaaCLneSumsx2
import Derived.Test.YtnbhimgojnclbaaCLneSumsx3
namespace Go.Proofs.Ytnbhimgojnclbaa.CLneSums
open Go.RowKit Go.Proofs.YtnbhimgojnclbaaW.PrintWords Go.Proofs.YtnbhimgojnclbaaW.PrintLast Go.Proofs.YtnbhimgojnclbaaW.PrintMore
attribute [local go_sem] max2_int min2_int max_two min_two max_three min_three max_four min_four   -- for this text's walks alone
set_option linter.unusedVariables false
set_option linter.unusedSimpArgs false

/-! ### spillwaylaw20_LaneSums: function 9 -/
mutual
def spillwaylaw20_LaneSums.l0 : Nat → List Int → List Int → Int → Int → Int → Int → Int → Int → Int → Int → Int → Int → Option (Bool)
  | 0, _, _, _, _, _, _, _, _, _, _, _, _ => none
  | k + 1, x0, x1, x5, x6, x7, x8, x9, x10, x11, x12, x30, x31 => if x31 < x30 then (if 0 ≤ x31 then (if x31 < (x0.length : Int) then ((spillwayref20_Add.f 16 x9 (wrap64 (rd x0 x31))).bind fun bt141 => (if bt141.2 = true then (spillwaylaw20_LaneSums.l0 k x0 x1 x5 x6 x7 x8 bt141.1 x10 (wrap64 (x11 + 1)) x12 x30 (wrap64 (x31 + 1))) else (spillwaylaw20_LaneSums.l0 k x0 x1 x5 x6 x7 x8 bt141.1 x10 x11 x12 x30 (wrap64 (x31 + 1))))) else (none)) else (none)) else (spillwaylaw20_LaneSums.l1 k x1 x5 x6 x7 x8 x9 x10 x11 x12 (x1.length : Int) 0)
def spillwaylaw20_LaneSums.l1 : Nat → List Int → Int → Int → Int → Int → Int → Int → Int → Int → Int → Int → Option (Bool)
  | 0, _, _, _, _, _, _, _, _, _, _, _ => none
  | k + 1, x1, x5, x6, x7, x8, x9, x10, x11, x12, x50, x51 => if x51 < x50 then (if 0 ≤ x51 then (if x51 < (x1.length : Int) then ((spillwayref20_Add.f 32 x10 (wrap64 (rd x1 x51))).bind fun bt144 => (if bt144.2 = true then (spillwaylaw20_LaneSums.l1 k x1 x5 x6 x7 x8 x9 bt144.1 x11 (wrap64 (x12 + 1)) x50 (wrap64 (x51 + 1))) else (spillwaylaw20_LaneSums.l1 k x1 x5 x6 x7 x8 x9 bt144.1 x11 x12 x50 (wrap64 (x51 + 1))))) else (none)) else (none)) else ((spillwaylaw20_fixed.f k).bind fun t146 => (if t146 = true then (if (wrap64 (x5)) = x9 then (if x6 = x11 then (if (wrap64 (x7)) = x10 then (some (x8 == x12)) else (some false)) else (some false)) else (some false)) else (some false)))
end
def spillwaylaw20_LaneSums.f (k : Nat) (l0 : List Int) (l1 : List Int) : Option (Bool) := (lane_Sum_int16.f k l0).bind fun bt136 => ((lane_Sum_int32.f k l1).bind fun bt138 => (spillwaylaw20_LaneSums.l0 k l0 l1 bt136.1 bt136.2 bt138.1 bt138.2 0 0 0 0 (l0.length : Int) 0))
theorem spillwaylaw20_LaneSums.mono_l : ∀ k, (∀ y0 y1 y2 y3 y4 y5 y6 y7 y8 y9 y10 y11, LeO (spillwaylaw20_LaneSums.l0 k y0 y1 y2 y3 y4 y5 y6 y7 y8 y9 y10 y11) (spillwaylaw20_LaneSums.l0 (k + 1) y0 y1 y2 y3 y4 y5 y6 y7 y8 y9 y10 y11)) ∧ (∀ y0 y1 y2 y3 y4 y5 y6 y7 y8 y9 y10, LeO (spillwaylaw20_LaneSums.l1 k y0 y1 y2 y3 y4 y5 y6 y7 y8 y9 y10) (spillwaylaw20_LaneSums.l1 (k + 1) y0 y1 y2 y3 y4 y5 y6 y7 y8 y9 y10))
  | 0 => ⟨fun _ _ _ _ _ _ _ _ _ _ _ _ r h => by simp [spillwaylaw20_LaneSums.l0] at h, fun _ _ _ _ _ _ _ _ _ _ _ r h => by simp [spillwaylaw20_LaneSums.l1] at h⟩
  | k + 1 => by
    obtain ⟨ih0, ih1⟩ := spillwaylaw20_LaneSums.mono_l k
    refine ⟨?_, ?_⟩
    · intro y0 y1 y2 y3 y4 y5 y6 y7 y8 y9 y10 y11
      unfold spillwaylaw20_LaneSums.l0
      repeat' first
      | (with_reducible exact ih0 _ _ _ _ _ _ _ _ _ _ _ _)
      | (with_reducible exact ih1 _ _ _ _ _ _ _ _ _ _ _)
      | (with_reducible exact lane_Sum_int16.mono _ _)
      | (with_reducible exact lane_Sum_int32.mono _ _)
      | (with_reducible exact spillwaylaw20_fixed.mono _)
      | (with_reducible exact LeO.refl _)
      | (with_reducible exact LeO.none _)
      | (with_reducible refine LeO.ite ?_ ?_)
      | (with_reducible refine LeO.bind ?_ (fun _ => ?_))
      | exact ih0 _ _ _ _ _ _ _ _ _ _ _ _
      | exact ih1 _ _ _ _ _ _ _ _ _ _ _
      | exact lane_Sum_int16.mono _ _
      | exact lane_Sum_int32.mono _ _
      | exact spillwaylaw20_fixed.mono _
      | exact LeO.none _
      | refine LeO.ite ?_ ?_
      | refine LeO.bind ?_ (fun _ => ?_)
    · intro y0 y1 y2 y3 y4 y5 y6 y7 y8 y9 y10
      unfold spillwaylaw20_LaneSums.l1
      repeat' first
      | (with_reducible exact ih0 _ _ _ _ _ _ _ _ _ _ _ _)
      | (with_reducible exact ih1 _ _ _ _ _ _ _ _ _ _ _)
      | (with_reducible exact lane_Sum_int16.mono _ _)
      | (with_reducible exact lane_Sum_int32.mono _ _)
      | (with_reducible exact spillwaylaw20_fixed.mono _)
      | (with_reducible exact LeO.refl _)
      | (with_reducible exact LeO.none _)
      | (with_reducible refine LeO.ite ?_ ?_)
      | (with_reducible refine LeO.bind ?_ (fun _ => ?_))
      | exact ih0 _ _ _ _ _ _ _ _ _ _ _ _
      | exact ih1 _ _ _ _ _ _ _ _ _ _ _
      | exact lane_Sum_int16.mono _ _
      | exact lane_Sum_int32.mono _ _
      | exact spillwaylaw20_fixed.mono _
      | exact LeO.none _
      | refine LeO.ite ?_ ?_
      | refine LeO.bind ?_ (fun _ => ?_)
theorem spillwaylaw20_LaneSums.mono : ∀ a0 a1 k, LeO (spillwaylaw20_LaneSums.f k a0 a1) (spillwaylaw20_LaneSums.f (k + 1) a0 a1) := by
  intro a0 a1 k
  obtain ⟨ih0, ih1⟩ := spillwaylaw20_LaneSums.mono_l k
  unfold spillwaylaw20_LaneSums.f
  repeat' first
      | (with_reducible exact ih0 _ _ _ _ _ _ _ _ _ _ _ _)
      | (with_reducible exact ih1 _ _ _ _ _ _ _ _ _ _ _)
      | (with_reducible exact lane_Sum_int16.mono _ _)
      | (with_reducible exact lane_Sum_int32.mono _ _)
      | (with_reducible exact spillwaylaw20_fixed.mono _)
      | (with_reducible exact LeO.refl _)
      | (with_reducible exact LeO.none _)
      | (with_reducible refine LeO.ite ?_ ?_)
      | (with_reducible refine LeO.bind ?_ (fun _ => ?_))
      | exact ih0 _ _ _ _ _ _ _ _ _ _ _ _
      | exact ih1 _ _ _ _ _ _ _ _ _ _ _
      | exact lane_Sum_int16.mono _ _
      | exact lane_Sum_int32.mono _ _
      | exact spillwaylaw20_fixed.mono _
      | exact LeO.none _
      | refine LeO.ite ?_ ?_
      | refine LeO.bind ?_ (fun _ => ?_)
set_option maxHeartbeats 8000000 in
set_option maxRecDepth 100000 in
theorem spillwaylaw20_LaneSums.calls (k : Nat) (A0 : Option Addr) (c0 : Nat) (l0 : List Int) (A1 : Option Addr) (c1 : Nat) (l1 : List Int) (r : Bool) (w : World) (hr0 : Kd.C (Kd.int .i16) w A0 l0.length l0) (hc0 : l0.length ≤ c0) (hr1 : Kd.C (Kd.int .i32) w A1 l1.length l1) (hc1 : l1.length ≤ c1) (hrt : r = true) (h : spillwaylaw20_LaneSums.f k l0 l1 = some r) :
    Calls Try.prog 9 #[.slice A0 l0.length c0, .slice A1 l1.length c1] w fun e w' => e = .returned (.bool r) ∧ Below w.heap.size w w' := by
  have HR0 := Aside0.mk hr0
  have HC0 := Aside0.mk hc0
  clear hr0 hc0
  have HR1 := Aside0.mk hr1
  have HC1 := Aside0.mk hc1
  clear hr1 hc1
  have HB := Aside0.mk (Below.refl w.heap.size w)
  have H : ((lane_Sum_int16.f k l0).bind fun bt136 => ((lane_Sum_int32.f k l1).bind fun bt138 => (spillwaylaw20_LaneSums.l0 k l0 l1 bt136.1 bt136.2 bt138.1 bt138.2 0 0 0 0 (l0.length : Int) 0))) = some r := h
  clear h
  have HRT := Aside0.mk hrt
  clear hrt
  replace H := Option.bind_eq_some_iff.mp H
  obtain ⟨⟨t136, t137⟩, A30, H⟩ := H
  replace H : ((lane_Sum_int32.f k l1).bind fun bt138 => (spillwaylaw20_LaneSums.l0 k l0 l1 t136 t137 bt138.1 bt138.2 0 0 0 0 (l0.length : Int) 0)) = some r := H
  have A3 := Aside0.mk A30
  clear A30
  replace H := Option.bind_eq_some_iff.mp H
  obtain ⟨⟨t138, t139⟩, A40, H⟩ := H
  replace H : (spillwaylaw20_LaneSums.l0 k l0 l1 t136 t137 t138 t139 0 0 0 0 (l0.length : Int) 0) = some r := H
  have A4 := Aside0.mk A40
  clear A40
  have H' := Aside0.mk H
  clear H
  go_enter Try.func9, Try.ntmps9
  go_wp2_with (first | ((with_reducible refine gate_callee (f := 34) rfl ?_); refine goesL_ (some 21) rfl rfl Try.func34 (by kernel_rfl) rfl #[.slice A0 l0.length c0] rfl (by (try simp only [List.map_toArray, List.map_cons, List.map_nil]); first | done | rfl | (simp only [List.length_drop, List.length_take]; rfl)) ?_; (with_reducible refine (lane_Sum_int16.calls k _ _ l0 t136 t137 _ ?side1 ?side2 A3.out).mono ?_); (case side1 => repeat (first | exact HR0.out | (with_reducible refine Kd.C_alloc ?_ _) | (with_reducible refine Kd.C_drewN ?_ _) | (with_reducible refine Kd.C_drew ?_))); (case side2 => exact HC0.out); rintro e w' ⟨rfl, ⟨nd, rfl⟩⟩; refine ⟨_, rfl, ?_⟩) | ((with_reducible refine gate_callee (f := 35) rfl ?_); refine goesL_ (some 26) rfl rfl Try.func35 (by kernel_rfl) rfl #[.slice A1 l1.length c1] rfl (by (try simp only [List.map_toArray, List.map_cons, List.map_nil]); first | done | rfl | (simp only [List.length_drop, List.length_take]; rfl)) ?_; (with_reducible refine (lane_Sum_int32.calls k _ _ l1 t138 t139 _ ?side1 ?side2 A4.out).mono ?_); (case side1 => repeat (first | exact HR1.out | (with_reducible refine Kd.C_alloc ?_ _) | (with_reducible refine Kd.C_drewN ?_ _) | (with_reducible refine Kd.C_drew ?_))); (case side2 => exact HC1.out); rintro e w' ⟨rfl, ⟨nd, rfl⟩⟩; refine ⟨_, rfl, ?_⟩))
  go_loopg [9, 11, 31] k (fun kq v9 v11 v31 w' => ∃ (x9_1 : Int) (x11_1 : Int) (x31_1 : Int), v9 = .int .i64 x9_1 ∧ v11 = .int .i64 x11_1 ∧ v31 = .int .i64 x31_1 ∧ Aside0 (spillwaylaw20_LaneSums.l0 kq l0 l1 t136 t137 t138 t139 x9_1 0 x11_1 0 (l0.length : Int) x31_1 = some r) ∧ Aside0 (kq ≤ k) ∧ Aside0 (Below w.heap.size w w'))
  case atStart => exact ⟨(0), (0), (0), (by first | rfl | (simp; done) | (simp [*]; done)), (by first | rfl | (simp; done) | (simp [*]; done)), (by first | rfl | (simp; done) | (simp [*]; done)), H', ⟨Nat.le_refl _⟩, ⟨by repeat (first | (with_reducible first | exact HB.out | apply below_alloc | apply pw_below_drewN | apply below_drew1) | exact HB.out)⟩⟩
  case round =>
    clear H'
    try clear c1
    try clear p2
    try clear c3
    obtain ⟨x9_1, x11_1, x31_1, rfl, rfl, rfl, HA, HK1, HB⟩ := hrel
    cases gk with
    | zero => exact absurd HA.out (by simp [spillwaylaw20_LaneSums.l0])
    | succ k1 =>
      have H := HA.out
      clear HA
      simp only [spillwaylaw20_LaneSums.l0] at H
      by_cases c5 : x31_1 < (l0.length : Int)
      · rw [if_pos c5] at H
        have c5b0 : decide (x31_1 < (l0.length : Int)) = true := decide_eq_true c5
        clear c5
        by_cases c6 : 0 ≤ x31_1
        · rw [if_pos c6] at H
          have c6b0 : decide (0 ≤ x31_1) = true := decide_eq_true c6
          clear c6
          by_cases c7 : x31_1 < (l0.length : Int)
          · rw [if_pos c7] at H
            have c7b0 : decide (x31_1 < (l0.length : Int)) = true := decide_eq_true c7
            clear c7
            replace H := Option.bind_eq_some_iff.mp H
            obtain ⟨⟨t141, t142⟩, A80, H⟩ := H
            replace H : (if t142 = true then (spillwaylaw20_LaneSums.l0 k1 l0 l1 t136 t137 t138 t139 t141 0 (wrap64 (x11_1 + 1)) 0 (l0.length : Int) (wrap64 (x31_1 + 1))) else (spillwaylaw20_LaneSums.l0 k1 l0 l1 t136 t137 t138 t139 t141 0 x11_1 0 (l0.length : Int) (wrap64 (x31_1 + 1)))) = some r := H
            have A8 := Aside0.mk A80
            clear A80
            by_cases c9 : t142 = true
            · subst c9
              have H1 : (spillwaylaw20_LaneSums.l0 k1 l0 l1 t136 t137 t138 t139 t141 0 (wrap64 (x11_1 + 1)) 0 (l0.length : Int) (wrap64 (x31_1 + 1))) = some r := by rw [if_pos rfl] at H; exact H
              clear H
              have H := H1
              clear H1
              have H' := Aside0.mk H
              clear H
              have p140 : 0 ≤ (x31_1 : Int) := of_decide_eq_true (by first | (with_reducible assumption) | assumption)
              have q140 : x31_1 < (l0.length : Int) := of_decide_eq_true (by first | (with_reducible assumption) | assumption)
              obtain ⟨ad140, e140, hx140_0⟩ := Kd.at_int HR0.out x31_1 p140 q140
              cases e140
              replace hx140_0 := (HB.out.cell (World.block_lt_of_cell? w _ hx140_0)).trans hx140_0
              replace p140 := eq_true p140
              replace q140 := eq_true q140
              go_wp2_with (first | ((with_reducible refine gate_callee (f := 31) rfl ?_); refine goesL_ (some 41) rfl rfl Try.func31 (by kernel_rfl) rfl #[.int .i64 16, .int .i64 x9_1, .int .i64 (wrap64 (rd l0 x31_1))] rfl (by (try simp only [List.map_toArray, List.map_cons, List.map_nil]); first | done | rfl | (simp only [List.length_drop, List.length_take]; rfl)) ?_; (with_reducible refine (spillwayref20_Add.calls 16 x9_1 (wrap64 (rd l0 x31_1)) t141 true _ A8.out).mono ?_); rintro e w' ⟨rfl, ⟨nd, rfl⟩⟩; refine ⟨_, rfl, ?_⟩))
              go_roundg k1
              case measure => have := HK1.out; omega
              case rel => exact ⟨(t141), (wrap64 (x11_1 + 1)), (wrap64 (x31_1 + 1)), (by first | rfl | (simp; done) | (simp [*]; done)), (by first | rfl | (simp; done) | (simp [*]; done)), (by first | rfl | (simp; done) | (simp [*]; done)), H', ⟨by have := HK1.out; omega⟩, ⟨by repeat (first | (with_reducible first | exact HB.out | apply below_alloc | apply pw_below_drewN | apply below_drew1) | exact HB.out)⟩⟩
            · replace c9 := Bool.eq_false_iff.mpr c9
              subst c9
              have H1 : (spillwaylaw20_LaneSums.l0 k1 l0 l1 t136 t137 t138 t139 t141 0 x11_1 0 (l0.length : Int) (wrap64 (x31_1 + 1))) = some r := by rw [if_neg (show ¬ (false = true) by decide)] at H; exact H
              clear H
              have H := H1
              clear H1
              have H' := Aside0.mk H
              clear H
              have p140 : 0 ≤ (x31_1 : Int) := of_decide_eq_true (by first | (with_reducible assumption) | assumption)
              have q140 : x31_1 < (l0.length : Int) := of_decide_eq_true (by first | (with_reducible assumption) | assumption)
              obtain ⟨ad140, e140, hx140_0⟩ := Kd.at_int HR0.out x31_1 p140 q140
              cases e140
              replace hx140_0 := (HB.out.cell (World.block_lt_of_cell? w _ hx140_0)).trans hx140_0
              replace p140 := eq_true p140
              replace q140 := eq_true q140
              go_wp2_with (first | ((with_reducible refine gate_callee (f := 31) rfl ?_); refine goesL_ (some 41) rfl rfl Try.func31 (by kernel_rfl) rfl #[.int .i64 16, .int .i64 x9_1, .int .i64 (wrap64 (rd l0 x31_1))] rfl (by (try simp only [List.map_toArray, List.map_cons, List.map_nil]); first | done | rfl | (simp only [List.length_drop, List.length_take]; rfl)) ?_; (with_reducible refine (spillwayref20_Add.calls 16 x9_1 (wrap64 (rd l0 x31_1)) t141 false _ A8.out).mono ?_); rintro e w' ⟨rfl, ⟨nd, rfl⟩⟩; refine ⟨_, rfl, ?_⟩))
              go_roundg k1
              case measure => have := HK1.out; omega
              case rel => exact ⟨(t141), (x11_1), (wrap64 (x31_1 + 1)), (by first | rfl | (simp; done) | (simp [*]; done)), (by first | rfl | (simp; done) | (simp [*]; done)), (by first | rfl | (simp; done) | (simp [*]; done)), H', ⟨by have := HK1.out; omega⟩, ⟨by repeat (first | (with_reducible first | exact HB.out | apply below_alloc | apply pw_below_drewN | apply below_drew1) | exact HB.out)⟩⟩
          · rw [if_neg c7] at H
            exact absurd H (by simp)
        · rw [if_neg c6] at H
          exact absurd H (by simp)
      · rw [if_neg c5] at H
        have c5b0 : decide (x31_1 < (l0.length : Int)) = false := decide_eq_false c5
        clear c5
        have H' := Aside0.mk H
        clear H
        go_wp2
        go_loopg [10, 12, 51] k1 (fun kq v10 v12 v51 w' => ∃ (x10_2 : Int) (x12_2 : Int) (x51_2 : Int), v10 = .int .i64 x10_2 ∧ v12 = .int .i64 x12_2 ∧ v51 = .int .i64 x51_2 ∧ Aside0 (spillwaylaw20_LaneSums.l1 kq l1 t136 t137 t138 t139 x9_1 x10_2 x11_1 x12_2 (l1.length : Int) x51_2 = some r) ∧ Aside0 (kq ≤ k1) ∧ Aside0 (Below w.heap.size w w'))
        case atStart => exact ⟨(0), (0), (0), (by first | rfl | (simp; done) | (simp [*]; done)), (by first | rfl | (simp; done) | (simp [*]; done)), (by first | rfl | (simp; done) | (simp [*]; done)), H', ⟨Nat.le_refl _⟩, ⟨by repeat (first | (with_reducible first | exact HB.out | apply below_alloc | apply pw_below_drewN | apply below_drew1) | exact HB.out)⟩⟩
        case round =>
          clear H'
          try clear c1
          try clear p1
          try clear q1
          try clear hx1
          try clear p2
          try clear c3
          try clear c5
          try clear c5b0
          try clear c6
          try clear c6b0
          try clear p6
          try clear c7
          try clear c7b0
          try clear c9
          try clear hx140_0
          try clear p140
          try clear p2
          try clear q140
          obtain ⟨x10_2, x12_2, x51_2, rfl, rfl, rfl, HA, HK2, HB⟩ := hrel
          cases gk with
          | zero => exact absurd HA.out (by simp [spillwaylaw20_LaneSums.l1])
          | succ k2 =>
            have H := HA.out
            clear HA
            simp only [spillwaylaw20_LaneSums.l1] at H
            by_cases c10 : x51_2 < (l1.length : Int)
            · rw [if_pos c10] at H
              have c10b0 : decide (x51_2 < (l1.length : Int)) = true := decide_eq_true c10
              clear c10
              by_cases c11 : 0 ≤ x51_2
              · rw [if_pos c11] at H
                have c11b0 : decide (0 ≤ x51_2) = true := decide_eq_true c11
                clear c11
                by_cases c12 : x51_2 < (l1.length : Int)
                · rw [if_pos c12] at H
                  have c12b0 : decide (x51_2 < (l1.length : Int)) = true := decide_eq_true c12
                  clear c12
                  replace H := Option.bind_eq_some_iff.mp H
                  obtain ⟨⟨t144, t145⟩, A130, H⟩ := H
                  replace H : (if t145 = true then (spillwaylaw20_LaneSums.l1 k2 l1 t136 t137 t138 t139 x9_1 t144 x11_1 (wrap64 (x12_2 + 1)) (l1.length : Int) (wrap64 (x51_2 + 1))) else (spillwaylaw20_LaneSums.l1 k2 l1 t136 t137 t138 t139 x9_1 t144 x11_1 x12_2 (l1.length : Int) (wrap64 (x51_2 + 1)))) = some r := H
                  have A13 := Aside0.mk A130
                  clear A130
                  by_cases c14 : t145 = true
                  · subst c14
                    have H1 : (spillwaylaw20_LaneSums.l1 k2 l1 t136 t137 t138 t139 x9_1 t144 x11_1 (wrap64 (x12_2 + 1)) (l1.length : Int) (wrap64 (x51_2 + 1))) = some r := by rw [if_pos rfl] at H; exact H
                    clear H
                    have H := H1
                    clear H1
                    have H' := Aside0.mk H
                    clear H
                    have p143 : 0 ≤ (x51_2 : Int) := of_decide_eq_true (by first | (with_reducible assumption) | assumption)
                    have q143 : x51_2 < (l1.length : Int) := of_decide_eq_true (by first | (with_reducible assumption) | assumption)
                    obtain ⟨ad143, e143, hx143_0⟩ := Kd.at_int HR1.out x51_2 p143 q143
                    cases e143
                    replace hx143_0 := (HB.out.cell (World.block_lt_of_cell? w _ hx143_0)).trans hx143_0
                    replace p143 := eq_true p143
                    replace q143 := eq_true q143
                    go_wp2_with (first | ((with_reducible refine gate_callee (f := 31) rfl ?_); refine goesL_ (some 61) rfl rfl Try.func31 (by kernel_rfl) rfl #[.int .i64 32, .int .i64 x10_2, .int .i64 (wrap64 (rd l1 x51_2))] rfl (by (try simp only [List.map_toArray, List.map_cons, List.map_nil]); first | done | rfl | (simp only [List.length_drop, List.length_take]; rfl)) ?_; (with_reducible refine (spillwayref20_Add.calls 32 x10_2 (wrap64 (rd l1 x51_2)) t144 true _ A13.out).mono ?_); rintro e w' ⟨rfl, ⟨nd, rfl⟩⟩; refine ⟨_, rfl, ?_⟩))
                    go_roundg k2
                    case measure => have := HK1.out; have := HK2.out; omega
                    case rel => exact ⟨(t144), (wrap64 (x12_2 + 1)), (wrap64 (x51_2 + 1)), (by first | rfl | (simp; done) | (simp [*]; done)), (by first | rfl | (simp; done) | (simp [*]; done)), (by first | rfl | (simp; done) | (simp [*]; done)), H', ⟨by have := HK1.out; have := HK2.out; omega⟩, ⟨by repeat (first | (with_reducible first | exact HB.out | apply below_alloc | apply pw_below_drewN | apply below_drew1) | exact HB.out)⟩⟩
                  · replace c14 := Bool.eq_false_iff.mpr c14
                    subst c14
                    have H1 : (spillwaylaw20_LaneSums.l1 k2 l1 t136 t137 t138 t139 x9_1 t144 x11_1 x12_2 (l1.length : Int) (wrap64 (x51_2 + 1))) = some r := by rw [if_neg (show ¬ (false = true) by decide)] at H; exact H
                    clear H
                    have H := H1
                    clear H1
                    have H' := Aside0.mk H
                    clear H
                    have p143 : 0 ≤ (x51_2 : Int) := of_decide_eq_true (by first | (with_reducible assumption) | assumption)
                    have q143 : x51_2 < (l1.length : Int) := of_decide_eq_true (by first | (with_reducible assumption) | assumption)
                    obtain ⟨ad143, e143, hx143_0⟩ := Kd.at_int HR1.out x51_2 p143 q143
                    cases e143
                    replace hx143_0 := (HB.out.cell (World.block_lt_of_cell? w _ hx143_0)).trans hx143_0
                    replace p143 := eq_true p143
                    replace q143 := eq_true q143
                    go_wp2_with (first | ((with_reducible refine gate_callee (f := 31) rfl ?_); refine goesL_ (some 61) rfl rfl Try.func31 (by kernel_rfl) rfl #[.int .i64 32, .int .i64 x10_2, .int .i64 (wrap64 (rd l1 x51_2))] rfl (by (try simp only [List.map_toArray, List.map_cons, List.map_nil]); first | done | rfl | (simp only [List.length_drop, List.length_take]; rfl)) ?_; (with_reducible refine (spillwayref20_Add.calls 32 x10_2 (wrap64 (rd l1 x51_2)) t144 false _ A13.out).mono ?_); rintro e w' ⟨rfl, ⟨nd, rfl⟩⟩; refine ⟨_, rfl, ?_⟩))
                    go_roundg k2
                    case measure => have := HK1.out; have := HK2.out; omega
                    case rel => exact ⟨(t144), (x12_2), (wrap64 (x51_2 + 1)), (by first | rfl | (simp; done) | (simp [*]; done)), (by first | rfl | (simp; done) | (simp [*]; done)), (by first | rfl | (simp; done) | (simp [*]; done)), H', ⟨by have := HK1.out; have := HK2.out; omega⟩, ⟨by repeat (first | (with_reducible first | exact HB.out | apply below_alloc | apply pw_below_drewN | apply below_drew1) | exact HB.out)⟩⟩
                · rw [if_neg c12] at H
                  exact absurd H (by simp)
              · rw [if_neg c11] at H
                exact absurd H (by simp)
            · rw [if_neg c10] at H
              have c10b0 : decide (x51_2 < (l1.length : Int)) = false := decide_eq_false c10
              clear c10
              replace H := Option.bind_eq_some_iff.mp H
              obtain ⟨t146, A150, H⟩ := H
              replace H : (if t146 = true then (if (wrap64 (t136)) = x9_1 then (if t137 = x11_1 then (if (wrap64 (t138)) = x10_2 then (some (t139 == x12_2)) else (some false)) else (some false)) else (some false)) else (some false)) = some r := H
              have A15 := Aside0.mk A150
              clear A150
              by_cases c16 : t146 = true
              · subst c16
                have H1 : (if (wrap64 (t136)) = x9_1 then (if t137 = x11_1 then (if (wrap64 (t138)) = x10_2 then (some (t139 == x12_2)) else (some false)) else (some false)) else (some false)) = some r := by rw [if_pos rfl] at H; exact H
                clear H
                have H := H1
                clear H1
                by_cases c17 : (wrap64 (t136)) = x9_1
                · rw [if_pos c17] at H
                  have c17b0 : ((wrap64 (t136)) == x9_1) = true := beq_iff_eq.mpr c17
                  have c17b1 : ((wrap64 (t136)) != x9_1) = false := bne_eq_false_iff_eq.mpr c17
                  clear c17
                  by_cases c18 : t137 = x11_1
                  · rw [if_pos c18] at H
                    have c18b0 : (t137 == x11_1) = true := beq_iff_eq.mpr c18
                    have c18b1 : (t137 != x11_1) = false := bne_eq_false_iff_eq.mpr c18
                    clear c18
                    by_cases c19 : (wrap64 (t138)) = x10_2
                    · rw [if_pos c19] at H
                      have c19b0 : ((wrap64 (t138)) == x10_2) = true := beq_iff_eq.mpr c19
                      have c19b1 : ((wrap64 (t138)) != x10_2) = false := bne_eq_false_iff_eq.mpr c19
                      clear c19
                      obtain rfl := Option.some.inj H
                      go_wp2_with (first | ((with_reducible refine gate_callee (f := 33) rfl ?_); refine goesL_ (some 69) rfl rfl Try.func33 (by kernel_rfl) rfl #[] rfl (by (try simp only [List.map_toArray, List.map_cons, List.map_nil]); first | done | rfl | (simp only [List.length_drop, List.length_take]; rfl)) ?_; (with_reducible refine (spillwaylaw20_fixed.calls k2  true _ A15.out).mono ?_); rintro e w20 ⟨rfl, hb⟩; refine ⟨_, rfl, ?_⟩; have n0_ := Aside0.mk (below_step (by repeat (first | (with_reducible first | exact HB.out | apply below_alloc | apply pw_below_drewN | apply below_drew1) | exact HB.out)) hb); clear HB; have HB := n0_; clear n0_; (try clear hb); (try clear hb2); (try clear hk); (try clear hi)))
                      go_ret
                      exact ⟨by first | rfl | (simp [errW_none, errW_some] <;> rfl) | (simp [*, errW_none, errW_some] <;> rfl), by repeat (first | (with_reducible first | exact HB.out | apply below_alloc | apply pw_below_drewN | apply below_drew1) | exact HB.out)⟩
                    · rw [if_neg c19] at H
                      have c19b0 : ((wrap64 (t138)) == x10_2) = false := beq_eq_false_iff_ne.mpr c19
                      have c19b1 : ((wrap64 (t138)) != x10_2) = true := bne_iff_ne.mpr c19
                      exact absurd ((Option.some.inj H).trans HRT.out) Bool.false_ne_true
                  · rw [if_neg c18] at H
                    have c18b0 : (t137 == x11_1) = false := beq_eq_false_iff_ne.mpr c18
                    have c18b1 : (t137 != x11_1) = true := bne_iff_ne.mpr c18
                    exact absurd ((Option.some.inj H).trans HRT.out) Bool.false_ne_true
                · rw [if_neg c17] at H
                  have c17b0 : ((wrap64 (t136)) == x9_1) = false := beq_eq_false_iff_ne.mpr c17
                  have c17b1 : ((wrap64 (t136)) != x9_1) = true := bne_iff_ne.mpr c17
                  exact absurd ((Option.some.inj H).trans HRT.out) Bool.false_ne_true
              · replace c16 := Bool.eq_false_iff.mpr c16
                subst c16
                have H1 : (some false) = some r := by rw [if_neg (show ¬ (false = true) by decide)] at H; exact H
                clear H
                have H := H1
                clear H1
                exact absurd ((Option.some.inj H).trans HRT.out) Bool.false_ne_true

end Go.Proofs.Ytnbhimgojnclbaa.CLneSums
