-- PRINTED by print.py (a twelfth state) out of the translation. Not trusted: Lean checks it.
import Derived.Test.YtnbhimgojnclbaaCWwPlainx0
import Derived.Test.YtnbhimgojnclbaaCWwPlainx1
namespace Go.Proofs.Ytnbhimgojnclbaa.CWwPlain
open Go.RowKit Go.Proofs.YtnbhimgojnclbaaW.PrintWords Go.Proofs.YtnbhimgojnclbaaW.PrintLast Go.Proofs.YtnbhimgojnclbaaW.PrintMore
attribute [local go_sem] max2_int min2_int max_two min_two max_three min_three max_four min_four   -- for this text's walks alone
set_option linter.unusedVariables false
set_option linter.unusedSimpArgs false

/-! ### spillwaylaw06_fixed: function 16 -/
def spillwaylaw06_fixed.f (k : Nat)  : Option (Bool) := (window_Out.f 4 4 1 3 3 1 1 1 1 1 1).bind fun bt115 => ((spillwaylaw06_pairs.f 2 2 1 2 2 1 1 1 1 0 0 0 9).bind fun bt118 => (if bt115.1 = 4 then (if bt115.2.1 = 4 then (if bt115.2.2 = 0 then (if bt118.2 = true then ((spillwaylaw06_same.f k bt118.1 (([0, (-1), 1, (-1), 2, (-1), 3, 0] : List Int))).bind fun t125 => (some t125)) else (some false)) else (some false)) else (some false)) else (some false)))
theorem spillwaylaw06_fixed.mono : ∀ k, LeO (spillwaylaw06_fixed.f k ) (spillwaylaw06_fixed.f (k + 1) ) := by
  intro  k
  unfold spillwaylaw06_fixed.f
  repeat' first
      | (with_reducible exact spillwaylaw06_same.mono _ _ _)
      | (with_reducible exact LeO.refl _)
      | (with_reducible exact LeO.none _)
      | (with_reducible refine LeO.ite ?_ ?_)
      | (with_reducible refine LeO.bind ?_ (fun _ => ?_))
      | exact spillwaylaw06_same.mono _ _ _
      | exact LeO.none _
      | refine LeO.ite ?_ ?_
      | refine LeO.bind ?_ (fun _ => ?_)
set_option maxHeartbeats 8000000 in
set_option maxRecDepth 100000 in
theorem spillwaylaw06_fixed.calls (k : Nat)  (r : Bool) (w : World) (h : spillwaylaw06_fixed.f k  = some r) :
    Calls Try.prog 16 #[] w fun e w' => e = .returned (.bool r) ∧ Below w.heap.size w w' := by
  have hu23 := Try.underlying23
  have hu25 := Try.underlying25
  have HB := Aside0.mk (Below.refl w.heap.size w)
  have H : ((window_Out.f 4 4 1 3 3 1 1 1 1 1 1).bind fun bt115 => ((spillwaylaw06_pairs.f 2 2 1 2 2 1 1 1 1 0 0 0 9).bind fun bt118 => (if bt115.1 = 4 then (if bt115.2.1 = 4 then (if bt115.2.2 = 0 then (if bt118.2 = true then ((spillwaylaw06_same.f k bt118.1 (([0, (-1), 1, (-1), 2, (-1), 3, 0] : List Int))).bind fun t125 => (some t125)) else (some false)) else (some false)) else (some false)) else (some false)))) = some r := h
  clear h
  replace H := Option.bind_eq_some_iff.mp H
  obtain ⟨⟨t115, t116, t117⟩, A10, H⟩ := H
  replace H : ((spillwaylaw06_pairs.f 2 2 1 2 2 1 1 1 1 0 0 0 9).bind fun bt118 => (if t115 = 4 then (if t116 = 4 then (if t117 = 0 then (if bt118.2 = true then ((spillwaylaw06_same.f k bt118.1 (([0, (-1), 1, (-1), 2, (-1), 3, 0] : List Int))).bind fun t125 => (some t125)) else (some false)) else (some false)) else (some false)) else (some false))) = some r := H
  have A1 := Aside0.mk A10
  clear A10
  replace H := Option.bind_eq_some_iff.mp H
  obtain ⟨⟨t118, t121⟩, A20, H⟩ := H
  replace H : (if t115 = 4 then (if t116 = 4 then (if t117 = 0 then (if t121 = true then ((spillwaylaw06_same.f k t118 (([0, (-1), 1, (-1), 2, (-1), 3, 0] : List Int))).bind fun t125 => (some t125)) else (some false)) else (some false)) else (some false)) else (some false)) = some r := H
  have A2 := Aside0.mk A20
  clear A20
  by_cases c3 : t115 = 4
  · rw [if_pos c3] at H
    have c3b0 : (t115 == 4) = true := beq_iff_eq.mpr c3
    have c3b1 : (t115 != 4) = false := bne_eq_false_iff_eq.mpr c3
    clear c3
    by_cases c4 : t116 = 4
    · rw [if_pos c4] at H
      have c4b0 : (t116 == 4) = true := beq_iff_eq.mpr c4
      have c4b1 : (t116 != 4) = false := bne_eq_false_iff_eq.mpr c4
      clear c4
      by_cases c5 : t117 = 0
      · rw [if_pos c5] at H
        have c5b0 : (t117 == 0) = true := beq_iff_eq.mpr c5
        have c5b1 : (t117 != 0) = false := bne_eq_false_iff_eq.mpr c5
        clear c5
        by_cases c6 : t121 = true
        · subst c6
          have H1 : ((spillwaylaw06_same.f k t118 (([0, (-1), 1, (-1), 2, (-1), 3, 0] : List Int))).bind fun t125 => (some t125)) = some r := by rw [if_pos rfl] at H; exact H
          clear H
          have H := H1
          clear H1
          obtain ⟨y122, hy122⟩ : ∃ y_ : List Int, y_ = (([0, (-1), 1, (-1), 2, (-1), 3, 0] : List Int)) := ⟨_, rfl⟩
          replace H : ((spillwaylaw06_same.f k t118 y122).bind fun t125 => (some t125)) = some r := by first | (rw [hy122]; with_reducible exact H) | (have H2_ := (Option.bind_some _ _).symm.trans H; rw [hy122]; with_reducible exact H2_) | (have H2_ := (Option.bind_some _ _).symm.trans H; with_reducible exact H2_) | with_reducible exact H | (rw [hy122]; exact H) | exact H
          have Ny122 := Aside0.mk hy122
          clear hy122
          replace H := Option.bind_eq_some_iff.mp H
          obtain ⟨t125, A70, H⟩ := H
          replace H : (some t125) = some r := H
          have A7 := Aside0.mk A70
          clear A70
          obtain rfl := Option.some.inj H
          go_enter Try.func16, Try.ntmps16
          go_wp2_with (first | ((with_reducible refine gate_callee (f := 14) rfl ?_); refine goesL_ (some 9) rfl rfl Try.func14 (by kernel_rfl) rfl #[.agg #[.int .i64 4, .int .i64 4, .int .i64 1], .agg #[.int .i64 3, .int .i64 3, .int .i64 1, .int .i64 1, .int .i64 1, .int .i64 1, .int .i64 1, .int .i64 1]] rfl (by (try simp only [List.map_toArray, List.map_cons, List.map_nil]); first | done | rfl | (simp only [List.length_drop, List.length_take]; rfl)) ?_; (with_reducible refine (window_Out.calls 4 4 1 3 3 1 1 1 1 1 1 t115 t116 t117 _ A1.out).mono ?_); rintro e w8 ⟨rfl, hb⟩; refine ⟨_, rfl, ?_⟩; have n0_ := Aside0.mk (below_step (by repeat (first | (with_reducible first | exact HB.out | apply below_alloc | apply pw_below_drewN | apply below_drew1) | exact HB.out)) hb); clear HB; have HB := n0_; clear n0_; (try clear hb); (try clear hb2); (try clear hk); (try clear hi)) | ((with_reducible refine gate_callee (f := 22) rfl ?_); refine goesL_ (some 16) rfl rfl Try.func22 (by kernel_rfl) rfl #[.agg #[.int .i64 2, .int .i64 2, .int .i64 1], .agg #[.int .i64 2, .int .i64 2, .int .i64 1, .int .i64 1, .int .i64 1, .int .i64 1, .int .i64 0, .int .i64 0], .int .i64 0, .int .i64 9] rfl (by (try simp only [List.map_toArray, List.map_cons, List.map_nil]); first | done | rfl | (simp only [List.length_drop, List.length_take]; rfl)) ?_; (with_reducible refine (spillwaylaw06_pairs.calls 2 2 1 2 2 1 1 1 1 0 0 0 9 t118 true _ A2.out).mono ?_); rintro e w9 ⟨v119, rfl, ho0, hb⟩; refine ⟨_, rfl, ?_⟩; have n0_ := Aside0.mk (Kd.R_lower ho0 (below_size (by repeat (first | (with_reducible first | exact HB.out | apply below_alloc | apply pw_below_drewN | apply below_drew1) | exact HB.out)))); have n1_ := Aside0.mk (below_step (by repeat (first | (with_reducible first | exact HB.out | apply below_alloc | apply pw_below_drewN | apply below_drew1) | exact HB.out)) hb); clear HB; have HO120 := n0_; have HB := n1_; clear n0_ n1_; (try clear hb); (try clear hb2); (try clear hk); (try clear hi); (try clear ho0)) | ((with_reducible refine gate_dst (N := 34) rfl ?_); (try (refine gate_guard (by rfl) ?_; dsimp only)); refine Kd.R_lit (Kd.int .i64) _ 3 ?hg (N := 34) ?hd (xs := ([0, (-1), 1, (-1), 2, (-1), 3, 0] : List Int)) (inner := [.int .i64 0, .int .i64 (-1), .int .i64 1, .int .i64 (-1), .int .i64 2, .int .i64 (-1), .int .i64 3, .int .i64 0]) (ok := fun _ => True) (okp := fun _ => True) ?hr ?hp (fun _ hk => hk) trivial (Below.refl _ _) (Nat.le_refl _) (by simp) ?_; (case hd => rfl); (case hg => rfl); (case hr => first | (go_simp; done) | (go_simp; rfl)); (case hp => exact (Reps.one (show Kd.M (Kd.int .i64) _ _ _ 0 [.int .i64 0] from rfl) (Reps.one (show Kd.M (Kd.int .i64) _ _ _ (-1) [.int .i64 (-1)] from rfl) (Reps.one (show Kd.M (Kd.int .i64) _ _ _ 1 [.int .i64 1] from rfl) (Reps.one (show Kd.M (Kd.int .i64) _ _ _ (-1) [.int .i64 (-1)] from rfl) (Reps.one (show Kd.M (Kd.int .i64) _ _ _ 2 [.int .i64 2] from rfl) (Reps.one (show Kd.M (Kd.int .i64) _ _ _ (-1) [.int .i64 (-1)] from rfl) (Reps.one (show Kd.M (Kd.int .i64) _ _ _ 3 [.int .i64 3] from rfl) (Reps.one (show Kd.M (Kd.int .i64) _ _ _ 0 [.int .i64 0] from rfl) (Reps.none _ _)))))))))); intro v123 w10 ho11 hb hg_ hnew_; clear hg_ hnew_; (first | rw [← Ny122.out] at ho11 | (simp only [Int.reduceToNat] at ho11; rw [← Ny122.out] at ho11)); have n0_ := Aside0.mk (Kd.R_elder' (by (with_reducible repeat (first | apply Kd.R_alloc | apply Kd.R_drewN | apply Kd.R_drew)); exact HO120.out) (Kd.R_base ho11) hb); have n1_ := Aside0.mk (Kd.R_lower (Kd.R_new' ho11 (Kd.R_lt (by (with_reducible repeat (first | apply Kd.R_alloc | apply Kd.R_drewN | apply Kd.R_drew)); exact HO120.out))) (below_size (by repeat (first | (with_reducible first | exact HB.out | apply below_alloc | apply pw_below_drewN | apply below_drew1) | exact HB.out)))); have n2_ := Aside0.mk (below_step (by repeat (first | (with_reducible first | exact HB.out | apply below_alloc | apply pw_below_drewN | apply below_drew1) | exact HB.out)) hb); clear HO120; clear HB; have HO120 := n0_; have HO124 := n1_; have HB := n2_; clear n0_ n1_ n2_; clear hb ho11; obtain ⟨Ao12, co12, eo12⟩ := Kd.R_slice HO120.out; subst eo12; obtain ⟨Ao13, co13, eo13⟩ := Kd.R_slice HO124.out; subst eo13) | (go_at_call 23; (with_reducible refine (spillwaylaw06_same.calls k _ _ t118 _ _ y122 t125 _ ?side1 ?side2 ?side3 ?side4 A7.out).mono ?_); (case side1 => repeat (first | exact (Kd.R_reads' HO120.out).2.2 | (with_reducible refine Kd.C_alloc ?_ _) | (with_reducible refine Kd.C_drewN ?_ _) | (with_reducible refine Kd.C_drew ?_))); (case side2 => exact (Kd.R_reads' HO120.out).2.1); (case side3 => repeat (first | exact (Kd.R_reads' HO124.out).2.2 | (with_reducible refine Kd.C_alloc ?_ _) | (with_reducible refine Kd.C_drewN ?_ _) | (with_reducible refine Kd.C_drew ?_))); (case side4 => exact (Kd.R_reads' HO124.out).2.1); rintro e w' ⟨rfl, ⟨nd, rfl⟩⟩))
          go_ret
          exact ⟨by first | rfl | (simp [errW_none, errW_some] <;> rfl) | (simp [*, errW_none, errW_some] <;> rfl), by repeat (first | (with_reducible first | exact HB.out | apply below_alloc | apply pw_below_drewN | apply below_drew1) | exact HB.out)⟩
        · replace c6 := Bool.eq_false_iff.mpr c6
          subst c6
          have H1 : (some false) = some r := by rw [if_neg (show ¬ (false = true) by decide)] at H; exact H
          clear H
          have H := H1
          clear H1
          obtain rfl := Option.some.inj H
          go_enter Try.func16, Try.ntmps16
          go_wp2_with (first | ((with_reducible refine gate_callee (f := 14) rfl ?_); refine goesL_ (some 9) rfl rfl Try.func14 (by kernel_rfl) rfl #[.agg #[.int .i64 4, .int .i64 4, .int .i64 1], .agg #[.int .i64 3, .int .i64 3, .int .i64 1, .int .i64 1, .int .i64 1, .int .i64 1, .int .i64 1, .int .i64 1]] rfl (by (try simp only [List.map_toArray, List.map_cons, List.map_nil]); first | done | rfl | (simp only [List.length_drop, List.length_take]; rfl)) ?_; (with_reducible refine (window_Out.calls 4 4 1 3 3 1 1 1 1 1 1 t115 t116 t117 _ A1.out).mono ?_); rintro e w14 ⟨rfl, hb⟩; refine ⟨_, rfl, ?_⟩; have n0_ := Aside0.mk (below_step (by repeat (first | (with_reducible first | exact HB.out | apply below_alloc | apply pw_below_drewN | apply below_drew1) | exact HB.out)) hb); clear HB; have HB := n0_; clear n0_; (try clear hb); (try clear hb2); (try clear hk); (try clear hi)) | ((with_reducible refine gate_callee (f := 22) rfl ?_); refine goesL_ (some 16) rfl rfl Try.func22 (by kernel_rfl) rfl #[.agg #[.int .i64 2, .int .i64 2, .int .i64 1], .agg #[.int .i64 2, .int .i64 2, .int .i64 1, .int .i64 1, .int .i64 1, .int .i64 1, .int .i64 0, .int .i64 0], .int .i64 0, .int .i64 9] rfl (by (try simp only [List.map_toArray, List.map_cons, List.map_nil]); first | done | rfl | (simp only [List.length_drop, List.length_take]; rfl)) ?_; (with_reducible refine (spillwaylaw06_pairs.calls 2 2 1 2 2 1 1 1 1 0 0 0 9 t118 false _ A2.out).mono ?_); rintro e w15 ⟨v119, rfl, ho0, hb⟩; refine ⟨_, rfl, ?_⟩; have n0_ := Aside0.mk (Kd.R_lower ho0 (below_size (by repeat (first | (with_reducible first | exact HB.out | apply below_alloc | apply pw_below_drewN | apply below_drew1) | exact HB.out)))); have n1_ := Aside0.mk (below_step (by repeat (first | (with_reducible first | exact HB.out | apply below_alloc | apply pw_below_drewN | apply below_drew1) | exact HB.out)) hb); clear HB; have HO120 := n0_; have HB := n1_; clear n0_ n1_; (try clear hb); (try clear hb2); (try clear hk); (try clear hi); (try clear ho0)))
          go_ret
          exact ⟨by first | rfl | (simp [errW_none, errW_some] <;> rfl) | (simp [*, errW_none, errW_some] <;> rfl), by repeat (first | (with_reducible first | exact HB.out | apply below_alloc | apply pw_below_drewN | apply below_drew1) | exact HB.out)⟩
      · rw [if_neg c5] at H
        have c5b0 : (t117 == 0) = false := beq_eq_false_iff_ne.mpr c5
        have c5b1 : (t117 != 0) = true := bne_iff_ne.mpr c5
        obtain rfl := Option.some.inj H
        go_enter Try.func16, Try.ntmps16
        go_wp2_with (first | ((with_reducible refine gate_callee (f := 14) rfl ?_); refine goesL_ (some 9) rfl rfl Try.func14 (by kernel_rfl) rfl #[.agg #[.int .i64 4, .int .i64 4, .int .i64 1], .agg #[.int .i64 3, .int .i64 3, .int .i64 1, .int .i64 1, .int .i64 1, .int .i64 1, .int .i64 1, .int .i64 1]] rfl (by (try simp only [List.map_toArray, List.map_cons, List.map_nil]); first | done | rfl | (simp only [List.length_drop, List.length_take]; rfl)) ?_; (with_reducible refine (window_Out.calls 4 4 1 3 3 1 1 1 1 1 1 t115 t116 t117 _ A1.out).mono ?_); rintro e w16 ⟨rfl, hb⟩; refine ⟨_, rfl, ?_⟩; have n0_ := Aside0.mk (below_step (by repeat (first | (with_reducible first | exact HB.out | apply below_alloc | apply pw_below_drewN | apply below_drew1) | exact HB.out)) hb); clear HB; have HB := n0_; clear n0_; (try clear hb); (try clear hb2); (try clear hk); (try clear hi)) | ((with_reducible refine gate_callee (f := 22) rfl ?_); refine goesL_ (some 16) rfl rfl Try.func22 (by kernel_rfl) rfl #[.agg #[.int .i64 2, .int .i64 2, .int .i64 1], .agg #[.int .i64 2, .int .i64 2, .int .i64 1, .int .i64 1, .int .i64 1, .int .i64 1, .int .i64 0, .int .i64 0], .int .i64 0, .int .i64 9] rfl (by (try simp only [List.map_toArray, List.map_cons, List.map_nil]); first | done | rfl | (simp only [List.length_drop, List.length_take]; rfl)) ?_; (with_reducible refine (spillwaylaw06_pairs.calls 2 2 1 2 2 1 1 1 1 0 0 0 9 t118 t121 _ A2.out).mono ?_); rintro e w17 ⟨v119, rfl, ho0, hb⟩; refine ⟨_, rfl, ?_⟩; have n0_ := Aside0.mk (Kd.R_lower ho0 (below_size (by repeat (first | (with_reducible first | exact HB.out | apply below_alloc | apply pw_below_drewN | apply below_drew1) | exact HB.out)))); have n1_ := Aside0.mk (below_step (by repeat (first | (with_reducible first | exact HB.out | apply below_alloc | apply pw_below_drewN | apply below_drew1) | exact HB.out)) hb); clear HB; have HO120 := n0_; have HB := n1_; clear n0_ n1_; (try clear hb); (try clear hb2); (try clear hk); (try clear hi); (try clear ho0)))
        go_ret
        exact ⟨by first | rfl | (simp [errW_none, errW_some] <;> rfl) | (simp [*, errW_none, errW_some] <;> rfl), by repeat (first | (with_reducible first | exact HB.out | apply below_alloc | apply pw_below_drewN | apply below_drew1) | exact HB.out)⟩
    · rw [if_neg c4] at H
      have c4b0 : (t116 == 4) = false := beq_eq_false_iff_ne.mpr c4
      have c4b1 : (t116 != 4) = true := bne_iff_ne.mpr c4
      obtain rfl := Option.some.inj H
      go_enter Try.func16, Try.ntmps16
      go_wp2_with (first | ((with_reducible refine gate_callee (f := 14) rfl ?_); refine goesL_ (some 9) rfl rfl Try.func14 (by kernel_rfl) rfl #[.agg #[.int .i64 4, .int .i64 4, .int .i64 1], .agg #[.int .i64 3, .int .i64 3, .int .i64 1, .int .i64 1, .int .i64 1, .int .i64 1, .int .i64 1, .int .i64 1]] rfl (by (try simp only [List.map_toArray, List.map_cons, List.map_nil]); first | done | rfl | (simp only [List.length_drop, List.length_take]; rfl)) ?_; (with_reducible refine (window_Out.calls 4 4 1 3 3 1 1 1 1 1 1 t115 t116 t117 _ A1.out).mono ?_); rintro e w18 ⟨rfl, hb⟩; refine ⟨_, rfl, ?_⟩; have n0_ := Aside0.mk (below_step (by repeat (first | (with_reducible first | exact HB.out | apply below_alloc | apply pw_below_drewN | apply below_drew1) | exact HB.out)) hb); clear HB; have HB := n0_; clear n0_; (try clear hb); (try clear hb2); (try clear hk); (try clear hi)) | ((with_reducible refine gate_callee (f := 22) rfl ?_); refine goesL_ (some 16) rfl rfl Try.func22 (by kernel_rfl) rfl #[.agg #[.int .i64 2, .int .i64 2, .int .i64 1], .agg #[.int .i64 2, .int .i64 2, .int .i64 1, .int .i64 1, .int .i64 1, .int .i64 1, .int .i64 0, .int .i64 0], .int .i64 0, .int .i64 9] rfl (by (try simp only [List.map_toArray, List.map_cons, List.map_nil]); first | done | rfl | (simp only [List.length_drop, List.length_take]; rfl)) ?_; (with_reducible refine (spillwaylaw06_pairs.calls 2 2 1 2 2 1 1 1 1 0 0 0 9 t118 t121 _ A2.out).mono ?_); rintro e w19 ⟨v119, rfl, ho0, hb⟩; refine ⟨_, rfl, ?_⟩; have n0_ := Aside0.mk (Kd.R_lower ho0 (below_size (by repeat (first | (with_reducible first | exact HB.out | apply below_alloc | apply pw_below_drewN | apply below_drew1) | exact HB.out)))); have n1_ := Aside0.mk (below_step (by repeat (first | (with_reducible first | exact HB.out | apply below_alloc | apply pw_below_drewN | apply below_drew1) | exact HB.out)) hb); clear HB; have HO120 := n0_; have HB := n1_; clear n0_ n1_; (try clear hb); (try clear hb2); (try clear hk); (try clear hi); (try clear ho0)))
      go_ret
      exact ⟨by first | rfl | (simp [errW_none, errW_some] <;> rfl) | (simp [*, errW_none, errW_some] <;> rfl), by repeat (first | (with_reducible first | exact HB.out | apply below_alloc | apply pw_below_drewN | apply below_drew1) | exact HB.out)⟩
  · rw [if_neg c3] at H
    have c3b0 : (t115 == 4) = false := beq_eq_false_iff_ne.mpr c3
    have c3b1 : (t115 != 4) = true := bne_iff_ne.mpr c3
    obtain rfl := Option.some.inj H
    go_enter Try.func16, Try.ntmps16
    go_wp2_with (first | ((with_reducible refine gate_callee (f := 14) rfl ?_); refine goesL_ (some 9) rfl rfl Try.func14 (by kernel_rfl) rfl #[.agg #[.int .i64 4, .int .i64 4, .int .i64 1], .agg #[.int .i64 3, .int .i64 3, .int .i64 1, .int .i64 1, .int .i64 1, .int .i64 1, .int .i64 1, .int .i64 1]] rfl (by (try simp only [List.map_toArray, List.map_cons, List.map_nil]); first | done | rfl | (simp only [List.length_drop, List.length_take]; rfl)) ?_; (with_reducible refine (window_Out.calls 4 4 1 3 3 1 1 1 1 1 1 t115 t116 t117 _ A1.out).mono ?_); rintro e w20 ⟨rfl, hb⟩; refine ⟨_, rfl, ?_⟩; have n0_ := Aside0.mk (below_step (by repeat (first | (with_reducible first | exact HB.out | apply below_alloc | apply pw_below_drewN | apply below_drew1) | exact HB.out)) hb); clear HB; have HB := n0_; clear n0_; (try clear hb); (try clear hb2); (try clear hk); (try clear hi)) | ((with_reducible refine gate_callee (f := 22) rfl ?_); refine goesL_ (some 16) rfl rfl Try.func22 (by kernel_rfl) rfl #[.agg #[.int .i64 2, .int .i64 2, .int .i64 1], .agg #[.int .i64 2, .int .i64 2, .int .i64 1, .int .i64 1, .int .i64 1, .int .i64 1, .int .i64 0, .int .i64 0], .int .i64 0, .int .i64 9] rfl (by (try simp only [List.map_toArray, List.map_cons, List.map_nil]); first | done | rfl | (simp only [List.length_drop, List.length_take]; rfl)) ?_; (with_reducible refine (spillwaylaw06_pairs.calls 2 2 1 2 2 1 1 1 1 0 0 0 9 t118 t121 _ A2.out).mono ?_); rintro e w21 ⟨v119, rfl, ho0, hb⟩; refine ⟨_, rfl, ?_⟩; have n0_ := Aside0.mk (Kd.R_lower ho0 (below_size (by repeat (first | (with_reducible first | exact HB.out | apply below_alloc | apply pw_below_drewN | apply below_drew1) | exact HB.out)))); have n1_ := Aside0.mk (below_step (by repeat (first | (with_reducible first | exact HB.out | apply below_alloc | apply pw_below_drewN | apply below_drew1) | exact HB.out)) hb); clear HB; have HO120 := n0_; have HB := n1_; clear n0_ n1_; (try clear hb); (try clear hb2); (try clear hk); (try clear hi); (try clear ho0)))
    go_ret
    exact ⟨by first | rfl | (simp [errW_none, errW_some] <;> rfl) | (simp [*, errW_none, errW_some] <;> rfl), by repeat (first | (with_reducible first | exact HB.out | apply below_alloc | apply pw_below_drewN | apply below_drew1) | exact HB.out)⟩

/-! ### window_Padded: function 24 -/
section
open Go.Shelf
attribute [local go_sem] Oper.semAt_some
def negs (xs : List (Int × Int)) : Nat := (xs.filter fun p => decide (p.2 < 0)).length
theorem negs_hit (xs : List (Int × Int)) (x : Int × Int) (h : x.2 < 0) : negs (xs ++ [x]) = negs xs + 1 := by simp [negs, h]
theorem negs_miss (xs : List (Int × Int)) (x : Int × Int) (h : ¬ x.2 < 0) : negs (xs ++ [x]) = negs xs := by simp [negs, h]
theorem negs_le (xs : List (Int × Int)) : negs xs ≤ xs.length := List.length_filter_le _ _
def window_Padded.f (a0_0 : Int) (a0_1 : Int) (a0_2 : Int) (a1_0 : Int) (a1_1 : Int) (a1_2 : Int) (a1_3 : Int) (a1_4 : Int) (a1_5 : Int) (a1_6 : Int) (a1_7 : Int) (a2 : Int) : Option (Int × Int) :=
  (window_Out.f a0_0 a0_1 a0_2 a1_0 a1_1 a1_2 a1_3 a1_4 a1_5 a1_6 a1_7).bind fun o =>
    if o.2.2 ≠ 0 then some (0, o.2.2) else if a2 < 0 ∨ wrap64 (o.1 * o.2.1) ≤ a2 then some (0, 3) else
    (window_Taps.f a0_0 a0_1 a0_2 a1_0 a1_1 a1_2 a1_3 a1_4 a1_5 a1_6 a1_7 a2).bind fun xs => if xs.length ≤ 1024 then some ((negs xs : Int), 0) else none
set_option maxHeartbeats 8000000 in
set_option maxRecDepth 100000 in
theorem window_Padded.calls (a0_0 : Int) (a0_1 : Int) (a0_2 : Int) (a1_0 : Int) (a1_1 : Int) (a1_2 : Int) (a1_3 : Int) (a1_4 : Int) (a1_5 : Int) (a1_6 : Int) (a1_7 : Int) (a2 : Int) (r1 r2 : Int) (w : World) (h : window_Padded.f a0_0 a0_1 a0_2 a1_0 a1_1 a1_2 a1_3 a1_4 a1_5 a1_6 a1_7 a2 = some (r1, r2)) :
    Calls Try.prog 24 #[.agg #[.int .i64 a0_0, .int .i64 a0_1, .int .i64 a0_2], .agg #[.int .i64 a1_0, .int .i64 a1_1, .int .i64 a1_2, .int .i64 a1_3, .int .i64 a1_4, .int .i64 a1_5, .int .i64 a1_6, .int .i64 a1_7], .int .i64 a2] w fun e w' => e = .returned (.tuple #[.int .i64 r1, .int .i64 r2]) ∧ Below w.heap.size w w' := by
  have hu23 := Try.underlying23
  have hu25 := Try.underlying25
  unfold window_Padded.f at h
  obtain ⟨⟨rows, cols, eo⟩, ho, h⟩ := Option.bind_eq_some_iff.mp h
  dsimp only at h
  have HO := Aside0.mk (fun w => callsIn_wide (n := 2).2 (window_Out.calls a0_0 a0_1 a0_2 a1_0 a1_1 a1_2 a1_3 a1_4 a1_5 a1_6 a1_7 rows cols eo w ho))
  clear ho
  refine callsIn_wide (n := 3).1 ?_
  refine callsIn_of_wp_marks Try.func24 rfl trivial ?_ rfl
  simp only [Try.ntmps24, List.size_toArray, List.length_cons, List.length_nil, Nat.reduceAdd, Nat.reduceSub, Array.replicate_succ, Array.replicate_zero, List.push_toArray, List.append_toArray, List.nil_append, List.cons_append]
  by_cases c1 : eo ≠ 0
  · rw [if_pos c1] at h
    simp only [Option.some.injEq, Prod.mk.injEq] at h
    obtain ⟨rfl, rfl⟩ := h
    gi_wp2_with (first | (refine ⟨trivial, ?_⟩; gi_at_call 14; refine (HO.out _).mono ?_; rintro e w1 ⟨rfl, hb⟩; have hB1 : Below w.heap.size w w1 := (((Below.refl _ w).alloc (Nat.le_refl _) _).alloc (by simp) _).trans (hb.mono (by simp; omega)); have hS0 := (hb.block w.heap.size (by simp; omega)).trans (box2a w _ _); have hS1 := (hb.block (w.heap.size + 1) (by simp)).trans (box2b w _ _); have hsz := hb.size; simp only [World.size_alloc] at hsz; clear hb))
    exact ⟨_, results_tmp2 rfl _ _ _, rfl, hB1⟩
  · obtain rfl : eo = 0 := by omega
    rw [if_neg (by omega)] at h
    by_cases c2 : a2 < 0 ∨ wrap64 (rows * cols) ≤ a2
    · rw [if_pos c2] at h
      simp only [Option.some.injEq, Prod.mk.injEq] at h
      obtain ⟨rfl, rfl⟩ := h
      by_cases c3 : a2 < 0
      · have d3 : decide (a2 < 0) = true := decide_eq_true c3
        clear c2 c3
        gi_wp2_with (first | (refine ⟨trivial, ?_⟩; gi_at_call 14; refine (HO.out _).mono ?_; rintro e w1 ⟨rfl, hb⟩; have hB1 : Below w.heap.size w w1 := (((Below.refl _ w).alloc (Nat.le_refl _) _).alloc (by simp) _).trans (hb.mono (by simp; omega)); have hS0 := (hb.block w.heap.size (by simp; omega)).trans (box2a w _ _); have hS1 := (hb.block (w.heap.size + 1) (by simp)).trans (box2b w _ _); have hsz := hb.size; simp only [World.size_alloc] at hsz; clear hb))
        exact ⟨_, results_tmp2 rfl _ _ _, rfl, hB1⟩
      · have c4 : wrap64 (rows * cols) ≤ a2 := by omega
        have d3 : decide (a2 < 0) = false := decide_eq_false c3
        have d4 : decide (wrap64 (rows * cols) ≤ a2) = true := decide_eq_true c4
        clear c2 c3 c4
        gi_wp2_with (first | (refine ⟨trivial, ?_⟩; gi_at_call 14; refine (HO.out _).mono ?_; rintro e w1 ⟨rfl, hb⟩; have hB1 : Below w.heap.size w w1 := (((Below.refl _ w).alloc (Nat.le_refl _) _).alloc (by simp) _).trans (hb.mono (by simp; omega)); have hS0 := (hb.block w.heap.size (by simp; omega)).trans (box2a w _ _); have hS1 := (hb.block (w.heap.size + 1) (by simp)).trans (box2b w _ _); have hsz := hb.size; simp only [World.size_alloc] at hsz; clear hb))
        exact ⟨_, results_tmp2 rfl _ _ _, rfl, hB1⟩
    · rw [if_neg c2] at h
      obtain ⟨xs, hx, h⟩ := Option.bind_eq_some_iff.mp h
      by_cases hl : xs.length ≤ 1024
      · rw [if_pos hl] at h
        simp only [Option.some.injEq, Prod.mk.injEq] at h
        obtain ⟨rfl, rfl⟩ := h
        have HT := Aside0.mk (fun w => callsIn_wide (n := 2).2 (window_Taps.calls a0_0 a0_1 a0_2 a1_0 a1_1 a1_2 a1_3 a1_4 a1_5 a1_6 a1_7 a2 xs w hx))
        clear hx
        have c3 : ¬ a2 < 0 := fun q => c2 (.inl q)
        have c4 : ¬ wrap64 (rows * cols) ≤ a2 := fun q => c2 (.inr q)
        clear c2
        gi_wp2_with (first | (refine ⟨trivial, ?_⟩; gi_at_call 14; refine (HO.out _).mono ?_; rintro e w1 ⟨rfl, hb⟩; have hB1 : Below w.heap.size w w1 := (((Below.refl _ w).alloc (Nat.le_refl _) _).alloc (by simp) _).trans (hb.mono (by simp; omega)); have hS0 := (hb.block w.heap.size (by simp; omega)).trans (box2a w _ _); have hS1 := (hb.block (w.heap.size + 1) (by simp)).trans (box2b w _ _); have hsz := hb.size; simp only [World.size_alloc] at hsz; clear hb; have BS : w1.heap[w.heap.size]? = some (.cells #[.int .i64 a0_0, .int .i64 a0_1, .int .i64 a0_2] 23 (0, 0)) := hS0; have BW : w1.heap[w.heap.size + 1]? = some (.cells #[.int .i64 a1_0, .int .i64 a1_1, .int .i64 a1_2, .int .i64 a1_3, .int .i64 a1_4, .int .i64 a1_5, .int .i64 a1_6, .int .i64 a1_7] 25 (0, 0)) := hS1; clear hS0 hS1; have BS1 := blk_alloc BS (.cells #[.int .i64 0] 3); have BW1 := blk_alloc BW (.cells #[.int .i64 0] 3); have qs0 : (w1.alloc (.cells #[.int .i64 0] 3)).cell? ⟨w.heap.size, 0, none⟩ = some (.int .i64 a0_0) := (blk_cell BS1 0).trans rfl; have qs1 : (w1.alloc (.cells #[.int .i64 0] 3)).cell? ⟨w.heap.size, 1, none⟩ = some (.int .i64 a0_1) := (blk_cell BS1 1).trans rfl; have qs2 : (w1.alloc (.cells #[.int .i64 0] 3)).cell? ⟨w.heap.size, 2, none⟩ = some (.int .i64 a0_2) := (blk_cell BS1 2).trans rfl; have qw0 : (w1.alloc (.cells #[.int .i64 0] 3)).cell? ⟨w.heap.size + 1, 0, none⟩ = some (.int .i64 a1_0) := (blk_cell BW1 0).trans rfl; have qw1 : (w1.alloc (.cells #[.int .i64 0] 3)).cell? ⟨w.heap.size + 1, 1, none⟩ = some (.int .i64 a1_1) := (blk_cell BW1 1).trans rfl; have qw2 : (w1.alloc (.cells #[.int .i64 0] 3)).cell? ⟨w.heap.size + 1, 2, none⟩ = some (.int .i64 a1_2) := (blk_cell BW1 2).trans rfl; have qw3 : (w1.alloc (.cells #[.int .i64 0] 3)).cell? ⟨w.heap.size + 1, 3, none⟩ = some (.int .i64 a1_3) := (blk_cell BW1 3).trans rfl; have qw4 : (w1.alloc (.cells #[.int .i64 0] 3)).cell? ⟨w.heap.size + 1, 4, none⟩ = some (.int .i64 a1_4) := (blk_cell BW1 4).trans rfl; have qw5 : (w1.alloc (.cells #[.int .i64 0] 3)).cell? ⟨w.heap.size + 1, 5, none⟩ = some (.int .i64 a1_5) := (blk_cell BW1 5).trans rfl; have qw6 : (w1.alloc (.cells #[.int .i64 0] 3)).cell? ⟨w.heap.size + 1, 6, none⟩ = some (.int .i64 a1_6) := (blk_cell BW1 6).trans rfl; have qw7 : (w1.alloc (.cells #[.int .i64 0] 3)).cell? ⟨w.heap.size + 1, 7, none⟩ = some (.int .i64 a1_7) := (blk_cell BW1 7).trans rfl) | (refine ⟨trivial, ?_⟩; gi_at_call 20; refine (HT.out _).mono ?_; rintro e w2 ⟨gf, lb, rfl, hseq, hb⟩; have bN : Boxed w2 w1.heap.size 3 (.int .i64 0) := (hb.block _ (by simp)).trans (World.alloc_heap_new w1 _); have hB2 : Below w.heap.size w w2 := (hB1.alloc (by omega) _).trans (hb.mono (by simp; omega)); have hsz2 := hb.size; simp only [World.size_alloc] at hsz2 hseq; clear hb))
        refine wpIn_rangeFunc_ownG rfl (by omega) (gf := gf) (lb := lb) rfl trivial hseq.1
          (hseq.2 2 (by omega)) keeps_t (keeps_b (Nat.le_refl _)) (Below.refl _ _) (fun _ => rfl)
          (fun pre W => Boxed W w1.heap.size 3 (.int .i64 (negs pre : Int)) ∧ Below w.heap.size w W)
          (fun _ _ _ => False)
          (fun s X Y row hs hg hr => ⟨boxed_grown hs.1 (by omega) hg hr, hs.2.grown hg hs.2.size (fun k ek => by have := (hr k ek).1; omega)⟩)
          (fun _ _ _ _ _ hs _ _ => hs)
          ⟨bN, hB2⟩
          (fun x => { tmps := #[.agg #[.int .i64 a0_0, .int .i64 a0_1, .int .i64 a0_2], .agg #[.int .i64 a1_0, .int .i64 a1_1, .int .i64 a1_2, .int .i64 a1_3, .int .i64 a1_4, .int .i64 a1_5, .int .i64 a1_6, .int .i64 a1_7], .int .i64 a2, .pointer (some ⟨w.heap.size, 0, none⟩), .pointer (some ⟨w.heap.size + 1, 0, none⟩), undef, .int .i64 0, .int .i64 0, .int .i64 rows, .int .i64 cols, .int .i64 0, .pointer (some ⟨w1.heap.size, 0, none⟩), undef, .int .i64 x.2, .tuple #[.int .i64 rows, .int .i64 cols, .int .i64 0], .agg #[.int .i64 a0_0, .int .i64 a0_1, .int .i64 a0_2], .agg #[.int .i64 a1_0, .int .i64 a1_1, .int .i64 a1_2, .int .i64 a1_3, .int .i64 a1_4, .int .i64 a1_5, .int .i64 a1_6, .int .i64 a1_7], .tuple #[.int .i64 rows, .int .i64 cols, .int .i64 0], .int .i64 rows, .int .i64 cols, .int .i64 0, .int .i64 0, .bool false, undef, .int .i64 a2, .bool (decide (a2 < 0)), .bool (decide (a2 < 0)), .int .i64 a2, .int .i64 rows, .int .i64 cols, .int .i64 (wrap64 (rows * cols)), .bool (decide (wrap64 (rows * cols) ≤ a2)), .bool (decide (a2 < 0) || decide (wrap64 (rows * cols) ≤ a2)), .agg #[.int .i64 a0_0, .int .i64 a0_1, .int .i64 a0_2], .agg #[.int .i64 a1_0, .int .i64 a1_1, .int .i64 a1_2, .int .i64 a1_3, .int .i64 a1_4, .int .i64 a1_5, .int .i64 a1_6, .int .i64 a1_7], .int .i64 a2, .func (.func gf) #[] lb, .int .i64 x.1, .int .i64 x.2, undef, undef, undef, undef, undef], defers := [] }) ?assign ?body ?done ?stop
        case assign =>
          intro l x W K hK
          gi_wp2
          exact hK
        case body =>
          rintro l pre x W ⟨hv, hB⟩ hlt
          have hc := hv.cell
          have hf := hv.frozen
          have hle := negs_le pre
          have hwr : wrap64 ((negs pre : Int) + 1) = (negs pre : Int) + 1 := by unfold wrap64; omega
          by_cases hx : x.2 < 0
          · have dx : decide (x.2 < 0) = true := decide_eq_true hx
            clear hx
            gi_wp2
            refine ⟨(KeepsOthers.setCell _ _ _).from _, fun b h1 h2 => Below.heap_setCell _ _ _ b (by show b ≠ w1.heap.size; omega), ?_, hB.setCell (p := ⟨w1.heap.size, 0, none⟩) (by show w.heap.size ≤ w1.heap.size; omega) _⟩
            rw [negs_hit _ _ (of_decide_eq_true dx), show ((negs pre + 1 : Nat) : Int) = (negs pre : Int) + 1 by omega]
            exact hv.set _
          · have dx : decide (x.2 < 0) = false := decide_eq_false hx
            clear hx
            gi_wp2
            exact ⟨KeepsFrom.refl _ _, Keeps.refl _ _ _, by rw [negs_miss _ _ (of_decide_eq_false dx)]; exact hv, hB⟩
        case done =>
          rintro D ys W hD rfl ⟨hv, hB⟩ hK
          have hc := hv.cell
          gi_wp2
          refine ⟨by simp, .inl ⟨_, _, rfl, run_takeDeferred hK, ?_⟩⟩
          exact ⟨_, results_tmp2 rfl _ _ _, rfl, hB.trans (belowK_b (w := w) (Nat.le_refl _) W D _ _ (by omega) hK rfl rfl)⟩
        case stop =>
          rintro D c pre W _ _ h _
          exact h.elim
      · rw [if_neg hl] at h; exact absurd h (by simp)
end

end Go.Proofs.Ytnbhimgojnclbaa.CWwPlain
