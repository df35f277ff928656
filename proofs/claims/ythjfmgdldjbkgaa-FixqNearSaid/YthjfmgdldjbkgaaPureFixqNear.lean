/- What Apply answers, times 2 to the Shift, is no further from the product than half of that power; of two that are as near it is the one further from zero. No condition. -/
import Derived.Test.YthjfmgdldjbkgaaCFxqNearFixqQ
import Derived.Test.YthjfmgdldjbkgaaCFxqNearSayFixqNear
namespace Go.Proofs.Ythjfmgdldjbkgaa.Pure
open Go.RowKit Go.Proofs.Ythjfmgdldjbkgaa.Lib Go.Proofs.Ythjfmgdldjbkgaa.CFxqNear Go.Proofs.YthjfmgdldjbkgaaW.PrintWords Go.Proofs.YthjfmgdldjbkgaaW.PrintLast Go.Proofs.YthjfmgdldjbkgaaW.PrintMore
set_option linter.unusedVariables false
set_option linter.unusedSimpArgs false
theorem FixqNear : spillwaylaw02_FixqNear.Pure := by
  intro a m s ha hm hs
  have ha := bounds_i64 ha
  have hs := bounds_i64 hs
  refine ⟨25, ?_⟩
  unfold spillwaylaw02_FixqNear.f
  rw [fixq_fixed 4, fValid_eq]
  simp only [Option.bind_some, if_true, decide_eq_true_eq]
  have skip : ∀ b, b = true → spillwaylaw02_FixqNear.j0 25 a b m s = some true := by
    intro b hb; subst hb; simp [spillwaylaw02_FixqNear.j0]
  by_cases v : Scl m s
  · rw [if_pos v]
    have v' := v
    obtain ⟨v1, v2, v3, v4⟩ := v'
    by_cases g : -2147483648 ≤ a ∧ a < 2147483648 ∧ s ≤ 60
    · rw [if_neg (by omega), if_neg (by omega), decide_eq_false (by omega)]
      simp only [spillwaylaw02_FixqNear.j0, Bool.false_eq_true, if_false]
      rw [Apply_eq 23 ha]
      unfold appS
      rw [if_pos v, if_pos (by omega)]
      simp only [Option.bind_some]
      obtain ⟨b1, b2, b3, b4⟩ := mul_scaled (a := a) (m := m) (by omega) ⟨v1, v2⟩
      have pb : (a.natAbs : Int) * m ≤ 2147483648 * 2147483647 := Int.mul_le_mul (by omega) v2 (by omega) (by omega)
      have hp := p2_pos s
      have hq : p2 s ≤ 1152921504606846976 := p2_le (n := s) (m := 60) (by omega)
      have he := p2_even v3
      rw [u64id (n := s) v3 (by omega), if_pos v3, if_pos trivial, shl_one_i v3 v4, if_neg (by omega), w64 (x := a * m) (by omega)]
      have pz : -4611686018427387904 ≤ a * m ∧ a * m ≤ 4611686018427387904 := by omega
      generalize a * m = p at *
      generalize p2 s = D at *
      clear b3 b4 pb
      -- the quotient's place
      have nr : rh p D - Int.tdiv p D ≤ 1 ∧ Int.tdiv p D - rh p D ≤ 1 := by
        have pos : ∀ y : Int, 0 ≤ y → half y D - y / D ≤ 1 ∧ y / D - half y D ≤ 0 := by
          intro y hy
          rw [ref_half hy hp]
          split <;> omega
        unfold rh
        by_cases c : p < 0
        · rw [if_pos c]
          have := pos (-p) (by omega)
          have e : Int.tdiv p D = -((-p) / D) := by
            rw [← Int.tdiv_eq_ediv_of_nonneg (by omega : 0 ≤ -p), Int.neg_tdiv, Int.neg_neg]
          omega
        · rw [if_neg c, Int.tdiv_eq_ediv_of_nonneg (by omega)]
          have := pos p (by omega)
          omega
      have rr := rh_range (x := p) (d := D) (by omega) hp
      have rs : -4611686018427387904 ≤ rh p D ∧ rh p D ≤ 4611686018427387904 := by
        unfold rh
        by_cases c : p < 0
        · rw [if_pos c]; have := half_le (m := -p) (by omega) hp; have := half_nonneg (m := -p) (by omega) hp; omega
        · rw [if_neg c]; have := half_le (m := p) (by omega) hp; have := half_nonneg (m := p) (by omega) hp; omega
      rw [w64 (x := Int.tdiv p D) (by omega), w64 (x := Int.tdiv p D + 1) (by omega), w64 (x := Int.tdiv p D - 1) (by omega), if_neg (by omega), decide_eq_false (by omega)]
      simp only [spillwaylaw02_FixqNear.j1, Bool.false_eq_true, if_false]
      -- how far it is
      have far : ∃ z, rh p D * D = z ∧ (p < 0 → 2 * z ≥ 2 * p - D ∧ 2 * z < 2 * p + D) ∧ (0 ≤ p → 2 * z ≤ 2 * p + D ∧ 2 * p < 2 * z + D) := by
        refine ⟨_, rfl, ?_, ?_⟩
        · intro c
          unfold rh; rw [if_pos c, Int.neg_mul]
          have := half_bounds (m := -p) hp
          generalize half (-p) D * D = z at *
          omega
        · intro c
          unfold rh; rw [if_neg (by omega)]
          have := half_bounds (m := p) hp
          generalize half p D * D = z at *
          omega
      obtain ⟨z, hz, f1, f2⟩ := far
      have hz1 : -9223372036854775808 ≤ z ∧ z ≤ 9223372036854775807 := by
        by_cases c : p < 0
        · have := f1 c; omega
        · have := f2 (by omega); omega
      rw [hz, w64 (x := z) hz1]
      have e2 : Int.tdiv D 2 = D / 2 := Int.tdiv_eq_ediv_of_nonneg (by omega)
      have dz : -1152921504606846976 ≤ p - z ∧ p - z ≤ 1152921504606846976 := by
        by_cases c : p < 0
        · have := f1 c; omega
        · have := f2 (by omega); omega
      rw [w64 (x := p - z) (by omega), w64 (x := -(p - z)) (by omega)]
      have z0 : p = 0 → z = 0 := by
        intro c; subst c; rw [← hz]
        have : rh 0 D = 0 := by have := rh_neg (x := 0) hp; simp at this; omega
        rw [this, Int.zero_mul]
      have j2 : ∀ d, d = (if p - z < 0 then -(p - z) else p - z) → spillwaylaw02_FixqNear.j2 23 (rh p D) p D d = some true := by
        intro d hd
        simp only [spillwaylaw02_FixqNear.j2]
        rw [hz, w64 (x := z) hz1, e2, w64 (x := D / 2) (by omega)]
        by_cases c : p < 0
        · obtain ⟨h1, h2⟩ := f1 c
          rcases he with he | he
          · subst he
            rw [if_pos rfl]; simp; split at hd <;> omega
          · rw [if_neg (by omega)]
            split
            · rename_i hh
              rw [if_pos (by rw [beq_iff_eq, Bool.eq_iff_iff]; simp; split at hd <;> omega)]
              simp; omega
            · rename_i hh
              simp; split at hd <;> omega
        · obtain ⟨h1, h2⟩ := f2 (by omega)
          rcases he with he | he
          · subst he
            rw [if_pos rfl]; simp; split at hd <;> omega
          · rw [if_neg (by omega)]
            split
            · rename_i hh
              have : p ≠ 0 := by intro c0; have := z0 c0; split at hd <;> omega
              rw [if_pos (by rw [beq_iff_eq, Bool.eq_iff_iff]; simp; split at hd <;> omega)]
              simp; omega
            · rename_i hh
              simp; split at hd <;> omega
      split
      · rename_i c; exact j2 _ (by rw [if_pos c])
      · rename_i c; exact j2 _ (by rw [if_neg c])
    · split
      · exact skip _ rfl
      · split
        · exact skip _ rfl
        · exact skip _ (decide_eq_true (by omega))
  · rw [if_neg v]; exact skip _ rfl
end Go.Proofs.Ythjfmgdldjbkgaa.Pure
