/- The mean of a number n times is the number; a mean lies between the whole numbers about the quotient; Shift is Mean by a power of two. No condition. -/
import Derived.Test.YthjfmgdldjbkgaaCFMeanOfFixqQ
import Derived.Test.YthjfmgdldjbkgaaCFMeanOfSayFixqMeanOf
namespace Go.Proofs.Ythjfmgdldjbkgaa.Pure
open Go.RowKit Go.Proofs.Ythjfmgdldjbkgaa.Lib Go.Proofs.Ythjfmgdldjbkgaa.CFMeanOf Go.Proofs.YthjfmgdldjbkgaaW.PrintWords Go.Proofs.YthjfmgdldjbkgaaW.PrintLast Go.Proofs.YthjfmgdldjbkgaaW.PrintMore
set_option linter.unusedVariables false
set_option linter.unusedSimpArgs false
theorem mean_near {x n : Int} (hn : 1 ≤ n) : rh x n - Int.tdiv x n ≤ 1 ∧ Int.tdiv x n - rh x n ≤ 1 := by
  have pos : ∀ y : Int, 0 ≤ y → half y n - y / n ≤ 1 ∧ y / n - half y n ≤ 0 := by
    intro y hy
    rw [ref_half hy hn]
    split <;> omega
  unfold rh
  by_cases c : x < 0
  · rw [if_pos c]
    have := pos (-x) (by omega)
    have e : Int.tdiv x n = -((-x) / n) := by
      rw [← Int.tdiv_eq_ediv_of_nonneg (by omega : 0 ≤ -x), Int.neg_tdiv, Int.neg_neg]
    omega
  · rw [if_neg c, Int.tdiv_eq_ediv_of_nonneg (by omega)]
    have := pos x (by omega)
    omega
theorem rh_times {x n : Int} (hn : 1 ≤ n) : rh (x * n) n = x := by
  unfold rh
  by_cases c : x < 0
  · have : x * n < 0 := Int.mul_neg_of_neg_of_pos c (by omega)
    rw [if_pos this, ← Int.neg_mul, half_mul hn]; omega
  · have : 0 ≤ x * n := Int.mul_nonneg (by omega) (by omega)
    rw [if_neg (by omega), half_mul hn]
theorem meanof_j1 {x n : Int} (hx : I64 x) (hn : I64 n) : spillwaylaw02_FixqMeanOf.j1 23 x n = some true := by
  simp only [spillwaylaw02_FixqMeanOf.j1]
  by_cases h : 0 ≤ n ∧ n ≤ 60
  · rw [if_neg (by omega), decide_eq_false (by omega)]
    simp only [spillwaylaw02_FixqMeanOf.j2, Bool.false_eq_true, if_false]
    have hp := p2_pos n
    have hq := p2_62 (n := n) (by omega)
    rw [Shift_eq 20 hx hn, u64id (n := n) (by omega) (by omega)]
    rw [Option.bind_some, if_pos h.1, shl_one_i h.1 (by omega), Mean_eq 21 (by omega) hx (by omega)]
    unfold meaS
    rw [if_neg (by omega), if_pos (by omega)]
    simp
  · split
    · simp [spillwaylaw02_FixqMeanOf.j2]
    · rw [decide_eq_true (by omega)]; simp [spillwaylaw02_FixqMeanOf.j2]
theorem FixqMeanOf : spillwaylaw02_FixqMeanOf.Pure := by
  intro x n k hx hn hk
  have hx := bounds_i64 hx
  have hn := bounds_i64 hn
  have hk := bounds_i64 hk
  refine ⟨25, ?_⟩
  unfold spillwaylaw02_FixqMeanOf.f
  rw [fixq_fixed 4]
  simp only [Option.bind_some, if_true]
  have j0 : ∀ b, (b = true → 1 ≤ n ∧ n ≤ 1048576 ∧ -1099511627776 ≤ x ∧ x ≤ 1099511627776) → spillwaylaw02_FixqMeanOf.j0 25 x n k b = some true := by
    intro b hb
    simp only [spillwaylaw02_FixqMeanOf.j0]
    cases b with
    | false => simp only [Bool.false_eq_true, if_false]; exact at_rounds (g := fun j => spillwaylaw02_FixqMeanOf.j1 j x k) (fun j => (spillwaylaw02_FixqMeanOf.mono_l j).2.1 x k) (by omega : 23 ≤ 24) (meanof_j1 hx hk)
    | true =>
      obtain ⟨n1, n2, x1, x2⟩ := hb rfl
      simp only [if_true]
      have m1 : x * n ≤ 1099511627776 * 1048576 := by
        by_cases c : 0 ≤ x
        · exact Int.mul_le_mul x2 n2 (by omega) (by omega)
        · have : x * n < 0 := Int.mul_neg_of_neg_of_pos (by omega) (by omega)
          omega
      have m2 : -(1099511627776 * 1048576) ≤ x * n := by
        by_cases c : 0 ≤ x
        · have : 0 ≤ x * n := Int.mul_nonneg c (by omega)
          omega
        · have : -x * n ≤ 1099511627776 * 1048576 := Int.mul_le_mul (by omega) n2 (by omega) (by omega)
          rw [Int.neg_mul] at this; omega
      rw [w64 (x := x * n) (by omega), Mean_eq 24 (by omega) (by omega) hn, Mean_eq 24 (by omega) hx hn]
      unfold meaS
      simp only [show ¬ (n < 1) by omega, if_false, Option.bind_some, if_true, rh_times n1]
      rw [if_neg (by omega)]
      have nr := mean_near (x := x) n1
      have r1 : -1099511627776 ≤ rh x n ∧ rh x n ≤ 1099511627776 := by
        unfold rh
        by_cases c : x < 0
        · rw [if_pos c]; have := half_le (m := -x) (by omega) n1; have := half_nonneg (m := -x) (by omega) n1; omega
        · rw [if_neg c]; have := half_le (m := x) (by omega) n1; have := half_nonneg (m := x) (by omega) n1; omega
      have t1 : -9223372036854775807 ≤ Int.tdiv x n ∧ Int.tdiv x n ≤ 9223372036854775807 := by omega
      have g1 : (-1 : Int) ≤ rh x n - Int.tdiv x n ∧ rh x n - Int.tdiv x n ≤ 1 := by omega
      rw [w64 (x := Int.tdiv x n) (by omega), w64 (x := rh x n - Int.tdiv x n) (by omega), w64 (x := Int.tdiv x n - rh x n) (by omega), if_neg (by omega), if_neg (by omega)]
      exact at_rounds (g := fun j => spillwaylaw02_FixqMeanOf.j1 j x k) (fun j => (spillwaylaw02_FixqMeanOf.mono_l j).2.1 x k) (by omega : 23 ≤ 24) (meanof_j1 hx hk)
  repeat' split
  all_goals (apply j0; simp; try omega)
end Go.Proofs.Ythjfmgdldjbkgaa.Pure
