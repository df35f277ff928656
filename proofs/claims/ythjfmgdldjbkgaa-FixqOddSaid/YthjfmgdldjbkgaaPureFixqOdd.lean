/- Apply of the opposite is the opposite; of a greater number never less. No condition. -/
import Derived.Test.YthjfmgdldjbkgaaCFixqOddFixqQ
import Derived.Test.YthjfmgdldjbkgaaCFixqOddSayFixqOdd
namespace Go.Proofs.Ythjfmgdldjbkgaa.Pure
open Go.RowKit Go.Proofs.Ythjfmgdldjbkgaa.Lib Go.Proofs.Ythjfmgdldjbkgaa.CFixqOdd Go.Proofs.YthjfmgdldjbkgaaW.PrintWords Go.Proofs.YthjfmgdldjbkgaaW.PrintLast Go.Proofs.YthjfmgdldjbkgaaW.PrintMore
set_option linter.unusedVariables false
set_option linter.unusedSimpArgs false
theorem FixqOdd : spillwaylaw02_FixqOdd.Pure := by
  intro a b m s ha hb _ _
  have ha := bounds_i64 ha
  have hb := bounds_i64 hb
  refine ⟨22, ?_⟩
  unfold spillwaylaw02_FixqOdd.f
  rw [fixq_fixed 1, Apply_eq 21 ha, Apply_eq 21 hb]
  simp only [Option.bind_some, if_true]
  unfold appS
  by_cases v : Scl m s
  · have v' := v
    obtain ⟨v1, v2, v3, v4⟩ := v'
    have hp := p2_pos s
    simp only [v, if_true]
    by_cases r : -4294967296 ≤ a ∧ a ≤ 4294967296
    · rw [if_pos r]
      simp only [if_true]
      rw [w64 (x := -a) (by omega), Apply_eq 21 (by omega)]
      unfold appS
      rw [if_pos v, if_pos (by omega), Int.neg_mul, rh_neg hp]
      simp only [Option.bind_some, if_true]
      obtain ⟨b1, b2, b3, b4⟩ := mul_scaled r ⟨v1, v2⟩
      have rr := rh_range (x := a * m) (d := p2 s) (by omega) hp
      rw [w64 (x := -(rh (a * m) (p2 s))) (by have := rh_neg (x := a * m) hp; have := rh_range (x := -(a * m)) (d := p2 s) (by omega) hp; omega)]
      simp only [if_true]
      by_cases rb : -4294967296 ≤ b ∧ b ≤ 4294967296
      · rw [if_pos rb]
        simp only [if_true]
        have mono : ∀ x y : Int, x ≤ y → rh (x * m) (p2 s) ≤ rh (y * m) (p2 s) := fun x y h => rh_mono (Int.mul_le_mul_of_nonneg_right h (by omega)) hp
        by_cases c : a > b
        · rw [if_pos c, if_neg (by omega)]
          have := mono b a (by omega)
          simp; omega
        · have := mono a b (by omega)
          rw [if_neg c, if_pos this]
          split
          · rfl
          · have := mono b a (by omega)
            simp; omega
      · rw [if_neg rb]; simp
    · rw [if_neg r]; simp
  · simp [v]
end Go.Proofs.Ythjfmgdldjbkgaa.Pure
