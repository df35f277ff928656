/- Where of a Place is the spot, Place of a Where the place; and as many places as Elems tells are there. No condition. -/
import Derived.Test.YtfccnnlbiniahaaShapeQ
import Derived.Test.YtfccnnlbiniahaaQSayShapeBack
namespace Go.Proofs.Ytfccnnlbiniahaa.Pure
open Go.RowKit Go.Proofs.Ytfccnnlbiniahaa.Lib Go.Proofs.Ytfccnnlbiniahaa.Q Go.Proofs.YtfccnnlbiniahaaW.PrintWords Go.Proofs.YtfccnnlbiniahaaW.PrintLast
set_option linter.unusedVariables false
set_option linter.unusedSimpArgs false
theorem back_spot {a b c n : Int} (h : Shp a b c) (hn : 0 ≤ n ∧ n < a * b * c) : Spt a b c (n / (b * c)) (n / c % b) (n % c) ∧ plc b c (n / (b * c)) (n / c % b) (n % c) = n := by
  have f := h.facts
  obtain ⟨a1, a2, b1, b2, c1, c2, h7⟩ := h
  have e2 : n / (b * c) = n / c / b := by rw [Int.mul_comm b c, Int.ediv_ediv_of_nonneg (by omega : (0 : Int) ≤ c)]
  have m1 := Int.emod_nonneg n (show c ≠ 0 by omega)
  have m2 := Int.emod_lt_of_pos n (show 0 < c by omega)
  have m3 := Int.emod_nonneg (n / c) (show b ≠ 0 by omega)
  have m4 := Int.emod_lt_of_pos (n / c) (show 0 < b by omega)
  have d1 : 0 ≤ n / (b * c) := Int.ediv_nonneg hn.1 (by omega)
  have d2 : n / (b * c) < a := Int.ediv_lt_of_lt_mul (by omega) (by omega)
  refine ⟨⟨d1, d2, m3, m4, m1, m2⟩, ?_⟩
  unfold plc
  rw [e2]
  have k1 : n / c / b * b + n / c % b = n / c := by rw [Int.mul_comm]; exact Int.mul_ediv_add_emod (n / c) b
  rw [k1, Int.mul_comm]
  exact Int.mul_ediv_add_emod n c
theorem back_j0 (a b c n : Int) : spillwaylaw05_ShapeBack.j0 2 n a b c = some true := by
  simp only [spillwaylaw05_ShapeBack.j0]
  rw [Elems_eq, Where_eq]
  unfold whr
  by_cases h : Shp a b c
  · by_cases hn : 0 ≤ n ∧ n < a * b * c
    · obtain ⟨s, e⟩ := back_spot h hn
      simp only [h, hn, and_self, if_true, Option.bind_some, ge_iff_le, decide_true, show (((0 : Int) == 0) != true) = false by decide, spillwaylaw05_ShapeBack.j1, Bool.false_eq_true, if_false]
      rw [Place_eq]
      simp [h, s, e]
    · simp only [h, hn, if_true, if_false, Option.bind_some]
      split
      · rw [decide_eq_false (by omega)]
        simp [spillwaylaw05_ShapeBack.j1]
      · simp [spillwaylaw05_ShapeBack.j1]
  · simp [h, spillwaylaw05_ShapeBack.j1]
theorem ShapeBack : spillwaylaw05_ShapeBack.Pure := by
  intro a b c y x d n _ _ _ _ _ _ _
  refine ⟨2, ?_⟩
  unfold spillwaylaw05_ShapeBack.f
  rw [shape_fixed, Place_eq]
  by_cases h : Shp a b c
  · by_cases s : Spt a b c y x d
    · have p := plc_at h s
      simp only [h, s, if_true, Option.bind_some]
      rw [Where_eq]
      unfold whr
      simp only [h, p, and_self, if_true, Option.bind_some]
      simp [back_j0]
    · simp [h, s, back_j0]
  · simp [h, back_j0]
end Go.Proofs.Ytfccnnlbiniahaa.Pure
