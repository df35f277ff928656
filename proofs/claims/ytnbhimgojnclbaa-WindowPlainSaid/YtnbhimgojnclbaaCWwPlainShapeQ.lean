/- What the printed functions of layer 5 come to. -/
import Derived.Test.YtnbhimgojnclbaaNumLib
import Derived.Test.YtnbhimgojnclbaaCWwPlainx
namespace Go.Proofs.Ytnbhimgojnclbaa.CWwPlain
open Go.RowKit Go.Proofs.Ytnbhimgojnclbaa.Lib Go.Proofs.YtnbhimgojnclbaaW.PrintWords Go.Proofs.YtnbhimgojnclbaaW.PrintLast Go.Proofs.YtnbhimgojnclbaaW.PrintMore

/-- A valid shape. -/
def Shp (a b c : Int) : Prop := 1 ≤ a ∧ a ≤ 1024 ∧ 1 ≤ b ∧ b ≤ 1024 ∧ 1 ≤ c ∧ c ≤ 1024 ∧ a * b * c ≤ 16384
instance (a b c : Int) : Decidable (Shp a b c) := by unfold Shp; infer_instance
theorem Shp.facts {a b c : Int} (h : Shp a b c) : 1 ≤ a * b ∧ a * b ≤ 16384 ∧ 1 ≤ b * c ∧ b * c ≤ 16384 ∧ 1 ≤ a * b * c ∧ a * (b * c) = a * b * c := by
  obtain ⟨a1, a2, b1, b2, c1, c2, h⟩ := h
  have hab : 1 ≤ a * b := by have := Int.mul_le_mul a1 b1 (by omega) (by omega); omega
  have hbc : 1 ≤ b * c := by have := Int.mul_le_mul b1 c1 (by omega) (by omega); omega
  have habc : a * b * 1 ≤ a * b * c := Int.mul_le_mul_of_nonneg_left c1 (by omega)
  have he : a * (b * c) = a * b * c := (Int.mul_assoc a b c).symm
  have h2 : 1 * (b * c) ≤ a * (b * c) := Int.mul_le_mul_of_nonneg_right a1 (by omega)
  exact ⟨hab, by omega, hbc, by omega, by omega, he⟩
theorem Elems_eq (a b c : Int) : shape_Elems.f a b c = some (if Shp a b c then (a * b * c, 0) else (0, 50)) := by
  unfold shape_Elems.f
  by_cases h : Shp a b c
  · rw [if_pos (show 1 ≤ a ∧ a ≤ 1024 ∧ 1 ≤ b ∧ b ≤ 1024 ∧ 1 ≤ c ∧ c ≤ 1024 ∧ a * b * c ≤ 16384 from h), if_pos h]
  · rw [if_neg (show ¬ (1 ≤ a ∧ a ≤ 1024 ∧ 1 ≤ b ∧ b ≤ 1024 ∧ 1 ≤ c ∧ c ≤ 1024 ∧ a * b * c ≤ 16384) from h), if_neg h]
/-- Is it a spot of the shape? -/
def Spt (a b c y x d : Int) : Prop := 0 ≤ y ∧ y < a ∧ 0 ≤ x ∧ x < b ∧ 0 ≤ d ∧ d < c
instance (a b c y x d : Int) : Decidable (Spt a b c y x d) := by unfold Spt; infer_instance
def plc (b c y x d : Int) : Int := (y * b + x) * c + d
theorem plc_at {a b c y x d : Int} (h : Shp a b c) (s : Spt a b c y x d) : 0 ≤ plc b c y x d ∧ plc b c y x d < a * b * c ∧ 0 ≤ y * b + x ∧ y * b + x < a * b ∧ plc b c y x d / c = y * b + x ∧ plc b c y x d % c = d ∧ (y * b + x) / b = y ∧ (y * b + x) % b = x ∧ plc b c y x d / (b * c) = y := by
  obtain ⟨y0, y1, x0, x1, d0, d1⟩ := s
  have f := h.facts
  obtain ⟨a1, a2, b1, b2, c1, c2, h7⟩ := h
  have e1 : y * b ≤ (a - 1) * b := Int.mul_le_mul_of_nonneg_right (by omega) (by omega)
  have e1' : (a - 1) * b = a * b - b := by rw [Int.sub_mul, Int.one_mul]
  have e2 : 0 ≤ y * b := Int.mul_nonneg y0 (by omega)
  have p0 : 0 ≤ y * b + x := by omega
  have p1 : y * b + x < a * b := by omega
  have e3 : (y * b + x) * c ≤ (a * b - 1) * c := Int.mul_le_mul_of_nonneg_right (by omega) (by omega)
  have e3' : (a * b - 1) * c = a * b * c - c := by rw [Int.sub_mul, Int.one_mul]
  have e4 : 0 ≤ (y * b + x) * c := Int.mul_nonneg p0 (by omega)
  have q1 : plc b c y x d / c = y * b + x := by
    unfold plc
    rw [Int.add_comm, Int.add_mul_ediv_right _ _ (by omega), Int.ediv_eq_zero_of_lt d0 d1, Int.zero_add]
  have q2 : plc b c y x d % c = d := by
    unfold plc
    rw [Int.add_comm, Int.add_mul_emod_self_right, Int.emod_eq_of_lt d0 d1]
  have q3 : (y * b + x) / b = y := by rw [Int.add_comm, Int.add_mul_ediv_right _ _ (by omega), Int.ediv_eq_zero_of_lt x0 x1, Int.zero_add]
  have q4 : (y * b + x) % b = x := by rw [Int.add_comm, Int.add_mul_emod_self_right, Int.emod_eq_of_lt x0 x1]
  refine ⟨?_, ?_, p0, p1, q1, q2, q3, q4, ?_⟩
  · unfold plc; omega
  · unfold plc; omega
  · rw [Int.mul_comm b c, ← Int.ediv_ediv_of_nonneg (by omega : (0 : Int) ≤ c), q1, q3]
theorem mn_neg (y x d : Int) : mn (mn y x) d < 0 ↔ y < 0 ∨ x < 0 ∨ d < 0 := by unfold mn; omega
def whr (a b c n : Int) : Int × Int × Int × Int := if Shp a b c then (if 0 ≤ n ∧ n < a * b * c then (n / (b * c), n / c % b, n % c, 0) else (0, 0, 0, 3)) else (0, 0, 0, 50)
theorem div_less {n c : Int} (hc : c ≠ 0) : (n - c) / c = n / c - 1 := by
  have := Int.add_mul_ediv_right n (-1) hc
  rw [show n - c = n + -1 * c by omega, this]; omega
theorem mod_less {n : Int} (c : Int) : (n - c) % c = n % c := by
  have := Int.add_mul_emod_self_right n (-1) c
  rw [show n - c = n + -1 * c by omega, this]
theorem mod_div {n b c : Int} (hc : 1 ≤ c) : n % (b * c) / c = n / c % b ∧ n % (b * c) % c = n % c := by
  have e : n % (b * c) = n - b * c * (n / (b * c)) := Int.emod_def n (b * c)
  have e2 : n / (b * c) = n / c / b := by rw [Int.mul_comm b c, Int.ediv_ediv_of_nonneg (by omega : (0 : Int) ≤ c)]
  constructor
  · rw [e, Int.emod_def (n / c) b, e2]
    have : n - b * c * (n / c / b) = n + -(b * (n / c / b)) * c := by
      rw [Int.neg_mul, Int.mul_assoc b c, Int.mul_comm c, ← Int.mul_assoc]; omega
    rw [this, Int.add_mul_ediv_right _ _ (by omega)]; omega
  · rw [Int.mul_comm b c]; exact Int.emod_emod_of_dvd n (Int.dvd_mul_right c b)
end Go.Proofs.Ytnbhimgojnclbaa.CWwPlain
