import Derived.Test.YtnbhimgojnclbaaCWitionsSayWindowPositions
import Derived.Test.YtnbhimgojnclbaaCWitionsWindowQ
namespace Go.Proofs.Ytnbhimgojnclbaa.Pure
open Go.RowKit Go.Proofs.Ytnbhimgojnclbaa Go.Proofs.Ytnbhimgojnclbaa.CWitions Go.Proofs.Ytnbhimgojnclbaa.Lib Go.Proofs.YtnbhimgojnclbaaW.PrintWords Go.Proofs.YtnbhimgojnclbaaW.PrintLast
set_option linter.unusedVariables false
theorem WindowPositions_l0 (R Cc : Int) (hR : 0 ≤ R) (hR2 : R ≤ 2000) (hC : 0 ≤ Cc) (hC2 : Cc ≤ 2000) (hm : R * Cc ≤ 100000) (d : Nat) : ∀ (f i : Nat), R * Cc - i ≤ d → (i : Int) ≤ R * Cc → d + 1 ≤ f →
    spillwaylaw06_WindowPositions.l0 f (flat (gridL R Cc)) R Cc i = some true := by
  have hlen : ((flat (gridL R Cc)).length : Int) = 2 * (R * Cc) := by rw [flat_length]; push_cast; rw [gridL_length hR hC]
  have h0 : 0 ≤ R * Cc := Int.mul_nonneg hR hC
  induction d with
  | zero =>
    intro f i h1 h2 h3
    obtain ⟨f, rfl⟩ : ∃ m, f = m + 1 := ⟨f - 1, by omega⟩
    simp only [spillwaylaw06_WindowPositions.l0]
    rw [w64 (x := R * Cc) (by omega), if_neg (by omega)]
  | succ d ih =>
    intro f i h1 h2 h3
    obtain ⟨f, rfl⟩ : ∃ m, f = m + 1 := ⟨f - 1, by omega⟩
    simp only [spillwaylaw06_WindowPositions.l0]
    rw [w64 (x := R * Cc) (by omega)]
    by_cases hi : (i : Int) < R * Cc
    · have hc : Cc ≠ 0 := by rintro rfl; simp at hi; omega
      rw [if_pos hi, w64 (x := 2 * (i : Int)) (by omega), w64 (x := 2 * (i : Int) + 1) (by omega), if_pos (by omega), if_pos (by rw [hlen]; omega), if_neg hc,
        rd_flat0, rd_flat1, gridL_at hR hC i hi]
      have q1 : 0 ≤ (i : Int) / Cc := Int.ediv_nonneg (by omega) hC
      have q2 : (i : Int) / Cc ≤ i := Int.ediv_le_self _ (by omega)
      rw [Int.tdiv_eq_ediv_of_nonneg (by omega), Int.tmod_eq_emod_of_nonneg (by omega), w64 (x := (i : Int) / Cc) (by omega), if_pos rfl, if_pos (by omega), if_pos (by rw [hlen]; omega), if_pos rfl, w64 (x := (i : Int) + 1) (by omega)]
      exact ih f (i + 1) (by push_cast; omega) (by push_cast; omega) (by omega)
    · rw [if_neg hi]
theorem WindowPositions : spillwaylaw06_WindowPositions.Pure := by
  intro H W C KH KW SH SW TO LE BO RI _ _ _ _ _ _ _ _ _ _ _
  refine ⟨100003 + 20, ?_⟩
  have h := out_prod H W C KH KW SH SW TO LE BO RI
  unfold spillwaylaw06_WindowPositions.f
  rw [spots_eq, rOut_eq _ (by omega), win_fixed]
  simp only [Option.bind_some, if_true]
  generalize (outS H W C KH KW SH SW TO LE BO RI).1 = R at *
  generalize (outS H W C KH KW SH SW TO LE BO RI).2.1 = Cc at *
  have hg := gridL_length h.1 h.2.2.1
  have e2 : 2 * R * Cc = 2 * (R * Cc) := Int.mul_assoc _ _ _
  rw [List.take_of_length_le (by simp; omega), flat_length, w64 (x := 2 * R) (by omega), w64 (x := 2 * R * Cc) (by omega)]
  simp only [spillwaylaw06_WindowPositions.j0]
  rw [if_neg (by simp; push_cast; omega)]
  exact WindowPositions_l0 R Cc h.1 h.2.1 h.2.2.1 h.2.2.2.1 h.2.2.2.2.2 100000 _ 0 (by omega) (by omega) (by omega)
end Go.Proofs.Ytnbhimgojnclbaa.Pure
