/- What the printed functions of layer 1 come to. -/
import Derived.Test.YthjfmgdldjbkgaaNumLib
import Derived.Test.YthjfmgdldjbkgaaCFqMeansx
namespace Go.Proofs.Ythjfmgdldjbkgaa.CFqMeans
open Go.RowKit Go.Proofs.Ythjfmgdldjbkgaa.Lib Go.Proofs.YthjfmgdldjbkgaaW.PrintWords Go.Proofs.YthjfmgdldjbkgaaW.PrintLast Go.Proofs.YthjfmgdldjbkgaaW.PrintMore

theorem ref_Size_eq {a : Int} (ha : -9223372036854775808 ≤ a ∧ a ≤ 9223372036854775807) : spillwayref01_Size.f a = some (a.natAbs : Int) := by
  unfold spillwayref01_Size.f
  split
  · rw [u64w, u64w]; congr 1; omega
  · rw [u64w]; congr 1; omega
/-- The nearest number between two ends. -/
def near (lo hi x : Int) : Int := if x > hi then hi else if x < lo then lo else x
theorem num_Clamp_near (x lo hi : Int) : num_Clamp.f x lo hi = some (near lo hi x) := by
  unfold num_Clamp.f near
  split
  · rfl
  · split <;> rfl
theorem num_Fits8_eq {x : Int} (hx : -9223372036854775808 ≤ x ∧ x ≤ 9223372036854775807) : num_Fits_int8.f x = some (decide (-128 ≤ x ∧ x ≤ 127)) := by
  unfold num_Fits_int8.f; congr 1; rw [i8w]; unfold wrap64; rw [Bool.eq_iff_iff]; simp; omega
theorem num_Fits16_eq {x : Int} (hx : -9223372036854775808 ≤ x ∧ x ≤ 9223372036854775807) : num_Fits_int16.f x = some (decide (-32768 ≤ x ∧ x ≤ 32767)) := by
  unfold num_Fits_int16.f; congr 1; rw [i16w]; unfold wrap64; rw [Bool.eq_iff_iff]; simp; omega
theorem Sat16_loop (k : Nat) (x : Int) : num_Sat_int16.l0 (k + 20) x 1 (1 * 2) = some (if x < 0 then -32768 else 32767) := by
  have : ∀ m, num_Sat_int16.l0 (m + 16) x 1 (1 * 2) = some (if x < 0 then -32768 else 32767) := fun m => by
    simp [num_Sat_int16.l0, i16w]
    split <;> rfl
  exact this (k + 4)
theorem num_Sat16_eq (k : Nat) {x : Int} (hx : -9223372036854775808 ≤ x ∧ x ≤ 9223372036854775807) : num_Sat_int16.f (k + 20) x = some (near (-32768) 32767 x) := by
  unfold num_Sat_int16.f
  rw [num_Fits16_eq hx]
  simp only [Option.bind_some, decide_eq_true_eq]
  unfold near
  split
  · rw [i16w, if_neg (by omega), if_neg (by omega)]; congr 1; omega
  · rw [Sat16_loop]; congr 1; split <;> split <;> omega
end Go.Proofs.Ythjfmgdldjbkgaa.CFqMeans
