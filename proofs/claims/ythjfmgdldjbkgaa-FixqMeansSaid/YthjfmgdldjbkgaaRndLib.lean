/- Rounding half away from zero: plain arithmetic. -/
import Derived.Test.YthjfmgdldjbkgaaDivLib
namespace Go.Proofs.Ythjfmgdldjbkgaa.Lib
open Go.RowKit Go.Proofs.YthjfmgdldjbkgaaW.PrintWords Go.Proofs.YthjfmgdldjbkgaaW.PrintLast Go.Proofs.YthjfmgdldjbkgaaW.PrintMore
set_option linter.unusedVariables false

/-- A size over d, rounded half up. -/
def half (m d : Int) : Int := (2 * m + d) / (2 * d)
/-- A number over d, rounded half away from zero. -/
def rh (x d : Int) : Int := if x < 0 then -(half (-x) d) else half x d
theorem half_nonneg {m d : Int} (hm : 0 ≤ m) (hd : 1 ≤ d) : 0 ≤ half m d := Int.ediv_nonneg (by omega) (by omega)
theorem half_le {m d : Int} (hm : 0 ≤ m) (hd : 1 ≤ d) : half m d ≤ m := by
  unfold half
  by_cases h : m = 0
  · subst h
    rw [show 2 * 0 + d = d by omega, Int.ediv_eq_zero_of_lt (by omega) (by omega)]; omega
  have : (2 * m + d) / (2 * d) < m + 1 := by
    apply Int.ediv_lt_of_lt_mul (by omega)
    have h1 : m * 1 ≤ m * d := Int.mul_le_mul_of_nonneg_left hd hm
    have h2 : (m + 1) * (2 * d) = 2 * (m * d) + 2 * d := by rw [Int.add_mul, Int.one_mul, ← Int.mul_assoc, Int.mul_comm m 2, Int.mul_assoc]
    omega
  omega
theorem half_one {m : Int} : half m 1 = m := by unfold half; omega
theorem half_mono {m m' d : Int} (h : m ≤ m') (hd : 1 ≤ d) : half m d ≤ half m' d := Int.ediv_le_ediv (by omega) (by omega)
theorem half_bounds {m d : Int} (hd : 1 ≤ d) : 2 * (half m d * d) ≤ 2 * m + d ∧ 2 * m + d < 2 * (half m d * d) + 2 * d := by
  have h1 := Int.mul_ediv_add_emod (2 * m + d) (2 * d)
  have h2 := Int.emod_nonneg (2 * m + d) (show 2 * d ≠ 0 by omega)
  have h3 := Int.emod_lt_of_pos (2 * m + d) (show 0 < 2 * d by omega)
  have h4 : 2 * (half m d * d) = 2 * d * ((2 * m + d) / (2 * d)) := by
    unfold half; rw [Int.mul_comm _ d, Int.mul_assoc]
  omega
theorem half_mul {m d : Int} (hd : 1 ≤ d) : half (m * d) d = m := by
  unfold half
  rw [show 2 * (m * d) + d = d + m * (2 * d) by rw [← Int.mul_assoc m 2 d, Int.mul_comm m 2, Int.mul_assoc]; omega, Int.add_mul_ediv_right _ _ (by omega), Int.ediv_eq_zero_of_lt (by omega) (by omega), Int.zero_add]
theorem rh_neg {x d : Int} (hd : 1 ≤ d) : rh (-x) d = -(rh x d) := by
  unfold rh
  by_cases h : x < 0
  · rw [if_neg (by omega), if_pos h]; omega
  · by_cases h0 : x = 0
    · subst h0
      have : half 0 d = 0 := by have := half_le (m := 0) (by omega) hd; have := half_nonneg (m := 0) (by omega) hd; omega
      simp [this]
    · rw [if_pos (by omega), if_neg h, Int.neg_neg]
theorem rh_mono {x y d : Int} (h : x ≤ y) (hd : 1 ≤ d) : rh x d ≤ rh y d := by
  unfold rh
  by_cases hx : x < 0
  · rw [if_pos hx]
    have a := half_nonneg (m := -x) (by omega) hd
    by_cases hy : y < 0
    · rw [if_pos hy]; have := half_mono (m := -y) (m' := -x) (by omega) hd; omega
    · rw [if_neg hy]; have := half_nonneg (m := y) (by omega) hd; omega
  · rw [if_neg hx, if_neg (by omega)]; exact half_mono h hd
theorem rh_range {x d : Int} (hx : -9223372036854775808 ≤ x ∧ x ≤ 9223372036854775807) (hd : 1 ≤ d) : -9223372036854775808 ≤ rh x d ∧ rh x d ≤ 9223372036854775807 := by
  unfold rh
  by_cases h : x < 0
  · rw [if_pos h]; have := half_le (m := -x) (by omega) hd; have := half_nonneg (m := -x) (by omega) hd; omega
  · rw [if_neg h]; have := half_le (m := x) (by omega) hd; have := half_nonneg (m := x) (by omega) hd; omega
theorem rh_size {x d : Int} (hd : 1 ≤ d) : rh x d = if x < 0 then -(half x.natAbs d) else half x.natAbs d := by
  unfold rh
  by_cases h : x < 0
  · rw [if_pos h, if_pos h, show (x.natAbs : Int) = -x by omega]
  · rw [if_neg h, if_neg h, show (x.natAbs : Int) = x by omega]
/-! powers of two -/
def p2 (n : Int) : Int := 2 ^ n.toNat
theorem p2_pos (n : Int) : 1 ≤ p2 n := by
  unfold p2
  have : (0 : Int) < 2 ^ n.toNat := Int.pow_pos (by decide)
  omega
theorem p2_le {n : Int} {m : Nat} (h : n ≤ m) : p2 n ≤ 2 ^ m := by
  unfold p2
  have : (2 : Nat) ^ n.toNat ≤ 2 ^ m := Nat.pow_le_pow_right (by decide) (by omega)
  exact_mod_cast this
theorem p2_62 {n : Int} (h : n ≤ 62) : p2 n ≤ 4611686018427387904 := p2_le (m := 62) h
theorem p2_succ {n : Int} (h : 1 ≤ n) : p2 n = 2 * p2 (n - 1) := by
  unfold p2
  rw [show n.toNat = (n - 1).toNat + 1 by omega, Int.pow_succ, Int.mul_comm]
theorem p2_zero : p2 0 = 1 := rfl
theorem p2_even {n : Int} (h : 0 ≤ n) : p2 n = 1 ∨ p2 n % 2 = 0 := by
  by_cases h0 : n = 0
  · subst h0; exact .inl rfl
  · right; rw [p2_succ (by omega)]; omega
theorem u64id {n : Int} (h0 : 0 ≤ n) (h1 : n < 18446744073709551616) : IntKind.u64.wrap n = n := by rw [u64w]; omega
theorem shl_one_u {n : Int} (h0 : 0 ≤ n) (h1 : n ≤ 62) : shl .u64 1 n = p2 n := by
  unfold shl
  rw [show min n.toNat IntKind.u64.bits = n.toNat by simp [IntKind.bits]; omega, Int.one_mul]
  have a := p2_pos n
  have b := p2_62 h1
  exact u64id (by unfold p2 at *; omega) (by unfold p2 at *; omega)
theorem shl_one_i {n : Int} (h0 : 0 ≤ n) (h1 : n ≤ 62) : shl .i64 1 n = p2 n := by
  unfold shl
  rw [show min n.toNat IntKind.i64.bits = n.toNat by simp [IntKind.bits]; omega, Int.one_mul, i64_w]
  have a := p2_pos n
  have b := p2_62 h1
  exact w64 (by unfold p2 at *; omega)
theorem shr_u {x n : Int} (h0 : 0 ≤ n) (h1 : n ≤ 64) : shr .u64 x n = x / p2 n := by
  unfold shr p2
  rw [show min n.toNat IntKind.u64.bits = n.toNat by simp [IntKind.bits]; omega]
theorem and_one {x : Int} (h0 : 0 ≤ x) (h1 : x < 18446744073709551616) : Go.bits .and .u64 x 1 = x % 2 := by
  have h := bits_mask .u64 64 (by decide) (fun n a b => by rw [u64w]; omega) 1 (by decide) x h0 (by simpa using h1)
  simpa using h
theorem shift_half {m n : Int} (hm : 0 ≤ m) (hn : 1 ≤ n) : m / p2 n + m / p2 (n - 1) % 2 = half m (p2 n) := by
  have hq := p2_pos (n - 1)
  rw [p2_succ hn]
  generalize p2 (n - 1) = q at *
  unfold half
  have e1 : m / (2 * q) = m / q / 2 := by rw [Int.mul_comm, Int.ediv_ediv_of_nonneg (by omega : (0 : Int) ≤ q)]
  have e2 : (2 * m + 2 * q) / (2 * (2 * q)) = (m + q) / (2 * q) := by
    rw [← Int.mul_add, Int.mul_ediv_mul_of_pos _ _ (by omega)]
  have e3 : (m + q) / (2 * q) = (m / q + 1) / 2 := by
    rw [Int.mul_comm 2 q, ← Int.ediv_ediv_of_nonneg (by omega : (0 : Int) ≤ q)]
    congr 1
    have := Int.add_mul_ediv_right m 1 (show q ≠ 0 by omega)
    rw [Int.one_mul] at this; exact this
  rw [e1, e2, e3]
  omega
/-- The reference's rounding. -/
theorem ref_half {m d : Int} (hm : 0 ≤ m) (hd : 1 ≤ d) : half m d = if m % d ≥ d - m % d then m / d + 1 else m / d := by
  have e := Int.mul_ediv_add_emod m d
  have r0 := Int.emod_nonneg m (show d ≠ 0 by omega)
  have r1 := Int.emod_lt_of_pos m (show 0 < d by omega)
  have b := half_bounds (m := m) hd
  have c : d * (m / d) = m / d * d := Int.mul_comm _ _
  have g : ∀ q : Int, 2 * (q * d) ≤ 2 * m + d → 2 * m + d < 2 * (q * d) + 2 * d → half m d = q := by
    intro q h1 h2
    have k1 : half m d < q + 1 := by
      have : half m d * d < (q + 1) * d := by rw [Int.add_mul, Int.one_mul]; omega
      exact Int.lt_of_mul_lt_mul_right this (by omega)
    have k2 : q < half m d + 1 := by
      have : q * d < (half m d + 1) * d := by rw [Int.add_mul, Int.one_mul]; omega
      exact Int.lt_of_mul_lt_mul_right this (by omega)
    omega
  split
  · apply g <;> rw [Int.add_mul, Int.one_mul] <;> omega
  · apply g <;> omega
end Go.Proofs.Ythjfmgdldjbkgaa.Lib
