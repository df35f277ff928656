/- The long division of two words by one, half by half: plain arithmetic. -/
import Derived.Test.YthjfmgdldjbkgaaNumLib
namespace Go.Proofs.Ythjfmgdldjbkgaa.Lib
open Go.RowKit Go.Proofs.YthjfmgdldjbkgaaW.PrintWords Go.Proofs.YthjfmgdldjbkgaaW.PrintMore
set_option linter.unusedVariables false

/-- One half step: what holds of the guess q and its rest r. -/
structure Half (y yh yl u d q r : Int) : Prop where
  hy : y = yh * 4294967296 + yl
  yh0 : 2147483648 ≤ yh
  yh1 : yh < 4294967296
  yl0 : 0 ≤ yl
  yl1 : yl < 4294967296
  u0 : 0 ≤ u
  u1 : u < y
  d0 : 0 ≤ d
  d1 : d < 4294967296
  e : u = q * yh + r
  r0 : 0 ≤ r
  r1 : r < 4294967296
  q0 : 0 ≤ q
  q1 : q ≤ 4294967297
  hi : (u * 4294967296 + d) / y ≤ q
variable {y yh yl u d q r : Int}
theorem Half.pos (h : Half y yh yl u d q r) : 0 < y := by have := h.hy; have := h.yh0; have := h.yl0; omega
theorem Half.start (hy : y = yh * 4294967296 + yl) (yh0 : 2147483648 ≤ yh) (yh1 : yh < 4294967296) (yl0 : 0 ≤ yl) (yl1 : yl < 4294967296) (u0 : 0 ≤ u) (u1 : u < y) (d0 : 0 ≤ d) (d1 : d < 4294967296) :
    Half y yh yl u d (u / yh) (u - u / yh * yh) := by
  have e := Int.mul_ediv_add_emod u yh
  have m0 := Int.emod_nonneg u (show yh ≠ 0 by omega)
  have m1 := Int.emod_lt_of_pos u (show 0 < yh by omega)
  have c : u / yh * yh = yh * (u / yh) := Int.mul_comm _ _
  refine ⟨hy, yh0, yh1, yl0, yl1, u0, u1, d0, d1, by omega, by omega, by omega, Int.ediv_nonneg u0 (by omega), ?_, ?_⟩
  · have : u / yh < 4294967298 := Int.ediv_lt_of_lt_mul (by omega) (by omega)
    omega
  · have : (u * 4294967296 + d) / y < u / yh + 1 := by
      apply Int.ediv_lt_of_lt_mul (by omega)
      have h1 : u < (u / yh + 1) * yh := by rw [Int.add_mul, Int.one_mul]; omega
      have h2 : u + 1 ≤ (u / yh + 1) * yh := by omega
      have h3 : (u + 1) * 4294967296 ≤ (u / yh + 1) * yh * 4294967296 := Int.mul_le_mul_of_nonneg_right h2 (by omega)
      have h4 : 0 ≤ (u / yh + 1) * yl := Int.mul_nonneg (by have := Int.ediv_nonneg u0 (show 0 ≤ yh by omega); omega) yl0
      rw [hy, Int.mul_add, ← Int.mul_assoc]
      omega
    omega
/-- Where the test says no, the guess is right. -/
theorem Half.done (h : Half y yh yl u d q r) (hq : q < 4294967296) (ht : q * yl ≤ 4294967296 * r + d) : q = (u * 4294967296 + d) / y := by
  have hp := h.pos
  have : q ≤ (u * 4294967296 + d) / y := by
    rw [Int.le_ediv_iff_mul_le hp, h.hy, Int.mul_add, ← Int.mul_assoc]
    have := h.e
    omega
  have := h.hi
  omega
theorem Half.too (h : Half y yh yl u d q r) (ht : q ≥ 4294967296 ∨ q * yl > 4294967296 * r + d) : (u * 4294967296 + d) / y ≤ q - 1 := by
  have hp := h.pos
  have : (u * 4294967296 + d) / y < q := by
    rcases ht with ht | ht
    · have : (u * 4294967296 + d) / y < 4294967296 := Int.ediv_lt_of_lt_mul hp (by have := h.u1; have := h.d1; omega)
      omega
    · apply Int.ediv_lt_of_lt_mul hp
      rw [h.hy, Int.mul_add, ← Int.mul_assoc]
      have := h.e
      omega
  omega
theorem Half.pos_q (h : Half y yh yl u d q r) (ht : q ≥ 4294967296 ∨ q * yl > 4294967296 * r + d) : 1 ≤ q := by
  have := h.too ht
  have h0 : 0 ≤ (u * 4294967296 + d) / y := Int.ediv_nonneg (by have := h.u0; have := h.d0; omega) (by have := h.pos; omega)
  omega
theorem Half.next (h : Half y yh yl u d q r) (ht : q ≥ 4294967296 ∨ q * yl > 4294967296 * r + d) (hr : r + yh < 4294967296) : Half y yh yl u d (q - 1) (r + yh) := by
  have h1 := h.pos_q ht
  have h2 := h.too ht
  obtain ⟨hy, yh0, yh1, yl0, yl1, u0, u1, d0, d1, e, r0, r1, q0, q1, hi⟩ := h
  exact ⟨hy, yh0, yh1, yl0, yl1, u0, u1, d0, d1, by rw [Int.sub_mul, Int.one_mul]; omega, by omega, hr, by omega, by omega, h2⟩
theorem Half.last (h : Half y yh yl u d q r) (ht : q ≥ 4294967296 ∨ q * yl > 4294967296 * r + d) (hr : r + yh ≥ 4294967296) : q - 1 = (u * 4294967296 + d) / y := by
  have h1 := h.pos_q ht
  have h2 := h.too ht
  have hp := h.pos
  obtain ⟨hy, yh0, yh1, yl0, yl1, u0, u1, d0, d1, e, r0, r1, q0, q1, hi⟩ := h
  have : q - 1 ≤ (u * 4294967296 + d) / y := by
    rw [Int.le_ediv_iff_mul_le hp, hy, Int.mul_add, ← Int.mul_assoc]
    have b : (q - 1) * yl ≤ 4294967296 * 4294967295 := Int.mul_le_mul (by omega) (by omega) yl0 (by omega)
    have c : (q - 1) * yh = q * yh - yh := by rw [Int.sub_mul, Int.one_mul]
    omega
  omega
theorem Half.prod (h : Half y yh yl u d q r) : 0 ≤ q * yl ∧ q * yl < 18446744073709551616 := by
  have b : q * yl ≤ 4294967297 * 4294967295 := Int.mul_le_mul h.q1 (by have := h.yl1; omega) h.yl0 (by omega)
  exact ⟨Int.mul_nonneg h.q0 h.yl0, by omega⟩
end Go.Proofs.Ythjfmgdldjbkgaa.Lib
