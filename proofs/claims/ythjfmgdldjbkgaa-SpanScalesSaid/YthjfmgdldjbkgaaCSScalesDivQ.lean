/- What the printed bits.Len64, bits.Div64 come to. -/
import Derived.Test.YthjfmgdldjbkgaaRndLib
import Derived.Test.YthjfmgdldjbkgaaCSScalesx
namespace Go.Proofs.Ythjfmgdldjbkgaa.CSScales
open Go.RowKit Go.Proofs.Ythjfmgdldjbkgaa.Lib Go.Proofs.YthjfmgdldjbkgaaW.PrintWords Go.Proofs.YthjfmgdldjbkgaaW.PrintLast Go.Proofs.YthjfmgdldjbkgaaW.PrintMore
set_option linter.unusedVariables false
set_option linter.unusedSimpArgs false
def len8 : ByteArray := ⟨#[0, 1, 2, 2, 3, 3, 3, 3, 4, 4, 4, 4, 4, 4, 4, 4, 5, 5, 5, 5, 5, 5, 5, 5, 5, 5, 5, 5, 5, 5, 5, 5, 6, 6, 6, 6, 6, 6, 6, 6, 6, 6, 6, 6, 6, 6, 6, 6, 6, 6, 6, 6, 6, 6, 6, 6, 6, 6, 6, 6, 6, 6, 6, 6, 7, 7, 7, 7, 7, 7, 7, 7, 7, 7, 7, 7, 7, 7, 7, 7, 7, 7, 7, 7, 7, 7, 7, 7, 7, 7, 7, 7, 7, 7, 7, 7, 7, 7, 7, 7, 7, 7, 7, 7, 7, 7, 7, 7, 7, 7, 7, 7, 7, 7, 7, 7, 7, 7, 7, 7, 7, 7, 7, 7, 7, 7, 7, 7, 8, 8, 8, 8, 8, 8, 8, 8, 8, 8, 8, 8, 8, 8, 8, 8, 8, 8, 8, 8, 8, 8, 8, 8, 8, 8, 8, 8, 8, 8, 8, 8, 8, 8, 8, 8, 8, 8, 8, 8, 8, 8, 8, 8, 8, 8, 8, 8, 8, 8, 8, 8, 8, 8, 8, 8, 8, 8, 8, 8, 8, 8, 8, 8, 8, 8, 8, 8, 8, 8, 8, 8, 8, 8, 8, 8, 8, 8, 8, 8, 8, 8, 8, 8, 8, 8, 8, 8, 8, 8, 8, 8, 8, 8, 8, 8, 8, 8, 8, 8, 8, 8, 8, 8, 8, 8, 8, 8, 8, 8, 8, 8, 8, 8, 8, 8, 8, 8, 8, 8, 8, 8, 8, 8, 8, 8, 8, 8]⟩
def len8_ok (i : Nat) : Bool := let n := bt len8 i; (i == 0 && n == 0) || (decide (1 ≤ n) && decide (n ≤ 8) && decide ((2 : Int) ^ (n - 1).toNat ≤ i) && decide ((i : Int) < 2 ^ n.toNat))
theorem len8_all : ∀ i : Fin 256, len8_ok i.1 = true := by decide +kernel
theorem len8_at {x : Int} (h0 : 1 ≤ x) (h1 : x < 256) : 1 ≤ bt len8 x ∧ bt len8 x ≤ 8 ∧ p2 (bt len8 x - 1) ≤ x ∧ x < p2 (bt len8 x) := by
  have h : len8_ok x.toNat = true := len8_all ⟨x.toNat, by omega⟩
  unfold len8_ok at h
  rw [show ((x.toNat : Nat) : Int) = x by omega] at h
  have hx : (x.toNat == 0) = false := by simp; omega
  rw [hx] at h
  unfold p2
  generalize bt len8 x = n at h ⊢
  simp only [Bool.false_and, Bool.false_or, Bool.and_eq_true, decide_eq_true_eq] at h
  exact ⟨h.1.1.1, h.1.1.2, h.1.2, h.2⟩
theorem p2_add {a b : Int} (ha : 0 ≤ a) (hb : 0 ≤ b) : p2 (a + b) = p2 a * p2 b := by
  unfold p2; rw [show (a + b).toNat = a.toNat + b.toNat by omega, Int.pow_add]
/-- Where the number's front has n digits, the number has n and as many as are behind the front. -/
theorem digits {x c m n : Int} (hm : c = p2 m) (hm0 : 0 ≤ m) (hn : 1 ≤ n) (h0 : p2 (n - 1) ≤ x / c) (h1 : x / c < p2 n) : p2 (n + m - 1) ≤ x ∧ x < p2 (n + m) := by
  have hc : 0 < c := by have := p2_pos m; omega
  rw [show n + m - 1 = (n - 1) + m by omega, p2_add (by omega) hm0, p2_add (by omega) hm0, ← hm]
  constructor
  · have := (Int.le_ediv_iff_mul_le hc).mp h0; omega
  · have := (Int.ediv_lt_iff_lt_mul hc).mp h1; omega
end Go.Proofs.Ythjfmgdldjbkgaa.CSScales
