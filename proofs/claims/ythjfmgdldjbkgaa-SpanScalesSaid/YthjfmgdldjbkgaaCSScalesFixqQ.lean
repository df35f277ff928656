/- What the printed functions of layer 2 come to. -/
import Derived.Test.YthjfmgdldjbkgaaCSScalesDivQ
import Derived.Test.YthjfmgdldjbkgaaCSScalesNumQ
namespace Go.Proofs.Ythjfmgdldjbkgaa.CSScales
open Go.RowKit Go.Proofs.Ythjfmgdldjbkgaa.Lib Go.Proofs.YthjfmgdldjbkgaaW.PrintWords Go.Proofs.YthjfmgdldjbkgaaW.PrintLast Go.Proofs.YthjfmgdldjbkgaaW.PrintMore
set_option linter.unusedVariables false
set_option linter.unusedSimpArgs false
abbrev I64 (x : Int) : Prop := -9223372036854775808 ≤ x ∧ x ≤ 9223372036854775807
theorem magnitude_eq {x : Int} (h : I64 x) : fixq_magnitude.f x = some ((x.natAbs : Int), decide (x < 0)) := by
  unfold fixq_magnitude.f
  split
  · rename_i c; rw [u64w]; simp only [decide_eq_true c]; congr 2; unfold wrap64; omega
  · rename_i c; rw [u64w]; simp only [decide_eq_false c]; congr 2; omega
theorem signed_eq {m : Int} (h0 : 0 ≤ m) (b : Bool) (h1 : b = false → m ≤ 9223372036854775807) (h2 : m ≤ 9223372036854775808) : fixq_signed.f m b = some (if b = true then -m else m) := by
  unfold fixq_signed.f
  split
  · rw [u64w]; congr 1; unfold wrap64; omega
  · rename_i c; rw [w64 (by have := h1 (by simpa using c); omega)]
/-- Is it a valid scale? -/
def Scl (m s : Int) : Prop := 1 ≤ m ∧ m ≤ 2147483647 ∧ 0 ≤ s ∧ s ≤ 62
instance (m s : Int) : Decidable (Scl m s) := by unfold Scl; infer_instance
theorem fValid_eq (m s : Int) : fixq_Valid.f m s = some (decide (Scl m s)) := by
  unfold fixq_Valid.f
  have e1 : m > 0 ↔ 1 ≤ m := by omega
  have e2 : m < 2147483648 ↔ m ≤ 2147483647 := by omega
  have e3 : s ≥ 0 ↔ 0 ≤ s := by omega
  simp only [e1, e2, e3]
  by_cases h1 : 1 ≤ m <;> by_cases h2 : m ≤ 2147483647 <;> by_cases h3 : 0 ≤ s <;> by_cases h4 : s ≤ 62 <;> simp [Scl, h1, h2, h3, h4]
/-- What Shift and its like answer: a sign again. -/
theorem sign_half {x d : Int} (hx : I64 x) (hd : 1 ≤ d) : fixq_signed.f (half x.natAbs d) (decide (x < 0)) = some (rh x d) := by
  have a := half_nonneg (m := x.natAbs) (by omega) hd
  have b := half_le (m := x.natAbs) (by omega) hd
  rw [signed_eq a _ (fun h => by simp at h; omega) (by omega), rh_size hd]
  congr 1
  by_cases c : x < 0 <;> simp [c]
theorem Shift_eq (k : Nat) {x n : Int} (hx : I64 x) (hn : I64 n) : fixq_Shift.f (k + 1) x n = some (if 0 ≤ n ∧ n ≤ 62 then (rh x (p2 n), 0) else (0, 20)) := by
  unfold fixq_Shift.f
  by_cases h : 0 ≤ n ∧ n ≤ 62
  · rw [if_neg (by omega), decide_eq_false (by omega), if_pos h]
    simp only [fixq_Shift.j0, Bool.false_eq_true, if_false]
    rw [magnitude_eq hx]
    simp only [Option.bind_some]
    rw [u64id h.1 (by omega), if_pos h.1]
    have hp := p2_pos n
    have m0 : (0 : Int) ≤ x.natAbs := by omega
    have m1 : (x.natAbs : Int) ≤ 9223372036854775808 := by omega
    by_cases z : n > 0
    · rw [if_pos z, w64 (x := n - 1) (by omega), u64id (n := n - 1) (by omega) (by omega), if_pos (by omega), shr_u h.1 (by omega), shr_u (x := (x.natAbs : Int)) (n := n - 1) (by omega) (by omega)]
      have q1 := p2_pos (n - 1)
      have r0 : 0 ≤ (x.natAbs : Int) / p2 (n - 1) := Int.ediv_nonneg m0 (by omega)
      have r1 : (x.natAbs : Int) / p2 (n - 1) ≤ x.natAbs := Int.ediv_le_self _ m0
      rw [and_one r0 (by omega), shift_half m0 (by omega)]
      have a := half_nonneg (m := x.natAbs) (by omega) hp
      have b := half_le (m := x.natAbs) (by omega) hp
      rw [u64id a (by omega), sign_half hx hp]
      rfl
    · have : n = 0 := by omega
      subst this
      rw [if_neg z, shr_u (by omega) (by omega)]
      have := sign_half hx (show (1 : Int) ≤ 1 by omega)
      rw [half_one] at this
      simp only [p2_zero, Int.ediv_one]
      rw [this]; rfl
  · rw [if_neg h]
    split
    · simp [fixq_Shift.j0]
    · rw [decide_eq_true (by omega)]; simp [fixq_Shift.j0]
theorem mul_scaled {a m : Int} (ha : -4294967296 ≤ a ∧ a ≤ 4294967296) (hm : 1 ≤ m ∧ m ≤ 2147483647) : -9223372036854775808 < a * m ∧ a * m < 9223372036854775808 ∧ ((a * m).natAbs : Int) = a.natAbs * m ∧ (a * m < 0 ↔ a < 0) := by
  have e : ((a * m).natAbs : Int) = a.natAbs * m := by
    rw [Int.natAbs_mul, Int.natCast_mul, show ((m.natAbs : Nat) : Int) = m by omega]
  have b : (a.natAbs : Int) * m ≤ 4294967296 * 2147483647 := Int.mul_le_mul (by omega) hm.2 (by omega) (by omega)
  refine ⟨by omega, by omega, e, ?_⟩
  constructor
  · intro h
    by_cases c : a < 0
    · exact c
    · have : 0 ≤ a * m := Int.mul_nonneg (by omega) (by omega)
      omega
  · intro h; exact Int.mul_neg_of_neg_of_pos h (by omega)
def appS (a m s : Int) : Int × Int := if Scl m s then (if -4294967296 ≤ a ∧ a ≤ 4294967296 then (rh (a * m) (p2 s), 0) else (0, 10)) else (0, 20)
theorem Apply_eq (k : Nat) {a m s : Int} (ha : I64 a) : fixq_Apply.f (k + 1) a m s = some (appS a m s) := by
  unfold fixq_Apply.f appS
  rw [fValid_eq]
  by_cases v : Scl m s
  · have v' := v
    obtain ⟨v1, v2, v3, v4⟩ := v'
    simp only [v, decide_true, Option.bind_some, if_true]
    rw [magnitude_eq ha]
    simp only [Option.bind_some]
    by_cases r : -4294967296 ≤ a ∧ a ≤ 4294967296
    · rw [if_neg (by omega), if_pos r]
      obtain ⟨b1, b2, b3, b4⟩ := mul_scaled r ⟨v1, v2⟩
      rw [u64id (n := m) (by omega) (by omega), ← b3, u64id (n := ((a * m).natAbs : Int)) (by omega) (by omega), w64 (by omega), Shift_eq k (by omega) (by omega), if_pos ⟨v3, v4⟩]
      simp only [Option.bind_some]
      have hp := p2_pos s
      have e : rh ((a * m).natAbs : Int) (p2 s) = half (a * m).natAbs (p2 s) := by unfold rh; rw [if_neg (by omega)]
      have h0 := half_nonneg (m := (a * m).natAbs) (by omega) hp
      have h1 := half_le (m := (a * m).natAbs) (by omega) hp
      rw [e, u64id h0 (by omega), show decide (a < 0) = decide (a * m < 0) by rw [Bool.eq_iff_iff]; simp [b4], sign_half (by omega) hp]
      rfl
    · rw [if_pos (by omega), if_neg r]
  · simp [v]
def meaS (x n : Int) : Int × Int := if n < 1 then (0, 2) else (rh x n, 0)
def finS (v z lo hi : Int) : Int × Int := if lo < -128 ∨ hi > 127 ∨ lo > hi ∨ z < -128 ∨ z > 127 then (0, 85) else (near lo hi (near (-32768) 32767 v + z), 0)
theorem rhalf_eq {m d : Int} (h0 : 0 ≤ m) (h1 : m ≤ 9223372036854775808) (hd : 1 ≤ d) (hd1 : d ≤ 9223372036854775807) : spillwayref02_half.f m d = some (half m d) := by
  unfold spillwayref02_half.f
  rw [if_neg (by omega), Int.tmod_eq_emod_of_nonneg h0, Int.tdiv_eq_ediv_of_nonneg h0, ref_half h0 hd]
  have r0 := Int.emod_nonneg m (show d ≠ 0 by omega)
  have r1 := Int.emod_lt_of_pos m (show 0 < d by omega)
  have a : 0 ≤ m / d := Int.ediv_nonneg h0 (by omega)
  have b : m / d ≤ m := Int.ediv_le_self _ h0
  rw [u64id (n := d - m % d) (by omega) (by omega), u64id (n := m / d) a (by omega), u64id (n := m / d + 1) (by omega) (by omega)]
  split <;> rfl
theorem rback_eq {x d : Int} (hx : I64 x) (hd : 1 ≤ d) : spillwayref02_back.f (half x.natAbs d) (decide (x < 0)) = some (rh x d) := by
  have a := half_nonneg (m := x.natAbs) (by omega) hd
  have b := half_le (m := x.natAbs) (by omega) hd
  unfold spillwayref02_back.f spillwayref01_Signed.f
  rw [rh_size hd]
  by_cases c : x < 0
  · simp only [c, decide_true, if_true]
    rw [if_neg (by omega)]
    simp only [Option.bind_some]
    congr 1; rw [u64w]; unfold wrap64; omega
  · simp only [c, decide_false, Bool.false_eq_true, if_false]
    rw [if_neg (by omega)]
    simp only [Option.bind_some]
    rw [w64 (by omega)]
theorem rValid2_eq (m s : Int) : spillwayref02_Valid.f m s = some (decide (Scl m s)) := by
  unfold spillwayref02_Valid.f
  have e1 : m ≥ 1 ↔ 1 ≤ m := by omega
  have e3 : s ≥ 0 ↔ 0 ≤ s := by omega
  simp only [e1, e3]
  by_cases h1 : 1 ≤ m <;> by_cases h2 : m ≤ 2147483647 <;> by_cases h3 : 0 ≤ s <;> by_cases h4 : s ≤ 62 <;> simp [Scl, h1, h2, h3, h4]
theorem rApply_eq (k : Nat) {a m s : Int} (ha : I64 a) : spillwayref02_Apply.f (k + 1) a m s = some (appS a m s) := by
  unfold spillwayref02_Apply.f appS
  rw [rValid2_eq]
  by_cases v : Scl m s
  · have v' := v
    obtain ⟨v1, v2, v3, v4⟩ := v'
    simp only [v, decide_true, Option.bind_some, if_true]
    by_cases r : -4294967296 ≤ a ∧ a ≤ 4294967296
    · rw [if_neg (by omega), decide_eq_false (by omega), if_pos r]
      simp only [spillwayref02_Apply.j0, Bool.false_eq_true, if_false]
      rw [ref_Size_eq ha]
      simp only [Option.bind_some]
      obtain ⟨b1, b2, b3, b4⟩ := mul_scaled r ⟨v1, v2⟩
      have hp := p2_pos s
      have hq := p2_62 v4
      rw [u64id (n := s) v3 (by omega), if_pos v3, u64id (n := m) (by omega) (by omega), ← b3, u64id (n := ((a * m).natAbs : Int)) (by omega) (by omega), shl_one_u v3 v4, rhalf_eq (by omega) (by omega) hp (by omega)]
      simp only [Option.bind_some]
      rw [show decide (a < 0) = decide (a * m < 0) by rw [Bool.eq_iff_iff]; simp [b4], rback_eq (by omega) hp]; rfl
    · rw [if_neg r]
      split
      · simp [spillwayref02_Apply.j0]
      · rw [decide_eq_true (by omega)]; simp [spillwayref02_Apply.j0]
  · simp [v]
end Go.Proofs.Ythjfmgdldjbkgaa.CSScales
