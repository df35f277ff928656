/- What the printed functions of layer 2 come to. -/
import Derived.Test.YthjfmgdldjbkgaaCFqMeansDivQ
import Derived.Test.YthjfmgdldjbkgaaCFqMeansNumQ
namespace Go.Proofs.Ythjfmgdldjbkgaa.CFqMeans
open Go.RowKit Go.Proofs.Ythjfmgdldjbkgaa.Lib Go.Proofs.YthjfmgdldjbkgaaW.PrintWords Go.Proofs.YthjfmgdldjbkgaaW.PrintLast Go.Proofs.YthjfmgdldjbkgaaW.PrintMore
set_option linter.unusedVariables false
set_option linter.unusedSimpArgs false
abbrev I64 (x : Int) : Prop := -9223372036854775808 ≤ x ∧ x ≤ 9223372036854775807
theorem magnitude_eq {x : Int} (h : I64 x) : fixq_magnitude.f x = some ((x.natAbs : Int), decide (x < 0)) := by
  unfold fixq_magnitude.f
  split
  · rename_i c; rw [u64w]; simp only [decide_eq_true c]; congr 2; unfold wrap64; omega
  · rename_i c; rw [u64w]; simp only [decide_eq_false c]; congr 2; omega
theorem signed_eq {m : Int} (h0 : 0 ≤ m) (b : Bool) (h1 : b = false → m ≤ 9223372036854775807) (h2 : m ≤ 9223372036854775808) : fixq_signed.f m b = some (if b = true then -m else m) := by
  unfold fixq_signed.f
  split
  · rw [u64w]; congr 1; unfold wrap64; omega
  · rename_i c; rw [w64 (by have := h1 (by simpa using c); omega)]
/-- Is it a valid scale? -/
def Scl (m s : Int) : Prop := 1 ≤ m ∧ m ≤ 2147483647 ∧ 0 ≤ s ∧ s ≤ 62
instance (m s : Int) : Decidable (Scl m s) := by unfold Scl; infer_instance
theorem fValid_eq (m s : Int) : fixq_Valid.f m s = some (decide (Scl m s)) := by
  unfold fixq_Valid.f
  have e1 : m > 0 ↔ 1 ≤ m := by omega
  have e2 : m < 2147483648 ↔ m ≤ 2147483647 := by omega
  have e3 : s ≥ 0 ↔ 0 ≤ s := by omega
  simp only [e1, e2, e3]
  by_cases h1 : 1 ≤ m <;> by_cases h2 : m ≤ 2147483647 <;> by_cases h3 : 0 ≤ s <;> by_cases h4 : s ≤ 62 <;> simp [Scl, h1, h2, h3, h4]
/-- What Shift and its like answer: a sign again. -/
theorem sign_half {x d : Int} (hx : I64 x) (hd : 1 ≤ d) : fixq_signed.f (half x.natAbs d) (decide (x < 0)) = some (rh x d) := by
  have a := half_nonneg (m := x.natAbs) (by omega) hd
  have b := half_le (m := x.natAbs) (by omega) hd
  rw [signed_eq a _ (fun h => by simp at h; omega) (by omega), rh_size hd]
  congr 1
  by_cases c : x < 0 <;> simp [c]
theorem Shift_eq (k : Nat) {x n : Int} (hx : I64 x) (hn : I64 n) : fixq_Shift.f (k + 1) x n = some (if 0 ≤ n ∧ n ≤ 62 then (rh x (p2 n), 0) else (0, 20)) := by
  unfold fixq_Shift.f
  by_cases h : 0 ≤ n ∧ n ≤ 62
  · rw [if_neg (by omega), decide_eq_false (by omega), if_pos h]
    simp only [fixq_Shift.j0, Bool.false_eq_true, if_false]
    rw [magnitude_eq hx]
    simp only [Option.bind_some]
    rw [u64id h.1 (by omega), if_pos h.1]
    have hp := p2_pos n
    have m0 : (0 : Int) ≤ x.natAbs := by omega
    have m1 : (x.natAbs : Int) ≤ 9223372036854775808 := by omega
    by_cases z : n > 0
    · rw [if_pos z, w64 (x := n - 1) (by omega), u64id (n := n - 1) (by omega) (by omega), if_pos (by omega), shr_u h.1 (by omega), shr_u (x := (x.natAbs : Int)) (n := n - 1) (by omega) (by omega)]
      have q1 := p2_pos (n - 1)
      have r0 : 0 ≤ (x.natAbs : Int) / p2 (n - 1) := Int.ediv_nonneg m0 (by omega)
      have r1 : (x.natAbs : Int) / p2 (n - 1) ≤ x.natAbs := Int.ediv_le_self _ m0
      rw [and_one r0 (by omega), shift_half m0 (by omega)]
      have a := half_nonneg (m := x.natAbs) (by omega) hp
      have b := half_le (m := x.natAbs) (by omega) hp
      rw [u64id a (by omega), sign_half hx hp]
      rfl
    · have : n = 0 := by omega
      subst this
      rw [if_neg z, shr_u (by omega) (by omega)]
      have := sign_half hx (show (1 : Int) ≤ 1 by omega)
      rw [half_one] at this
      simp only [p2_zero, Int.ediv_one]
      rw [this]; rfl
  · rw [if_neg h]
    split
    · simp [fixq_Shift.j0]
    · rw [decide_eq_true (by omega)]; simp [fixq_Shift.j0]
theorem mul_scaled {a m : Int} (ha : -4294967296 ≤ a ∧ a ≤ 4294967296) (hm : 1 ≤ m ∧ m ≤ 2147483647) : -9223372036854775808 < a * m ∧ a * m < 9223372036854775808 ∧ ((a * m).natAbs : Int) = a.natAbs * m ∧ (a * m < 0 ↔ a < 0) := by
  have e : ((a * m).natAbs : Int) = a.natAbs * m := by
    rw [Int.natAbs_mul, Int.natCast_mul, show ((m.natAbs : Nat) : Int) = m by omega]
  have b : (a.natAbs : Int) * m ≤ 4294967296 * 2147483647 := Int.mul_le_mul (by omega) hm.2 (by omega) (by omega)
  refine ⟨by omega, by omega, e, ?_⟩
  constructor
  · intro h
    by_cases c : a < 0
    · exact c
    · have : 0 ≤ a * m := Int.mul_nonneg (by omega) (by omega)
      omega
  · intro h; exact Int.mul_neg_of_neg_of_pos h (by omega)
def appS (a m s : Int) : Int × Int := if Scl m s then (if -4294967296 ≤ a ∧ a ≤ 4294967296 then (rh (a * m) (p2 s), 0) else (0, 10)) else (0, 20)
theorem Apply_eq (k : Nat) {a m s : Int} (ha : I64 a) : fixq_Apply.f (k + 1) a m s = some (appS a m s) := by
  unfold fixq_Apply.f appS
  rw [fValid_eq]
  by_cases v : Scl m s
  · have v' := v
    obtain ⟨v1, v2, v3, v4⟩ := v'
    simp only [v, decide_true, Option.bind_some, if_true]
    rw [magnitude_eq ha]
    simp only [Option.bind_some]
    by_cases r : -4294967296 ≤ a ∧ a ≤ 4294967296
    · rw [if_neg (by omega), if_pos r]
      obtain ⟨b1, b2, b3, b4⟩ := mul_scaled r ⟨v1, v2⟩
      rw [u64id (n := m) (by omega) (by omega), ← b3, u64id (n := ((a * m).natAbs : Int)) (by omega) (by omega), w64 (by omega), Shift_eq k (by omega) (by omega), if_pos ⟨v3, v4⟩]
      simp only [Option.bind_some]
      have hp := p2_pos s
      have e : rh ((a * m).natAbs : Int) (p2 s) = half (a * m).natAbs (p2 s) := by unfold rh; rw [if_neg (by omega)]
      have h0 := half_nonneg (m := (a * m).natAbs) (by omega) hp
      have h1 := half_le (m := (a * m).natAbs) (by omega) hp
      rw [e, u64id h0 (by omega), show decide (a < 0) = decide (a * m < 0) by rw [Bool.eq_iff_iff]; simp [b4], sign_half (by omega) hp]
      rfl
    · rw [if_pos (by omega), if_neg r]
  · simp [v]
def meaS (x n : Int) : Int × Int := if n < 1 then (0, 2) else (rh x n, 0)
theorem Mul64_two {m : Int} (h0 : 0 ≤ m) (h1 : m ≤ 9223372036854775808) : bits_Mul64.f m 2 = some (2 * m / 18446744073709551616, 2 * m % 18446744073709551616) := by
  have e := mul64_hi m 2 (by omega) (by omega)
  have e2 : IntKind.u64.wrap (m * 2) = 2 * m % 18446744073709551616 := by rw [u64w, Int.mul_comm]
  rw [Int.mul_comm m 2] at e
  have : bits_Mul64.f m 2 = some (_, IntKind.u64.wrap (m * 2)) := rfl
  rw [this, e, e2]
theorem Div64_tot (k : Nat) (hk : 20 ≤ k) {T n : Int} (h0 : 0 ≤ T) (h1 : T < 27670116110564327425) (hn : 2 ≤ n) (hn1 : n ≤ 9223372036854775807) :
    ∃ r, bits_Div64.f k (T / 18446744073709551616 % n) (T % 18446744073709551616) n = some (T / n, r) := by
  obtain ⟨r, e⟩ := Div64_eq k hk (hi := T / 18446744073709551616 % n) (lo := T % 18446744073709551616) (y := n) (Int.emod_nonneg _ (by omega)) (Int.emod_lt_of_pos _ (by omega)) (by omega) (by omega) (by omega)
  have em : T / 18446744073709551616 % n = T / 18446744073709551616 := Int.emod_eq_of_lt (by omega) (by omega)
  rw [em] at e ⊢
  rw [show T / 18446744073709551616 * 18446744073709551616 + T % 18446744073709551616 = T by omega] at e
  exact ⟨r, e⟩
theorem Mean_one (k : Nat) (hk : 20 ≤ k) {x : Int} (hx : I64 x) : fixq_Mean.f k x 1 = some (x, 0) := by
  unfold fixq_Mean.f
  have m0 : (0 : Int) ≤ x.natAbs := by omega
  have m1 : (x.natAbs : Int) ≤ 9223372036854775808 := by omega
  have s1 := sign_half hx (show (1 : Int) ≤ 1 by omega)
  rw [half_one] at s1
  rw [if_neg (by omega), if_neg (by omega), magnitude_eq hx]
  rw [Option.bind_some]; dsimp only
  rw [Mul64_two m0 m1]
  rw [Option.bind_some]; dsimp only
  generalize hm : (x.natAbs : Int) = m at *
  rw [if_pos (by omega)]
  have d : ∃ q r, bits_Div64.f k ((2 * m / 18446744073709551616 + (2 * m % 18446744073709551616 + 1) / 18446744073709551616) % 1) ((2 * m % 18446744073709551616 + 1) % 18446744073709551616) 1 = some (q, r) ∧ 0 ≤ q ∧ q < 18446744073709551616 := by
    obtain ⟨r, e⟩ := Div64_eq k hk (hi := (2 * m / 18446744073709551616 + (2 * m % 18446744073709551616 + 1) / 18446744073709551616) % 1) (lo := (2 * m % 18446744073709551616 + 1) % 18446744073709551616) (y := 1) (by omega) (by omega) (by omega) (by omega) (by omega)
    exact ⟨_, r, e, by omega, by omega⟩
  obtain ⟨q, r, e, q0, q1⟩ := d
  rw [e]
  rw [Option.bind_some]; dsimp only
  rw [if_pos ⟨q0, q1⟩]
  have r1 : rh x 1 = x := by unfold rh; rw [half_one, half_one]; split <;> omega
  by_cases g : 2 * m / 18446744073709551616 + (2 * m % 18446744073709551616 + 1) / 18446744073709551616 ≥ 1
  · rw [if_pos g, s1, r1]; rfl
  · rw [if_neg g]
    have z : (2 * m / 18446744073709551616 + (2 * m % 18446744073709551616 + 1) / 18446744073709551616) % 1 = 0 := by omega
    obtain ⟨r', e'⟩ := Div64_eq k hk (hi := (2 * m / 18446744073709551616 + (2 * m % 18446744073709551616 + 1) / 18446744073709551616) % 1) (lo := (2 * m % 18446744073709551616 + 1) % 18446744073709551616) (y := 1) (by omega) (by omega) (by omega) (by omega) (by omega)
    rw [e] at e'
    simp only [Option.some.injEq, Prod.mk.injEq] at e'
    have : q / 2 = m := by omega
    rw [this, s1, r1]; rfl
theorem Mean_eq (k : Nat) (hk : 20 ≤ k) {x n : Int} (hx : I64 x) (hn : I64 n) : fixq_Mean.f k x n = some (meaS x n) := by
  unfold meaS
  by_cases c : n < 1
  · unfold fixq_Mean.f
    rw [if_pos c, if_pos c]
  · by_cases n1 : n = 1
    · subst n1
      have r1 : rh x 1 = x := by unfold rh; rw [half_one, half_one]; split <;> omega
      rw [Mean_one k hk hx, if_neg (by omega), r1]
    · unfold fixq_Mean.f
      have m0 : (0 : Int) ≤ x.natAbs := by omega
      have m1 : (x.natAbs : Int) ≤ 9223372036854775808 := by omega
      rw [if_neg c, if_neg (by omega), if_neg c, magnitude_eq hx]
      rw [Option.bind_some]; dsimp only
      rw [Mul64_two m0 m1]
      rw [Option.bind_some]; dsimp only
      have sg := sign_half hx (show (1 : Int) ≤ n by omega)
      generalize hm : (x.natAbs : Int) = m at *
      rw [if_pos (by omega)]
      have e1 : (2 * m / 18446744073709551616 + (2 * m % 18446744073709551616 + n) / 18446744073709551616) = (2 * m + n) / 18446744073709551616 := by omega
      have e2 : (2 * m % 18446744073709551616 + n) % 18446744073709551616 = (2 * m + n) % 18446744073709551616 := by omega
      rw [e1, e2]
      have T0 : 0 ≤ 2 * m + n := by omega
      obtain ⟨r, e⟩ := Div64_tot k hk (T := 2 * m + n) (n := n) T0 (by omega) (by omega) (by omega)
      rw [e]
      rw [Option.bind_some]; dsimp only
      have q0 : 0 ≤ (2 * m + n) / n := Int.ediv_nonneg T0 (by omega)
      have q1 : (2 * m + n) / n < 18446744073709551616 := Int.ediv_lt_of_lt_mul (by omega) (by omega)
      have h2 : (2 * m + n) / n / 2 = half m n := by
        unfold half; rw [Int.mul_comm 2 n, Int.ediv_ediv_of_nonneg (by omega : (0 : Int) ≤ n)]
      rw [if_pos ⟨q0, q1⟩, if_neg (by omega), h2, sg]; rfl
def finS (v z lo hi : Int) : Int × Int := if lo < -128 ∨ hi > 127 ∨ lo > hi ∨ z < -128 ∨ z > 127 then (0, 85) else (near lo hi (near (-32768) 32767 v + z), 0)
theorem Finish_eq (k : Nat) {v z lo hi : Int} (hv : I64 v) (hz : I64 z) : fixq_Finish.f (k + 21) v z lo hi = some (finS v z lo hi) := by
  unfold fixq_Finish.f finS
  rw [num_Fits8_eq hz]
  simp only [Option.bind_some]
  have j : ∀ b, fixq_Finish.j0 (k + 21) v z lo hi b = some (if b = true then (0, 85) else (near lo hi (wrap64 (wrap64 (near (-32768) 32767 v) + z)), 0)) := by
    intro b
    simp only [fixq_Finish.j0]
    rw [num_Sat16_eq k hv]
    simp only [Option.bind_some]
    rw [num_Clamp_near]
    cases b <;> simp
  simp only [j]
  by_cases h : lo < -128 ∨ hi > 127 ∨ lo > hi ∨ z < -128 ∨ z > 127
  · rw [if_pos h]
    repeat' split
    all_goals first | rfl | (exfalso; simp_all; done) | (exfalso; rename_i hh; simp at hh; omega) | (exfalso; simp_all; omega)
  · have : wrap64 (wrap64 (near (-32768) 32767 v) + z) = near (-32768) 32767 v + z := by unfold near wrap64; omega
    rw [if_neg h, if_neg (by omega), if_neg (by omega), if_neg (by omega), this, decide_eq_true (by omega)]
    simp
theorem fixq_fixed (k : Nat) : spillwaylaw02_fixed.f (k + 21) = some true := by
  unfold spillwaylaw02_fixed.f
  rw [Apply_eq (k + 20) (by omega), Mean_eq (k + 21) (by omega) (by omega) (by omega), Finish_eq k (by omega) (by omega), Shift_eq (k + 20) (by omega) (by omega)]
  decide
theorem rhalf_eq {m d : Int} (h0 : 0 ≤ m) (h1 : m ≤ 9223372036854775808) (hd : 1 ≤ d) (hd1 : d ≤ 9223372036854775807) : spillwayref02_half.f m d = some (half m d) := by
  unfold spillwayref02_half.f
  rw [if_neg (by omega), Int.tmod_eq_emod_of_nonneg h0, Int.tdiv_eq_ediv_of_nonneg h0, ref_half h0 hd]
  have r0 := Int.emod_nonneg m (show d ≠ 0 by omega)
  have r1 := Int.emod_lt_of_pos m (show 0 < d by omega)
  have a : 0 ≤ m / d := Int.ediv_nonneg h0 (by omega)
  have b : m / d ≤ m := Int.ediv_le_self _ h0
  rw [u64id (n := d - m % d) (by omega) (by omega), u64id (n := m / d) a (by omega), u64id (n := m / d + 1) (by omega) (by omega)]
  split <;> rfl
theorem rback_eq {x d : Int} (hx : I64 x) (hd : 1 ≤ d) : spillwayref02_back.f (half x.natAbs d) (decide (x < 0)) = some (rh x d) := by
  have a := half_nonneg (m := x.natAbs) (by omega) hd
  have b := half_le (m := x.natAbs) (by omega) hd
  unfold spillwayref02_back.f spillwayref01_Signed.f
  rw [rh_size hd]
  by_cases c : x < 0
  · simp only [c, decide_true, if_true]
    rw [if_neg (by omega)]
    simp only [Option.bind_some]
    congr 1; rw [u64w]; unfold wrap64; omega
  · simp only [c, decide_false, Bool.false_eq_true, if_false]
    rw [if_neg (by omega)]
    simp only [Option.bind_some]
    rw [w64 (by omega)]
theorem rMean_eq {x n : Int} (hx : I64 x) (hn : I64 n) : spillwayref02_Mean.f x n = some (meaS x n) := by
  unfold spillwayref02_Mean.f meaS
  by_cases c : n < 1
  · rw [if_pos c, if_pos c]
  · rw [if_neg c, if_neg c, ref_Size_eq hx]
    simp only [Option.bind_some]
    rw [u64id (n := n) (by omega) (by omega), rhalf_eq (by omega) (by omega) (by omega) (by omega)]
    simp only [Option.bind_some]
    rw [rback_eq hx (by omega)]; rfl
end Go.Proofs.Ythjfmgdldjbkgaa.CFqMeans
