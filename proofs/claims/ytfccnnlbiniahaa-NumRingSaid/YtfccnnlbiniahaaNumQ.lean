/- What the printed functions of layer 1 come to. -/
import Derived.Test.YtfccnnlbiniahaaNumLib
import Derived.Test.YtfccnnlbiniahaaQx
namespace Go.Proofs.Ytfccnnlbiniahaa.Q
open Go.RowKit Go.Proofs.Ytfccnnlbiniahaa.Lib Go.Proofs.YtfccnnlbiniahaaW.PrintWords Go.Proofs.YtfccnnlbiniahaaW.PrintLast Go.Proofs.YtfccnnlbiniahaaW.PrintMore

theorem num_Add_eq {a b : Int} (ha : -9223372036854775808 ≤ a ∧ a ≤ 9223372036854775807) (hb : -9223372036854775808 ≤ b ∧ b ≤ 9223372036854775807) : num_Add.f a b = some (chk (a + b)) := add_eq ha hb
theorem num_Sub_eq {a b : Int} (ha : -9223372036854775808 ≤ a ∧ a ≤ 9223372036854775807) (hb : -9223372036854775808 ≤ b ∧ b ≤ 9223372036854775807) : num_Sub.f a b = some (chk (a - b)) := sub_eq ha hb
theorem ref_Add_eq {a b : Int} (ha : -9223372036854775808 ≤ a ∧ a ≤ 9223372036854775807) (hb : -9223372036854775808 ≤ b ∧ b ≤ 9223372036854775807) : spillwayref01_Add.f a b = some (chk (a + b)) := radd_eq ha hb
theorem ref_Sub_eq {a b : Int} (ha : -9223372036854775808 ≤ a ∧ a ≤ 9223372036854775807) (hb : -9223372036854775808 ≤ b ∧ b ≤ 9223372036854775807) : spillwayref01_Sub.f a b = some (chk (a - b)) := rsub_eq ha hb

theorem num_Mul_eq (k : Nat) {a b : Int} (ha : -9223372036854775808 ≤ a ∧ a ≤ 9223372036854775807) (hb : -9223372036854775808 ≤ b ∧ b ≤ 9223372036854775807) : num_Mul.f (k + 1) a b = some (chk (a * b)) := by
  unfold num_Mul.f bits_Mul64.f
  simp only [Option.bind_some]
  have hA : 0 ≤ IntKind.u64.wrap a ∧ IntKind.u64.wrap a < 18446744073709551616 := by rw [u64w]; omega
  have hB : 0 ≤ IntKind.u64.wrap b ∧ IntKind.u64.wrap b < 18446744073709551616 := by rw [u64w]; omega
  rw [mul64_hi _ _ hA hB]
  have hh := mul_high ha hb _ _ _ (u64w a) (u64w b) rfl
  have hm := mul_bound ha hb
  have he := mul_end _ hm
  have hl := mul_low a b
  generalize IntKind.u64.wrap (IntKind.u64.wrap a * IntKind.u64.wrap b) = L at *
  generalize IntKind.u64.wrap a * IntKind.u64.wrap b / 18446744073709551616 = U at *
  have w2 : ∀ x y : Int, wrap64 (wrap64 (wrap64 x - y)) = wrap64 (x - y) := fun x y => by unfold wrap64; omega
  have w3 : ∀ x y z : Int, wrap64 (wrap64 (wrap64 x - y) - z) = wrap64 (x - y - z) := fun x y z => by unfold wrap64; omega
  have w4 : ∀ x y : Int, wrap64 (wrap64 x - y) = wrap64 (x - y) := fun x y => by unfold wrap64; omega
  split <;> rename_i c <;> simp only [num_Mul.j0] <;> split <;> rename_i d <;> simp only [c, d, if_true, if_false, Int.sub_zero] at hh
  · rw [w3, hh, hl]; exact he
  · rw [w4, hh, hl]; exact he
  · rw [w4, hh, hl]; exact he
  · rw [hh, hl]; exact he
theorem ref_Size_eq {a : Int} (ha : -9223372036854775808 ≤ a ∧ a ≤ 9223372036854775807) : spillwayref01_Size.f a = some (a.natAbs : Int) := by
  unfold spillwayref01_Size.f
  split
  · rw [u64w, u64w]; congr 1; omega
  · rw [u64w]; congr 1; omega
theorem ref_Mul_eq (k : Nat) {a b : Int} (ha : -9223372036854775808 ≤ a ∧ a ≤ 9223372036854775807) (hb : -9223372036854775808 ≤ b ∧ b ≤ 9223372036854775807) : spillwayref01_Mul.f (k + 1) a b = some (chk (a * b)) := by
  unfold spillwayref01_Mul.f
  rw [ref_Size_eq ha, ref_Size_eq hb]
  simp only [Option.bind_some]
  by_cases a0 : (a.natAbs : Int) = 0
  · rw [if_pos a0]
    have : a = 0 := by omega
    subst this
    simp [spillwayref01_Mul.j0, chk]
  · rw [if_neg a0]
    by_cases b0 : (b.natAbs : Int) = 0
    · have : b = 0 := by omega
      subst this
      simp [spillwayref01_Mul.j0, chk]
    · simp only [spillwayref01_Mul.j0]
      rw [if_neg (by simpa using b0), if_neg b0]
      have hr := rmul_eq b hb (a.natAbs : Int) _ rfl b0
      have hc := natAbs_mul_cases a b
      have hp : 0 ≤ (a.natAbs : Int) * (b.natAbs : Int) := Int.mul_nonneg (by omega) (by omega)
      generalize (a.natAbs : Int) * (b.natAbs : Int) = m at *
      by_cases hle : m ≤ 9223372036854775808
      · rw [if_neg (hr.mpr hle)]
        have hu : IntKind.u64.wrap m = m := by rw [u64w]; omega
        rw [hu]
        unfold spillwayref01_Signed.f
        split at hc
        · rename_i s
          rw [if_pos s, if_neg (by omega)]
          simp only [Option.bind_some, if_true]
          have : wrap64 (IntKind.u64.wrap (-m)) = a * b := by rw [u64w]; unfold wrap64; omega
          rw [this, chk_in (by omega)]
        · rename_i s
          rw [if_neg s]
          split
          · rw [chk_out (by omega)]; simp
          · simp only [Option.bind_some, if_true]
            rw [w64 (by omega), hc, chk_in (by omega)]
      · rw [if_pos (Classical.byContradiction fun t => hle (hr.mp t))]
        rw [chk_out (by split at hc <;> omega)]

theorem num_Clamp_eq (a b c : Int) : num_Clamp.f a b c = spillwayref01_Clamp.f a b c := rfl
/-- The nearest number between two ends. -/
def near (lo hi x : Int) : Int := if x > hi then hi else if x < lo then lo else x
theorem ref_Clamp_eq (x lo hi : Int) : spillwayref01_Clamp.f x lo hi = some (near lo hi x) := by
  unfold spillwayref01_Clamp.f near
  split
  · rfl
  · split <;> rfl
theorem num_Clamp_near (x lo hi : Int) : num_Clamp.f x lo hi = some (near lo hi x) := ref_Clamp_eq x lo hi

theorem num_Fits8_eq {x : Int} (hx : -9223372036854775808 ≤ x ∧ x ≤ 9223372036854775807) : num_Fits_int8.f x = some (decide (-128 ≤ x ∧ x ≤ 127)) := by
  unfold num_Fits_int8.f; congr 1; rw [i8w]; unfold wrap64; rw [Bool.eq_iff_iff]; simp; omega
theorem num_Fits16_eq {x : Int} (hx : -9223372036854775808 ≤ x ∧ x ≤ 9223372036854775807) : num_Fits_int16.f x = some (decide (-32768 ≤ x ∧ x ≤ 32767)) := by
  unfold num_Fits_int16.f; congr 1; rw [i16w]; unfold wrap64; rw [Bool.eq_iff_iff]; simp; omega
theorem num_Fits32_eq {x : Int} (hx : -9223372036854775808 ≤ x ∧ x ≤ 9223372036854775807) : num_Fits_int32.f x = some (decide (-2147483648 ≤ x ∧ x ≤ 2147483647)) := by
  unfold num_Fits_int32.f; congr 1; unfold wrap32 wrap64; rw [Bool.eq_iff_iff]; simp; omega
theorem Sat8_loop (k : Nat) (x : Int) : num_Sat_int8.l0 (k + 20) x 1 (1 * 2) = some (if x < 0 then -128 else 127) := by
  have : ∀ m, num_Sat_int8.l0 (m + 8) x 1 (1 * 2) = some (if x < 0 then -128 else 127) := fun m => by
    simp [num_Sat_int8.l0, i8w]
    split <;> rfl
  exact this (k + 12)
theorem Sat16_loop (k : Nat) (x : Int) : num_Sat_int16.l0 (k + 20) x 1 (1 * 2) = some (if x < 0 then -32768 else 32767) := by
  have : ∀ m, num_Sat_int16.l0 (m + 16) x 1 (1 * 2) = some (if x < 0 then -32768 else 32767) := fun m => by
    simp [num_Sat_int16.l0, i16w]
    split <;> rfl
  exact this (k + 4)
theorem Sat32_loop (k : Nat) (x : Int) : num_Sat_int32.l0 (k + 40) x 1 (1 * 2) = some (if x < 0 then -2147483648 else 2147483647) := by
  have : ∀ m, num_Sat_int32.l0 (m + 32) x 1 (1 * 2) = some (if x < 0 then -2147483648 else 2147483647) := fun m => by
    simp [num_Sat_int32.l0, wrap32]
    split <;> rfl
  exact this (k + 8)
theorem num_Sat8_eq (k : Nat) {x : Int} (hx : -9223372036854775808 ≤ x ∧ x ≤ 9223372036854775807) : num_Sat_int8.f (k + 20) x = some (near (-128) 127 x) := by
  unfold num_Sat_int8.f
  rw [num_Fits8_eq hx]
  simp only [Option.bind_some, decide_eq_true_eq]
  unfold near
  split
  · rw [i8w, if_neg (by omega), if_neg (by omega)]; congr 1; omega
  · rw [Sat8_loop]; congr 1; split <;> split <;> omega
theorem num_Sat16_eq (k : Nat) {x : Int} (hx : -9223372036854775808 ≤ x ∧ x ≤ 9223372036854775807) : num_Sat_int16.f (k + 20) x = some (near (-32768) 32767 x) := by
  unfold num_Sat_int16.f
  rw [num_Fits16_eq hx]
  simp only [Option.bind_some, decide_eq_true_eq]
  unfold near
  split
  · rw [i16w, if_neg (by omega), if_neg (by omega)]; congr 1; omega
  · rw [Sat16_loop]; congr 1; split <;> split <;> omega
theorem num_Sat32_eq (k : Nat) {x : Int} (hx : -9223372036854775808 ≤ x ∧ x ≤ 9223372036854775807) : num_Sat_int32.f (k + 40) x = some (near (-2147483648) 2147483647 x) := by
  unfold num_Sat_int32.f
  rw [num_Fits32_eq hx]
  simp only [Option.bind_some, decide_eq_true_eq]
  unfold near
  split
  · unfold wrap32; rw [if_neg (by omega), if_neg (by omega)]; congr 1; omega
  · rw [Sat32_loop]; congr 1; split <;> split <;> omega
theorem num_fixed (k : Nat) : spillwaylaw01_fixed.f (k + 20) = some true := by
  unfold spillwaylaw01_fixed.f
  rw [num_Add_eq (by omega) (by omega), num_Sub_eq (by omega) (by omega)]
  simp only [Option.bind_some]
  rw [num_Fits8_eq (by omega), num_Sat16_eq k (by omega), num_Clamp_near]
  simp [chk, near, num_Wrap_int16.f, i16w]
end Go.Proofs.Ytfccnnlbiniahaa.Q
