/- What the printed functions of layer 1 come to. -/
import Derived.Test.YthjfmgdldjbkgaaNumLib
import Derived.Test.YthjfmgdldjbkgaaCSanSumsx
namespace Go.Proofs.Ythjfmgdldjbkgaa.CSanSums
open Go.RowKit Go.Proofs.Ythjfmgdldjbkgaa.Lib Go.Proofs.YthjfmgdldjbkgaaW.PrintWords Go.Proofs.YthjfmgdldjbkgaaW.PrintLast Go.Proofs.YthjfmgdldjbkgaaW.PrintMore

theorem num_Add_eq {a b : Int} (ha : -9223372036854775808 ≤ a ∧ a ≤ 9223372036854775807) (hb : -9223372036854775808 ≤ b ∧ b ≤ 9223372036854775807) : num_Add.f a b = some (chk (a + b)) := add_eq ha hb
theorem num_Sub_eq {a b : Int} (ha : -9223372036854775808 ≤ a ∧ a ≤ 9223372036854775807) (hb : -9223372036854775808 ≤ b ∧ b ≤ 9223372036854775807) : num_Sub.f a b = some (chk (a - b)) := sub_eq ha hb
theorem ref_Add_eq {a b : Int} (ha : -9223372036854775808 ≤ a ∧ a ≤ 9223372036854775807) (hb : -9223372036854775808 ≤ b ∧ b ≤ 9223372036854775807) : spillwayref01_Add.f a b = some (chk (a + b)) := radd_eq ha hb
theorem ref_Sub_eq {a b : Int} (ha : -9223372036854775808 ≤ a ∧ a ≤ 9223372036854775807) (hb : -9223372036854775808 ≤ b ∧ b ≤ 9223372036854775807) : spillwayref01_Sub.f a b = some (chk (a - b)) := rsub_eq ha hb

theorem num_Mul_eq (k : Nat) {a b : Int} (ha : -9223372036854775808 ≤ a ∧ a ≤ 9223372036854775807) (hb : -9223372036854775808 ≤ b ∧ b ≤ 9223372036854775807) : num_Mul.f (k + 1) a b = some (chk (a * b)) := by
  unfold num_Mul.f bits_Mul64.f
  simp only [Option.bind_some]
  have hA : 0 ≤ IntKind.u64.wrap a ∧ IntKind.u64.wrap a < 18446744073709551616 := by rw [u64w]; omega
  have hB : 0 ≤ IntKind.u64.wrap b ∧ IntKind.u64.wrap b < 18446744073709551616 := by rw [u64w]; omega
  rw [mul64_hi _ _ hA hB]
  have hh := mul_high ha hb _ _ _ (u64w a) (u64w b) rfl
  have hm := mul_bound ha hb
  have he := mul_end _ hm
  have hl := mul_low a b
  generalize IntKind.u64.wrap (IntKind.u64.wrap a * IntKind.u64.wrap b) = L at *
  generalize IntKind.u64.wrap a * IntKind.u64.wrap b / 18446744073709551616 = U at *
  have w2 : ∀ x y : Int, wrap64 (wrap64 (wrap64 x - y)) = wrap64 (x - y) := fun x y => by unfold wrap64; omega
  have w3 : ∀ x y z : Int, wrap64 (wrap64 (wrap64 x - y) - z) = wrap64 (x - y - z) := fun x y z => by unfold wrap64; omega
  have w4 : ∀ x y : Int, wrap64 (wrap64 x - y) = wrap64 (x - y) := fun x y => by unfold wrap64; omega
  split <;> rename_i c <;> simp only [num_Mul.j0] <;> split <;> rename_i d <;> simp only [c, d, if_true, if_false, Int.sub_zero] at hh
  · rw [w3, hh, hl]; exact he
  · rw [w4, hh, hl]; exact he
  · rw [w4, hh, hl]; exact he
  · rw [hh, hl]; exact he
theorem ref_Size_eq {a : Int} (ha : -9223372036854775808 ≤ a ∧ a ≤ 9223372036854775807) : spillwayref01_Size.f a = some (a.natAbs : Int) := by
  unfold spillwayref01_Size.f
  split
  · rw [u64w, u64w]; congr 1; omega
  · rw [u64w]; congr 1; omega
theorem ref_Mul_eq (k : Nat) {a b : Int} (ha : -9223372036854775808 ≤ a ∧ a ≤ 9223372036854775807) (hb : -9223372036854775808 ≤ b ∧ b ≤ 9223372036854775807) : spillwayref01_Mul.f (k + 1) a b = some (chk (a * b)) := by
  unfold spillwayref01_Mul.f
  rw [ref_Size_eq ha, ref_Size_eq hb]
  simp only [Option.bind_some]
  by_cases a0 : (a.natAbs : Int) = 0
  · rw [if_pos a0]
    have : a = 0 := by omega
    subst this
    simp [spillwayref01_Mul.j0, chk]
  · rw [if_neg a0]
    by_cases b0 : (b.natAbs : Int) = 0
    · have : b = 0 := by omega
      subst this
      simp [spillwayref01_Mul.j0, chk]
    · simp only [spillwayref01_Mul.j0]
      rw [if_neg (by simpa using b0), if_neg b0]
      have hr := rmul_eq b hb (a.natAbs : Int) _ rfl b0
      have hc := natAbs_mul_cases a b
      have hp : 0 ≤ (a.natAbs : Int) * (b.natAbs : Int) := Int.mul_nonneg (by omega) (by omega)
      generalize (a.natAbs : Int) * (b.natAbs : Int) = m at *
      by_cases hle : m ≤ 9223372036854775808
      · rw [if_neg (hr.mpr hle)]
        have hu : IntKind.u64.wrap m = m := by rw [u64w]; omega
        rw [hu]
        unfold spillwayref01_Signed.f
        split at hc
        · rename_i s
          rw [if_pos s, if_neg (by omega)]
          simp only [Option.bind_some, if_true]
          have : wrap64 (IntKind.u64.wrap (-m)) = a * b := by rw [u64w]; unfold wrap64; omega
          rw [this, chk_in (by omega)]
        · rename_i s
          rw [if_neg s]
          split
          · rw [chk_out (by omega)]; simp
          · simp only [Option.bind_some, if_true]
            rw [w64 (by omega), hc, chk_in (by omega)]
      · rw [if_pos (Classical.byContradiction fun t => hle (hr.mp t))]
        rw [chk_out (by split at hc <;> omega)]

/-- The nearest number between two ends. -/
def near (lo hi x : Int) : Int := if x > hi then hi else if x < lo then lo else x
end Go.Proofs.Ythjfmgdldjbkgaa.CSanSums
