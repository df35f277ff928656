/- What the printed functions of layer 1 come to. -/
import Derived.Test.YthjfmgdldjbkgaaNumLib
import Derived.Test.YthjfmgdldjbkgaaCSnTightx
namespace Go.Proofs.Ythjfmgdldjbkgaa.CSnTight
open Go.RowKit Go.Proofs.Ythjfmgdldjbkgaa.Lib Go.Proofs.YthjfmgdldjbkgaaW.PrintWords Go.Proofs.YthjfmgdldjbkgaaW.PrintLast Go.Proofs.YthjfmgdldjbkgaaW.PrintMore

theorem num_Add_eq {a b : Int} (ha : -9223372036854775808 ≤ a ∧ a ≤ 9223372036854775807) (hb : -9223372036854775808 ≤ b ∧ b ≤ 9223372036854775807) : num_Add.f a b = some (chk (a + b)) := add_eq ha hb
theorem num_Sub_eq {a b : Int} (ha : -9223372036854775808 ≤ a ∧ a ≤ 9223372036854775807) (hb : -9223372036854775808 ≤ b ∧ b ≤ 9223372036854775807) : num_Sub.f a b = some (chk (a - b)) := sub_eq ha hb
theorem num_Mul_eq (k : Nat) {a b : Int} (ha : -9223372036854775808 ≤ a ∧ a ≤ 9223372036854775807) (hb : -9223372036854775808 ≤ b ∧ b ≤ 9223372036854775807) : num_Mul.f (k + 1) a b = some (chk (a * b)) := by
  unfold num_Mul.f bits_Mul64.f
  simp only [Option.bind_some]
  have hA : 0 ≤ IntKind.u64.wrap a ∧ IntKind.u64.wrap a < 18446744073709551616 := by rw [u64w]; omega
  have hB : 0 ≤ IntKind.u64.wrap b ∧ IntKind.u64.wrap b < 18446744073709551616 := by rw [u64w]; omega
  rw [mul64_hi _ _ hA hB]
  have hh := mul_high ha hb _ _ _ (u64w a) (u64w b) rfl
  have hm := mul_bound ha hb
  have he := mul_end _ hm
  have hl := mul_low a b
  generalize IntKind.u64.wrap (IntKind.u64.wrap a * IntKind.u64.wrap b) = L at *
  generalize IntKind.u64.wrap a * IntKind.u64.wrap b / 18446744073709551616 = U at *
  have w2 : ∀ x y : Int, wrap64 (wrap64 (wrap64 x - y)) = wrap64 (x - y) := fun x y => by unfold wrap64; omega
  have w3 : ∀ x y z : Int, wrap64 (wrap64 (wrap64 x - y) - z) = wrap64 (x - y - z) := fun x y z => by unfold wrap64; omega
  have w4 : ∀ x y : Int, wrap64 (wrap64 x - y) = wrap64 (x - y) := fun x y => by unfold wrap64; omega
  split <;> rename_i c <;> simp only [num_Mul.j0] <;> split <;> rename_i d <;> simp only [c, d, if_true, if_false, Int.sub_zero] at hh
  · rw [w3, hh, hl]; exact he
  · rw [w4, hh, hl]; exact he
  · rw [w4, hh, hl]; exact he
  · rw [hh, hl]; exact he
/-- The nearest number between two ends. -/
def near (lo hi x : Int) : Int := if x > hi then hi else if x < lo then lo else x
end Go.Proofs.Ythjfmgdldjbkgaa.CSnTight
