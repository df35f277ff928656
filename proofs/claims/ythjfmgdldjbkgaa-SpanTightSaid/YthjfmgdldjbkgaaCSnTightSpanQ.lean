/- What the printed functions of layer 3 come to (sums, sets). -/
import Derived.Test.YthjfmgdldjbkgaaCSnTightNumQ
namespace Go.Proofs.Ythjfmgdldjbkgaa.CSnTight
open Go.RowKit Go.Proofs.Ythjfmgdldjbkgaa.Lib Go.Proofs.YthjfmgdldjbkgaaW.PrintWords Go.Proofs.YthjfmgdldjbkgaaW.PrintLast Go.Proofs.YthjfmgdldjbkgaaW.PrintMore
set_option linter.unusedVariables false
set_option linter.unusedSimpArgs false
/-- Two checked ends. -/
def ends2 (x y : Int) : Int × Int × Int := if (-9223372036854775808 ≤ x ∧ x ≤ 9223372036854775807) ∧ (-9223372036854775808 ≤ y ∧ y ≤ 9223372036854775807) then (x, y, 0) else (0, 0, 10)
theorem pair_chk (x y : Int) : span_pair.f (chk x).1 (chk x).2 (chk y).1 (chk y).2 = some (ends2 x y) := by
  unfold span_pair.f ends2
  by_cases hx : -9223372036854775808 ≤ x ∧ x ≤ 9223372036854775807
  · by_cases hy : -9223372036854775808 ≤ y ∧ y ≤ 9223372036854775807
    · rw [chk_in hx, chk_in hy, if_pos (show ((x, (0 : Int)).2 = 0) from rfl), if_pos (show ((y, (0 : Int)).2 = 0) from rfl), if_pos ⟨hx, hy⟩]
    · rw [chk_in hx, chk_out hy, if_pos (show ((x, (0 : Int)).2 = 0) from rfl), if_neg (by decide), if_neg (fun h => hy h.2)]
  · rw [chk_out hx, if_neg (by decide), if_neg (fun h => hx h.1)]
def addS (a b c d : Int) : Int × Int × Int := if a ≤ b ∧ c ≤ d then ends2 (a + c) (b + d) else (0, 0, 30)
def subS (a b c d : Int) : Int × Int × Int := if a ≤ b ∧ c ≤ d then ends2 (a - d) (b - c) else (0, 0, 30)
def timS (a b k : Int) : Int × Int × Int := if a ≤ b then (if k < 0 then ends2 (b * k) (a * k) else ends2 (a * k) (b * k)) else (0, 0, 30)
variable {a b c d x : Int}
abbrev R64 (x : Int) : Prop := -9223372036854775808 ≤ x ∧ x ≤ 9223372036854775807
theorem triple (p : Int × Int × Int) : some (p.1, p.2.1, p.2.2) = some p := rfl
theorem span_Add_eq (k : Nat) (ha : R64 a) (hb : R64 b) (hc : R64 c) (hd : R64 d) : span_Add.f (k + 1) a b c d = some (addS a b c d) := by
  unfold span_Add.f span_Valid.f addS
  by_cases h1 : a ≤ b
  · by_cases h2 : c ≤ d
    · simp only [Option.bind_some, h1, h2, decide_true, if_true, Bool.not_true, span_Add.j0, Bool.false_eq_true, if_false, and_self]
      rw [num_Add_eq ha hc, num_Add_eq hb hd]
      simp only [Option.bind_some]
      rw [pair_chk]; rfl
    · simp [h1, h2, span_Add.j0]
  · simp [h1, span_Add.j0]
theorem span_Sub_eq (k : Nat) (ha : R64 a) (hb : R64 b) (hc : R64 c) (hd : R64 d) : span_Sub.f (k + 1) a b c d = some (subS a b c d) := by
  unfold span_Sub.f span_Valid.f subS
  by_cases h1 : a ≤ b
  · by_cases h2 : c ≤ d
    · simp only [Option.bind_some, h1, h2, decide_true, if_true, Bool.not_true, span_Sub.j0, Bool.false_eq_true, if_false, and_self]
      rw [num_Sub_eq ha hd, num_Sub_eq hb hc]
      simp only [Option.bind_some]
      rw [pair_chk]; rfl
    · simp [h1, h2, span_Sub.j0]
  · simp [h1, span_Sub.j0]
theorem span_Times_eq (k : Nat) (ha : R64 a) (hb : R64 b) (hx : R64 x) : span_Times.f (k + 1) a b x = some (timS a b x) := by
  unfold span_Times.f span_Valid.f timS
  by_cases h1 : a ≤ b
  · simp only [Option.bind_some, h1, decide_true, if_true]
    rw [num_Mul_eq k ha hx, num_Mul_eq k hb hx]
    simp only [Option.bind_some]
    rw [pair_chk, pair_chk]
    split <;> rfl
  · simp [h1]
theorem span_Holds_eq : span_Holds.f a b c d = some (decide (c ≤ d ∧ a ≤ c ∧ d ≤ b)) := by
  unfold span_Holds.f span_Valid.f
  by_cases h1 : c ≤ d <;> by_cases h2 : a ≤ c <;> simp [h1, h2]
theorem span_Has_eq : span_Has.f a b c = some (decide (a ≤ c ∧ c ≤ b)) := by
  unfold span_Has.f
  by_cases h1 : c ≥ a
  · rw [if_pos h1]; simp; omega
  · rw [if_neg h1]; simp; omega
def metS (a b c d : Int) : Int × Int × Bool := if a ≤ b ∧ c ≤ d ∧ mx a c ≤ mn b d then (mx a c, mn b d, true) else (0, 0, false)
theorem span_Meet_eq : span_Meet.f a b c d = some (metS a b c d) := by
  unfold span_Meet.f span_Make.f metS
  split
  · rename_i h; rw [if_neg (by unfold mx mn at *; omega)]; simp
  · rename_i h
    simp only [Option.bind_some, if_true, span_Holds_eq, decide_eq_true_eq]
    by_cases h2 : a ≤ b ∧ c ≤ d
    · rw [if_pos (by unfold mx mn at *; omega), if_pos (by unfold mx mn at *; omega), if_pos (by unfold mx mn at *; omega)]
    · exfalso; unfold mx mn at *; omega
theorem span_fixed (k : Nat) : spillwaylaw03_fixed.f (k + 1) = some true := by
  unfold spillwaylaw03_fixed.f
  rw [span_Sub_eq k (by omega) (by omega) (by omega) (by omega), span_Meet_eq]
  simp only [span_Has_eq, span_Make.f]
  decide
end Go.Proofs.Ythjfmgdldjbkgaa.CSnTight
