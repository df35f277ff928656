/- What the printed functions of layer 1 come to. -/
import Derived.Test.YthjfmgdldjbkgaaNumLib
import Derived.Test.YthjfmgdldjbkgaaCSScalesx
namespace Go.Proofs.Ythjfmgdldjbkgaa.CSScales
open Go.RowKit Go.Proofs.Ythjfmgdldjbkgaa.Lib Go.Proofs.YthjfmgdldjbkgaaW.PrintWords Go.Proofs.YthjfmgdldjbkgaaW.PrintLast Go.Proofs.YthjfmgdldjbkgaaW.PrintMore

theorem num_Sub_eq {a b : Int} (ha : -9223372036854775808 ≤ a ∧ a ≤ 9223372036854775807) (hb : -9223372036854775808 ≤ b ∧ b ≤ 9223372036854775807) : num_Sub.f a b = some (chk (a - b)) := sub_eq ha hb
theorem ref_Size_eq {a : Int} (ha : -9223372036854775808 ≤ a ∧ a ≤ 9223372036854775807) : spillwayref01_Size.f a = some (a.natAbs : Int) := by
  unfold spillwayref01_Size.f
  split
  · rw [u64w, u64w]; congr 1; omega
  · rw [u64w]; congr 1; omega
/-- The nearest number between two ends. -/
def near (lo hi x : Int) : Int := if x > hi then hi else if x < lo then lo else x
theorem ref_Clamp_eq (x lo hi : Int) : spillwayref01_Clamp.f x lo hi = some (near lo hi x) := by
  unfold spillwayref01_Clamp.f near
  split
  · rfl
  · split <;> rfl
theorem num_Clamp_near (x lo hi : Int) : num_Clamp.f x lo hi = some (near lo hi x) := by
  unfold num_Clamp.f near
  split
  · rfl
  · split <;> rfl
end Go.Proofs.Ythjfmgdldjbkgaa.CSScales
