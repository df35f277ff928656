/- Every Join is the document's, whichever of the two comes first. No condition. -/
import Derived.Test.YtnbhimgojnclbaaCLeJoinsLaneQ
import Derived.Test.YtnbhimgojnclbaaCLeJoinsSayLaneJoins
namespace Go.Proofs.Ytnbhimgojnclbaa.Pure
open Go.RowKit Go.Proofs.Ytnbhimgojnclbaa Go.Proofs.Ytnbhimgojnclbaa.Lib Go.Proofs.Ytnbhimgojnclbaa.CLeJoins Go.Proofs.YtnbhimgojnclbaaW.PrintWords Go.Proofs.YtnbhimgojnclbaaW.PrintLast Go.Proofs.YtnbhimgojnclbaaW.PrintMore
def lowOf (m a n b : Int) : Int := if m ≠ 0 ∧ n ≠ 0 then min a b else if m ≠ 0 then a else if n ≠ 0 then b else 0
def highOf (m a n b : Int) : Int := if m ≠ 0 ∧ n ≠ 0 then max a b else if m ≠ 0 then a else if n ≠ 0 then b else 0
theorem lowOf_comm (m a n b : Int) : lowOf m a n b = lowOf n b m a := by
  unfold lowOf; by_cases c : m = 0 <;> by_cases d : n = 0 <;> simp [c, d]; omega
theorem highOf_comm (m a n b : Int) : highOf m a n b = highOf n b m a := by
  unfold highOf; by_cases c : m = 0 <;> by_cases d : n = 0 <;> simp [c, d]; omega
theorem mn_min (a b : Int) : mn a b = min a b := by unfold mn; omega
theorem mx_max (a b : Int) : mx a b = max a b := by unfold mx; omega
theorem ends_eq (k : Nat) (m al ah n bl bh : Int) : lane_ends.f (k + 1) (m != 0) al ah (n != 0) bl bh = some (lowOf m al n bl, highOf m ah n bh) := by
  unfold lane_ends.f lowOf highOf
  by_cases c : m = 0 <;> by_cases d : n = 0 <;> simp [c, d, lane_ends.j0, mn_min, mx_max]
theorem low_eq (k : Nat) (m a n b : Int) : spillwayref20_low.f (k + 1) m a n b = some (lowOf m a n b) := by
  unfold spillwayref20_low.f lowOf
  by_cases c : m = 0 <;> by_cases d : n = 0 <;> simp [c, d, spillwayref20_low.j0, mn_min]
theorem high_eq (k : Nat) (m a n b : Int) : spillwayref20_high.f (k + 1) m a n b = some (highOf m a n b) := by
  unfold spillwayref20_high.f
  rw [low_eq]
  unfold lowOf highOf
  by_cases c : m = 0 <;> by_cases d : n = 0 <;> simp [c, d, mx_max]
theorem LaneJoins : spillwaylaw20_LaneJoins.Pure := by
  intro a0 a1 a2 a3 a4 a5 a6 a7 a8 b0 b1 b2 b3 b4 b5 b6 b7 b8 _ _ _ _ _ _ _ _ _ _ _ _ _ _ _ _ _ _
  refine ⟨4, ?_⟩
  unfold spillwaylaw20_LaneJoins.f lane_Join.f spillwayref20_Join.f
  have z : ((0 : Int) != 0) = ((0 : Int) != 0) := rfl
  rw [lane_fixed 0]
  simp only [ends_eq 3, low_eq 3, high_eq 3, Option.bind_some, if_true]
  rw [lowOf_comm b1 b5 a1 a5, highOf_comm b1 b6 a1 a6, lowOf_comm b3 b7 a3 a7, highOf_comm b3 b8 a3 a8, Int.add_comm b0, Int.add_comm b1, Int.add_comm b2, Int.add_comm b3, Int.add_comm b4]
  simp only [beq_self_eq_true, Bool.and_self, if_true]
end Go.Proofs.Ytnbhimgojnclbaa.Pure
