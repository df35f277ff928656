/- Sums and products don't care for order; what is added can be taken away; a product with a sum is the sum of the products, where all are told. No condition. -/
import Derived.Test.YtfccnnlbiniahaaNumQ
import Derived.Test.YtfccnnlbiniahaaQSayNumRing
namespace Go.Proofs.Ytfccnnlbiniahaa.Pure
open Go.RowKit Go.Proofs.Ytfccnnlbiniahaa.Lib Go.Proofs.Ytfccnnlbiniahaa.Q Go.Proofs.YtfccnnlbiniahaaW.PrintWords Go.Proofs.YtfccnnlbiniahaaW.PrintLast
theorem NumRing : spillwaylaw01_NumRing.Pure := by
  intro a b c ha hb hc
  have ha := bounds_i64 ha
  have hb := bounds_i64 hb
  have hc := bounds_i64 hc
  refine ⟨24, ?_⟩
  unfold spillwaylaw01_NumRing.f
  rw [num_fixed 4, num_Add_eq ha hb, num_Add_eq hb ha, Int.add_comm b a]
  simp only [Option.bind_some, if_true, bne_self_eq_false]
  have j1 : ∀ x y : Int, (-9223372036854775808 ≤ x ∧ x ≤ 9223372036854775807) → (y = 0 → x = a + b) → spillwaylaw01_NumRing.j1 23 a b c x y = some true := by
    intro x y hx hy
    simp only [spillwaylaw01_NumRing.j1]
    rw [num_Mul_eq 21 ha hc, num_Mul_eq 21 hc ha, Int.mul_comm c a]
    simp only [Option.bind_some, if_true, bne_self_eq_false, spillwaylaw01_NumRing.j2]
    rw [num_Mul_eq 20 hb hc, num_Mul_eq 20 hx hc]
    simp only [Option.bind_some, Bool.false_eq_true, if_false]
    have hr : ∀ z : Int, -9223372036854775808 ≤ (chk z).1 ∧ (chk z).1 ≤ 9223372036854775807 := by
      intro z; unfold chk; split <;> simp_all
    rw [num_Add_eq (hr _) (hr _)]
    simp only [Option.bind_some]
    by_cases e : y = 0
    · rw [if_pos e, hy e]
      by_cases g : (chk (a * c)).2 = 0
      · rw [if_pos g]
        by_cases h : (chk (b * c)).2 = 0
        · rw [if_pos h]
          have k1 : (chk (a * c)).1 = a * c := by
            unfold chk at g ⊢; split at g <;> simp_all
          have k2 : (chk (b * c)).1 = b * c := by
            unfold chk at h ⊢; split at h <;> simp_all
          rw [k1, k2, Int.add_mul]
          simp
        · rw [if_neg h]
      · rw [if_neg g]
    · rw [if_neg e]
  simp only [spillwaylaw01_NumRing.j0, Bool.false_eq_true, if_false]
  by_cases h : -9223372036854775808 ≤ a + b ∧ a + b ≤ 9223372036854775807
  · rw [chk_in h]
    simp only [if_true]
    rw [num_Sub_eq h hb, show a + b - b = a by omega, chk_in ha]
    simp only [Option.bind_some, if_true]
    exact j1 _ _ h (fun _ => rfl)
  · rw [chk_out h]
    simp only [show ((10 : Int) = 0) = False by simp, if_false]
    exact j1 0 10 (by omega) (by omega)
end Go.Proofs.Ytfccnnlbiniahaa.Pure
