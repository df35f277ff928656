/- A type of one's own of 16 bits is asked like int16. No condition. -/
import Derived.Test.YtfccnnlbiniahaaNumQ
import Derived.Test.YtfccnnlbiniahaaQSayNumOwn
namespace Go.Proofs.Ytfccnnlbiniahaa.Pure
open Go.RowKit Go.Proofs.Ytfccnnlbiniahaa.Lib Go.Proofs.Ytfccnnlbiniahaa.Q Go.Proofs.YtfccnnlbiniahaaW.PrintWords Go.Proofs.YtfccnnlbiniahaaW.PrintLast
theorem own_loop : ∀ k x a b, spillwaylaw01_word_42.l0 k x a b = num_Sat_int16.l0 k x a b
  | 0, _, _, _ => rfl
  | k + 1, x, a, b => by simp only [spillwaylaw01_word_42.l0, num_Sat_int16.l0, own_loop k]
theorem own_sat (k : Nat) (x : Int) : spillwaylaw01_word_42.f k x = num_Sat_int16.f k x := by
  unfold spillwaylaw01_word_42.f num_Sat_int16.f
  simp only [own_loop]; rfl
theorem NumOwn : spillwaylaw01_NumOwn.Pure := by
  intro x hx
  have hx := bounds_i64 hx
  refine ⟨21, ?_⟩
  unfold spillwaylaw01_NumOwn.f
  have e1 : spillwaylaw01_word_41.f x = num_Fits_int16.f x := rfl
  have e3 : spillwaylaw01_word_43.f x = num_Wrap_int16.f x := rfl
  rw [num_fixed 1, e1, e3, own_sat, num_Fits16_eq hx, num_Sat16_eq 1 hx]
  simp [num_Wrap_int16.f]
end Go.Proofs.Ytfccnnlbiniahaa.Pure
