/- Wrap of a sum is that of the wrapped ones' sum; Sat and Wrap are the number itself just where it fits. No condition. -/
import Derived.Test.YtfccnnlbiniahaaNumQ
import Derived.Test.YtfccnnlbiniahaaQSayNumModulo
namespace Go.Proofs.Ytfccnnlbiniahaa.Pure
open Go.RowKit Go.Proofs.Ytfccnnlbiniahaa.Lib Go.Proofs.Ytfccnnlbiniahaa.Q Go.Proofs.YtfccnnlbiniahaaW.PrintWords Go.Proofs.YtfccnnlbiniahaaW.PrintLast
theorem NumModulo : spillwaylaw01_NumModulo.Pure := by
  intro a b ha hb
  have ha := bounds_i64 ha
  have hb := bounds_i64 hb
  refine ⟨21, ?_⟩
  unfold spillwaylaw01_NumModulo.f
  rw [num_fixed 1, num_Fits16_eq ha, num_Sat16_eq 1 ha]
  simp only [Option.bind_some, if_true, num_Wrap_int16.f]
  have h1 : ((wrap64 (near (-32768) 32767 a)) == a) = decide (-32768 ≤ a ∧ a ≤ 32767) := by
    rw [Bool.eq_iff_iff, beq_iff_eq, decide_eq_true_eq, w64 (by unfold near; omega)]; unfold near; omega
  have h2 : ((wrap64 (IntKind.i16.wrap a)) == a) = decide (-32768 ≤ a ∧ a ≤ 32767) := by
    rw [Bool.eq_iff_iff, beq_iff_eq, decide_eq_true_eq, i16w, w64 (by omega)]; omega
  rw [h1, h2]
  simp only [bne_self_eq_false, Bool.false_eq_true, if_false, spillwaylaw01_NumModulo.j0]
  rw [num_Add_eq ha hb]
  simp only [Option.bind_some]
  by_cases h : -9223372036854775808 ≤ a + b ∧ a + b ≤ 9223372036854775807
  · rw [chk_in h]
    simp only [if_true, num_Wrap_int16.f, num_Wrap_int32.f, num_Wrap_int8.f, Option.bind_some]
    rw [if_pos (by simp only [i16w]; unfold wrap64; omega), if_pos (by unfold wrap32 wrap64; omega)]
    simp only [Option.some.injEq, beq_iff_eq]
    simp only [i8w]; unfold wrap64; omega
  · rw [chk_out h]; simp
end Go.Proofs.Ytfccnnlbiniahaa.Pure
