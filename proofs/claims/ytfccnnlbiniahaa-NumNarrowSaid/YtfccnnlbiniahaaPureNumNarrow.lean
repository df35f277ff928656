/- Fits, Sat and Wrap of every number, for 8, 16 and 32 bits, are the document's. No condition. -/
import Derived.Test.YtfccnnlbiniahaaNumQ
import Derived.Test.YtfccnnlbiniahaaQSayNumNarrow
namespace Go.Proofs.Ytfccnnlbiniahaa.Pure
open Go.RowKit Go.Proofs.Ytfccnnlbiniahaa.Lib Go.Proofs.Ytfccnnlbiniahaa.Q Go.Proofs.YtfccnnlbiniahaaW.PrintWords Go.Proofs.YtfccnnlbiniahaaW.PrintLast Go.Proofs.YtfccnnlbiniahaaW.PrintMore
set_option linter.unusedVariables false
set_option linter.unusedSimpArgs false
theorem rfits (n : Int) (x t : Int) (hn : 0 ≤ IntKind.u64.wrap (wrap64 (n - 1))) (ht : shl .i64 1 (IntKind.u64.wrap (wrap64 (n - 1))) = t) (h : 0 ≤ t ∧ t ≤ 9223372036854775807) : spillwayref01_Fits.f n x = some (decide (-t ≤ x ∧ x ≤ t - 1)) := by
  unfold spillwayref01_Fits.f
  rw [if_pos hn, ht, w64 (by omega)]
  split <;> (congr 1; rw [Bool.eq_iff_iff]; simp; omega)
theorem rsat (n : Int) (x t : Int) (hn : 0 ≤ IntKind.u64.wrap (wrap64 (n - 1))) (ht : shl .i64 1 (IntKind.u64.wrap (wrap64 (n - 1))) = t) (h : 0 ≤ t ∧ t ≤ 9223372036854775807) : spillwayref01_Sat.f n x = some (near (-t) (t - 1) x) := by
  unfold spillwayref01_Sat.f
  rw [if_pos hn, ht, w64 (by omega), w64 (by omega), ref_Clamp_eq]
  rfl
theorem rwrap (n : Int) (x m : Int) (hx : -9223372036854775808 ≤ x ∧ x ≤ 9223372036854775807) (hn : 0 ≤ IntKind.u64.wrap n) (ht : shl .i64 1 (IntKind.u64.wrap n) = m) (h : 2 ≤ m ∧ m ≤ 4294967296) (he : m % 2 = 0) :
    spillwayref01_Wrap.f n x = some ((x + m / 2) % m - m / 2) := by
  unfold spillwayref01_Wrap.f
  rw [if_pos hn, ht, if_neg (by omega)]
  have h2 : Int.tdiv m 2 = m / 2 := Int.tdiv_eq_ediv_of_nonneg (by omega)
  rw [h2]
  have e1 : Int.tmod x m = if 0 ≤ x ∨ x % m = 0 then x % m else x % m - m := by
    rw [Int.tmod_eq_emod]
    have : (m.natAbs : Int) = m := by omega
    simp only [Int.dvd_iff_emod_eq_zero]
    by_cases c : 0 ≤ x ∨ x % m = 0
    · have c2 : 0 ≤ x ∨ m ∣ x := by rcases c with c | c; exact .inl c; exact .inr (Int.dvd_of_emod_eq_zero c)
      simp [c]
    · simp [c, this]
  have r0 : 0 ≤ x % m := Int.emod_nonneg x (by omega)
  have r1 : x % m < m := Int.emod_lt_of_pos x (by omega)
  have key : (x + m / 2) % m - m / 2 = if x % m ≥ m / 2 then x % m - m else x % m := by
    have : (x + m / 2) % m = (x % m + m / 2) % m := by rw [Int.emod_add_emod]
    rw [this]
    split
    · rw [show x % m + m / 2 = (x % m + m / 2 - m) + m by omega, Int.add_emod_right, Int.emod_eq_of_lt (by omega) (by omega)]; omega
    · rw [Int.emod_eq_of_lt (by omega) (by omega)]; omega
  rw [key, e1]
  generalize x % m = r at *
  split
  · rw [if_neg (by omega)]
    split
    · rw [w64 (x := m / 2) (by omega)] at *
      rw [if_pos (by assumption), w64 (by omega)]
    · rw [w64 (x := m / 2) (by omega)] at *
      rw [if_neg (by assumption)]
  · rw [if_pos (by omega), w64 (x := r - m + m) (by omega), w64 (x := m / 2) (by omega)]
    rw [show r - m + m = r by omega]
    split
    · rw [w64 (by omega)]
    · rfl
theorem s7 : 0 ≤ IntKind.u64.wrap (wrap64 (8 - 1)) ∧ shl .i64 1 (IntKind.u64.wrap (wrap64 (8 - 1))) = 128 := by rw [u64w]; decide +kernel
theorem s15 : 0 ≤ IntKind.u64.wrap (wrap64 (16 - 1)) ∧ shl .i64 1 (IntKind.u64.wrap (wrap64 (16 - 1))) = 32768 := by rw [u64w]; decide +kernel
theorem s31 : 0 ≤ IntKind.u64.wrap (wrap64 (32 - 1)) ∧ shl .i64 1 (IntKind.u64.wrap (wrap64 (32 - 1))) = 2147483648 := by rw [u64w]; decide +kernel
theorem s8 : 0 ≤ IntKind.u64.wrap 8 ∧ shl .i64 1 (IntKind.u64.wrap 8) = 256 := by rw [u64w]; decide +kernel
theorem s16 : 0 ≤ IntKind.u64.wrap 16 ∧ shl .i64 1 (IntKind.u64.wrap 16) = 65536 := by rw [u64w]; decide +kernel
theorem s32 : 0 ≤ IntKind.u64.wrap 32 ∧ shl .i64 1 (IntKind.u64.wrap 32) = 4294967296 := by rw [u64w]; decide +kernel
theorem NumNarrow : spillwaylaw01_NumNarrow.Pure := by
  intro x hx
  have hx := bounds_i64 hx
  refine ⟨44, ?_⟩
  unfold spillwaylaw01_NumNarrow.f
  rw [num_fixed 24, num_Fits8_eq hx, num_Fits16_eq hx, num_Fits32_eq hx, rfits 8 x 128 s7.1 s7.2 (by omega), rfits 16 x 32768 s15.1 s15.2 (by omega), rfits 32 x 2147483648 s31.1 s31.2 (by omega)]
  have nb : ∀ lo hi : Int, -9223372036854775808 ≤ lo → lo ≤ hi → hi ≤ 9223372036854775807 → wrap64 (near lo hi x) = near lo hi x := fun lo hi h1 h2 h3 => w64 (by unfold near; omega)
  simp only [Option.bind_some, if_true, show ((128 : Int) - 1) = 127 by rfl, show ((32768 : Int) - 1) = 32767 by rfl, show ((2147483648 : Int) - 1) = 2147483647 by rfl, bne_self_eq_false, Bool.false_eq_true, if_false, spillwaylaw01_NumNarrow.j0]
  rw [num_Sat8_eq 23 hx, num_Sat16_eq 23 hx, num_Sat32_eq 3 hx, rsat 8 x 128 s7.1 s7.2 (by omega), rsat 16 x 32768 s15.1 s15.2 (by omega), rsat 32 x 2147483648 s31.1 s31.2 (by omega)]
  simp only [Option.bind_some]
  rw [nb (-128) 127 (by omega) (by omega) (by omega), nb (-32768) 32767 (by omega) (by omega) (by omega), nb (-2147483648) 2147483647 (by omega) (by omega) (by omega)]
  simp only [show ((128 : Int) - 1) = 127 by rfl, show ((32768 : Int) - 1) = 32767 by rfl, show ((2147483648 : Int) - 1) = 2147483647 by rfl, if_true, bne_self_eq_false, spillwaylaw01_NumNarrow.j1, Bool.false_eq_true, if_false]
  rw [rwrap 8 x 256 hx s8.1 s8.2 (by omega) (by decide), rwrap 16 x 65536 hx s16.1 s16.2 (by omega) (by decide), rwrap 32 x 4294967296 hx s32.1 s32.2 (by omega) (by decide)]
  simp only [Option.bind_some, num_Wrap_int8.f, num_Wrap_int16.f, num_Wrap_int32.f, i8w, i16w, show ((256 : Int) / 2) = 128 by decide, show ((65536 : Int) / 2) = 32768 by decide, show ((4294967296 : Int) / 2) = 2147483648 by decide]
  rw [w64 (x := (x + 128) % 256 - 128) (by omega), w64 (x := (x + 32768) % 65536 - 32768) (by omega), w64 (x := wrap32 x) (by unfold wrap32; omega)]
  simp [wrap32]
end Go.Proofs.Ytfccnnlbiniahaa.Pure
