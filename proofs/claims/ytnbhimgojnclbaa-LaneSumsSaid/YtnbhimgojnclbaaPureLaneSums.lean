/- Every Sum of 16 bits and of 32, and how many of its sums wrapped, is the document's. No condition. -/
import Derived.Test.YtnbhimgojnclbaaCLneSumsLaneQ
import Derived.Test.YtnbhimgojnclbaaCLneSumsSayLaneSums
namespace Go.Proofs.Ytnbhimgojnclbaa.Pure
open Go.RowKit Go.Proofs.Ytnbhimgojnclbaa Go.Proofs.Ytnbhimgojnclbaa.Lib Go.Proofs.Ytnbhimgojnclbaa.CLneSums Go.Proofs.YtnbhimgojnclbaaW.PrintWords Go.Proofs.YtnbhimgojnclbaaW.PrintLast Go.Proofs.YtnbhimgojnclbaaW.PrintMore
/-- the sum of 16 bits ahead of element i, and its wraps -/
def s16 (xs : List Int) : Nat → Int × Int
  | 0 => (0, 0)
  | i + 1 => (w16 ((s16 xs i).1 + rd xs i), if in16 ((s16 xs i).1 + rd xs i) then (s16 xs i).2 else wrap64 ((s16 xs i).2 + 1))
def s32 (xs : List Int) : Nat → Int × Int
  | 0 => (0, 0)
  | i + 1 => (w32 ((s32 xs i).1 + rd xs i), if in32 ((s32 xs i).1 + rd xs i) then (s32 xs i).2 else wrap64 ((s32 xs i).2 + 1))
theorem s16_in (xs : List Int) (i : Nat) : in16 (s16 xs i).1 := by
  cases i with
  | zero => exact (show in16 0 by decide)
  | succ i => exact w16_in _
theorem s32_in (xs : List Int) (i : Nat) : in32 (s32 xs i).1 := by
  cases i with
  | zero => exact (show in32 0 by decide)
  | succ i => exact w32_in _
theorem rd_mem {xs : List Int} {P : Int → Prop} (h : ∀ x ∈ xs, P x) {i : Nat} (hi : i < xs.length) : P (rd xs i) := by
  have e : rd xs i = xs[i] := by unfold rd; rw [Int.toNat_natCast]; simp [List.getD, hi]
  rw [e]; exact h _ (List.getElem_mem hi)
theorem sum16 (xs : List Int) (hx : ∀ x ∈ xs, in16 x) (hl : xs.length ≤ 140737488351328) : ∀ (d i f : Nat), xs.length - i = d → i ≤ xs.length → d < f →
    lane_Sum_int16.l0 f (s16 xs i).1 (s16 xs i).2 xs xs.length i = some (s16 xs xs.length) := by
  intro d
  induction d with
  | zero =>
    intro i f h1 h2 h3
    obtain ⟨f, rfl⟩ : ∃ m, f = m + 1 := ⟨f - 1, by omega⟩
    obtain rfl : i = xs.length := by omega
    simp only [lane_Sum_int16.l0]; rw [if_neg (by omega)]
  | succ d ih =>
    intro i f h1 h2 h3
    obtain ⟨f, rfl⟩ : ∃ m, f = m + 1 := ⟨f - 1, by omega⟩
    simp only [lane_Sum_int16.l0]
    rw [if_pos (by omega), if_pos (by omega), if_pos (by omega), lane_Add16 (s16_in xs i) (rd_mem hx (by omega)), Option.bind_some, w64 (x := (i : Int) + 1) (by omega)]
    have h := ih (i + 1) f (by omega) (by omega) (by omega)
    simp only [s16] at h
    by_cases c : in16 ((s16 xs i).1 + rd xs i)
    · rw [if_pos c] at h; dsimp only; rw [decide_eq_true c, if_pos rfl]; exact h
    · rw [if_neg c] at h; dsimp only; rw [decide_eq_false c, if_neg Bool.false_ne_true]; exact h
theorem sum32 (xs : List Int) (hx : ∀ x ∈ xs, in32 x) (hl : xs.length ≤ 140737488351328) : ∀ (d i f : Nat), xs.length - i = d → i ≤ xs.length → d < f →
    lane_Sum_int32.l0 f (s32 xs i).1 (s32 xs i).2 xs xs.length i = some (s32 xs xs.length) := by
  intro d
  induction d with
  | zero =>
    intro i f h1 h2 h3
    obtain ⟨f, rfl⟩ : ∃ m, f = m + 1 := ⟨f - 1, by omega⟩
    obtain rfl : i = xs.length := by omega
    simp only [lane_Sum_int32.l0]; rw [if_neg (by omega)]
  | succ d ih =>
    intro i f h1 h2 h3
    obtain ⟨f, rfl⟩ : ∃ m, f = m + 1 := ⟨f - 1, by omega⟩
    simp only [lane_Sum_int32.l0]
    rw [if_pos (by omega), if_pos (by omega), if_pos (by omega), lane_Add32 (s32_in xs i) (rd_mem hx (by omega)), Option.bind_some, w64 (x := (i : Int) + 1) (by omega)]
    have h := ih (i + 1) f (by omega) (by omega) (by omega)
    simp only [s32] at h
    by_cases c : in32 ((s32 xs i).1 + rd xs i)
    · rw [if_pos c] at h; dsimp only; rw [decide_eq_true c, if_pos rfl]; exact h
    · rw [if_neg c] at h; dsimp only; rw [decide_eq_false c, if_neg Bool.false_ne_true]; exact h
theorem LaneSums : spillwaylaw20_LaneSums.Pure := by
  intro xs ys ⟨hx1, hx2⟩ ⟨hy1, hy2⟩
  have hx2 : ∀ x ∈ xs, in16 x := fun x h => bounds_i16 (hx2 x h)
  have hy2 : ∀ x ∈ ys, in32 x := fun x h => bounds_i32 (hy2 x h)
  have hxl : xs.length ≤ 140737488351328 := by have : reachBytes = 140737488351328 ∨ reachBytes ≤ 140737488351328 := by decide
                                               omega
  have hyl : ys.length ≤ 140737488351328 := by have : reachBytes = 140737488351328 ∨ reachBytes ≤ 140737488351328 := by decide
                                               omega
  have i1 := s16_in xs xs.length
  have i2 := s32_in ys ys.length
  have l1 : ∀ (d j f : Nat), ys.length - j = d → j ≤ ys.length → d + 5 < f →
      spillwaylaw20_LaneSums.l1 f ys (s16 xs xs.length).1 (s16 xs xs.length).2 (s32 ys ys.length).1 (s32 ys ys.length).2 (s16 xs xs.length).1 (s32 ys j).1 (s16 xs xs.length).2 (s32 ys j).2 ys.length j = some true := by
    intro d
    induction d with
    | zero =>
      intro j f h1 h2 h3
      obtain ⟨f, rfl⟩ : ∃ m, f = m + 5 := ⟨f - 5, by omega⟩
      obtain rfl : j = ys.length := by omega
      simp only [spillwaylaw20_LaneSums.l1]; rw [if_neg (by omega), lane_fixed f, Option.bind_some, if_pos rfl]
      unfold in16 in32 at *
      rw [w64 (x := (s16 xs xs.length).1) (by omega), w64 (x := (s32 ys ys.length).1) (by omega)]
      simp
    | succ d ih =>
      intro j f h1 h2 h3
      obtain ⟨f, rfl⟩ : ∃ m, f = m + 1 := ⟨f - 1, by omega⟩
      have hr := rd_mem hy2 (i := j) (by omega)
      have hs := s32_in ys j
      have h := ih (j + 1) f (by omega) (by omega) (by omega)
      simp only [spillwaylaw20_LaneSums.l1]
      unfold in32 at hr hs
      rw [if_pos (by omega), if_pos (by omega), if_pos (by omega), w64 (x := rd ys j) (by omega), ref20_Add32 (a := (s32 ys j).1) (b := rd ys j) ⟨by omega, by omega⟩, Option.bind_some, w64 (x := (j : Int) + 1) (by omega)]
      simp only [s32] at h
      by_cases c : in32 ((s32 ys j).1 + rd ys j)
      · rw [if_pos c] at h; dsimp only; rw [decide_eq_true c, Bool.not_true, if_neg Bool.false_ne_true]; exact h
      · rw [if_neg c] at h; dsimp only; rw [decide_eq_false c, Bool.not_false, if_pos rfl]; exact h
  have l0 : ∀ (d j f : Nat), xs.length - j = d → j ≤ xs.length → d + ys.length + 7 < f →
      spillwaylaw20_LaneSums.l0 f xs ys (s16 xs xs.length).1 (s16 xs xs.length).2 (s32 ys ys.length).1 (s32 ys ys.length).2 (s16 xs j).1 0 (s16 xs j).2 0 xs.length j = some true := by
    intro d
    induction d with
    | zero =>
      intro j f h1 h2 h3
      obtain ⟨f, rfl⟩ : ∃ m, f = m + 1 := ⟨f - 1, by omega⟩
      obtain rfl : j = xs.length := by omega
      simp only [spillwaylaw20_LaneSums.l0]; rw [if_neg (by omega)]
      exact l1 ys.length 0 f (by omega) (by omega) (by omega)
    | succ d ih =>
      intro j f h1 h2 h3
      obtain ⟨f, rfl⟩ : ∃ m, f = m + 1 := ⟨f - 1, by omega⟩
      have hr := rd_mem hx2 (i := j) (by omega)
      have hs := s16_in xs j
      have h := ih (j + 1) f (by omega) (by omega) (by omega)
      simp only [spillwaylaw20_LaneSums.l0]
      unfold in16 at hr hs
      rw [if_pos (by omega), if_pos (by omega), if_pos (by omega), w64 (x := rd xs j) (by omega), ref20_Add16 (a := (s16 xs j).1) (b := rd xs j) ⟨by omega, by omega⟩, Option.bind_some, w64 (x := (j : Int) + 1) (by omega)]
      simp only [s16] at h
      by_cases c : in16 ((s16 xs j).1 + rd xs j)
      · rw [if_pos c] at h; dsimp only; rw [decide_eq_true c, Bool.not_true, if_neg Bool.false_ne_true]; exact h
      · rw [if_neg c] at h; dsimp only; rw [decide_eq_false c, Bool.not_false, if_pos rfl]; exact h
  refine ⟨xs.length + ys.length + 9, ?_⟩
  unfold spillwaylaw20_LaneSums.f lane_Sum_int16.f lane_Sum_int32.f
  rw [show lane_Sum_int16.l0 (xs.length + ys.length + 9) 0 0 xs xs.length 0 = _ from sum16 xs hx2 hxl xs.length 0 _ (by omega) (by omega) (by omega), Option.bind_some,
    show lane_Sum_int32.l0 (xs.length + ys.length + 9) 0 0 ys ys.length 0 = _ from sum32 ys hy2 hyl ys.length 0 _ (by omega) (by omega) (by omega), Option.bind_some]
  exact l0 xs.length 0 _ (by omega) (by omega) (by omega)
end Go.Proofs.Ytnbhimgojnclbaa.Pure
