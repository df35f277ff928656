/- What the printed functions of layer 20 come to. -/
import Derived.Test.YtnbhimgojnclbaaNumLib
import Derived.Test.YtnbhimgojnclbaaCLneDotsx
namespace Go.Proofs.Ytnbhimgojnclbaa.CLneDots
open Go.RowKit Go.Proofs.Ytnbhimgojnclbaa Go.Proofs.Ytnbhimgojnclbaa.Lib Go.Proofs.YtnbhimgojnclbaaW.PrintWords Go.Proofs.YtnbhimgojnclbaaW.PrintLast Go.Proofs.YtnbhimgojnclbaaW.PrintMore
set_option linter.unusedVariables false
set_option linter.unusedSimpArgs false
abbrev in16 (x : Int) : Prop := -32768 ≤ x ∧ x ≤ 32767
abbrev in32 (x : Int) : Prop := -2147483648 ≤ x ∧ x ≤ 2147483647
def fitK : IntKind → Int → Prop
  | .i16, x => in16 x
  | _, x => in32 x
def w16 (x : Int) : Int := (x + 32768) % 65536 - 32768
def w32 (x : Int) : Int := (x + 2147483648) % 4294967296 - 2147483648
theorem i16_w16 (x : Int) : IntKind.i16.wrap x = w16 x := i16w x
theorem wrap32_w32 (x : Int) : wrap32 x = w32 x := by unfold wrap32 w32; omega
theorem i32_w32 (x : Int) : IntKind.i32.wrap x = w32 x := by rw [IntKind.wrap_i32]; unfold w32; omega
theorem w16_in (x : Int) : in16 (w16 x) := by unfold w16 in16; omega
theorem w32_in (x : Int) : in32 (w32 x) := by unfold w32 in32; omega
theorem w16_eq {x : Int} (h : in16 x) : w16 x = x := by unfold w16; unfold in16 at h; omega
theorem w32_eq {x : Int} (h : in32 x) : w32 x = x := by unfold w32; unfold in32 at h; omega
theorem w16_ne {x : Int} (h : ¬ in16 x) : w16 x ≠ x := by unfold w16; unfold in16 at h; omega
theorem w32_ne {x : Int} (h : ¬ in32 x) : w32 x ≠ x := by unfold w32; unfold in32 at h; omega
theorem mul8 {a b : Int} (ha : in16 a) (hb : -128 ≤ b ∧ b ≤ 127) : -4194304 ≤ a * b ∧ a * b ≤ 4194304 := by
  have n1 : (a * b).natAbs ≤ 32768 * 128 := by rw [Int.natAbs_mul]; exact Nat.mul_le_mul (by unfold in16 at ha; omega) (by omega)
  omega
theorem mul16 {a b : Int} (ha : in16 a) (hb : in16 b) : -1073741824 ≤ a * b ∧ a * b ≤ 1073741824 := by
  have n1 : (a * b).natAbs ≤ 32768 * 32768 := by rw [Int.natAbs_mul]; exact Nat.mul_le_mul (by unfold in16 at ha; omega) (by unfold in16 at hb; omega)
  omega
theorem mul32 {a b : Int} (ha : in32 a) (hb : in32 b) : -4611686018427387904 ≤ a * b ∧ a * b ≤ 4611686018427387904 := by
  have n1 : (a * b).natAbs ≤ 2147483648 * 2147483648 := by rw [Int.natAbs_mul]; exact Nat.mul_le_mul (by unfold in32 at ha; omega) (by unfold in32 at hb; omega)
  omega
theorem wrapped16 {a b : Int} (ha : in16 a) (hb : in16 b) : (decide (w16 (a + b) < a) == decide (b < 0)) = decide (in16 (a + b)) := by
  unfold w16 in16 at *
  by_cases c : (a + b + 32768) % 65536 - 32768 < a <;> by_cases d : b < 0 <;> simp [c, d] <;> omega
theorem wrapped32 {a b : Int} (ha : in32 a) (hb : in32 b) : (decide (w32 (a + b) < a) == decide (b < 0)) = decide (in32 (a + b)) := by
  unfold w32 in32 at *
  by_cases c : (a + b + 2147483648) % 4294967296 - 2147483648 < a <;> by_cases d : b < 0 <;> simp [c, d] <;> omega
/-! ### the reference's words -/
abbrev in64 (x : Int) : Prop := -9223372036854775808 ≤ x ∧ x ≤ 9223372036854775807
theorem lq_rfits (n : Int) (x t : Int) (hn : 0 ≤ IntKind.u64.wrap (wrap64 (n - 1))) (ht : shl .i64 1 (IntKind.u64.wrap (wrap64 (n - 1))) = t) (h : 0 ≤ t ∧ t ≤ 9223372036854775807) : spillwayref01_Fits.f n x = some (decide (-t ≤ x ∧ x ≤ t - 1)) := by
  unfold spillwayref01_Fits.f
  rw [if_pos hn, ht, w64 (by omega)]
  split <;> (congr 1; rw [Bool.eq_iff_iff]; simp; omega)
theorem lq_rwrap (n : Int) (x m : Int) (hx : -9223372036854775808 ≤ x ∧ x ≤ 9223372036854775807) (hn : 0 ≤ IntKind.u64.wrap n) (ht : shl .i64 1 (IntKind.u64.wrap n) = m) (h : 2 ≤ m ∧ m ≤ 4294967296) (he : m % 2 = 0) :
    spillwayref01_Wrap.f n x = some ((x + m / 2) % m - m / 2) := by
  unfold spillwayref01_Wrap.f
  rw [if_pos hn, ht, if_neg (by omega)]
  have h2 : Int.tdiv m 2 = m / 2 := Int.tdiv_eq_ediv_of_nonneg (by omega)
  rw [h2]
  have e1 : Int.tmod x m = if 0 ≤ x ∨ x % m = 0 then x % m else x % m - m := by
    rw [Int.tmod_eq_emod]
    have : (m.natAbs : Int) = m := by omega
    simp only [Int.dvd_iff_emod_eq_zero]
    by_cases c : 0 ≤ x ∨ x % m = 0
    · have c2 : 0 ≤ x ∨ m ∣ x := by rcases c with c | c; exact .inl c; exact .inr (Int.dvd_of_emod_eq_zero c)
      simp [c]
    · simp [c, this]
  have r0 : 0 ≤ x % m := Int.emod_nonneg x (by omega)
  have r1 : x % m < m := Int.emod_lt_of_pos x (by omega)
  have key : (x + m / 2) % m - m / 2 = if x % m ≥ m / 2 then x % m - m else x % m := by
    have : (x + m / 2) % m = (x % m + m / 2) % m := by rw [Int.emod_add_emod]
    rw [this]
    split
    · rw [show x % m + m / 2 = (x % m + m / 2 - m) + m by omega, Int.add_emod_right, Int.emod_eq_of_lt (by omega) (by omega)]; omega
    · rw [Int.emod_eq_of_lt (by omega) (by omega)]; omega
  rw [key, e1]
  generalize x % m = r at *
  split
  · rw [if_neg (by omega)]
    split
    · rw [w64 (x := m / 2) (by omega)] at *
      rw [if_pos (by assumption), w64 (by omega)]
    · rw [w64 (x := m / 2) (by omega)] at *
      rw [if_neg (by assumption)]
  · rw [if_pos (by omega), w64 (x := r - m + m) (by omega), w64 (x := m / 2) (by omega)]
    rw [show r - m + m = r by omega]
    split
    · rw [w64 (by omega)]
    · rfl
theorem lq_s15 : 0 ≤ IntKind.u64.wrap (wrap64 (16 - 1)) ∧ shl .i64 1 (IntKind.u64.wrap (wrap64 (16 - 1))) = 32768 := by rw [u64w]; decide +kernel
theorem lq_s31 : 0 ≤ IntKind.u64.wrap (wrap64 (32 - 1)) ∧ shl .i64 1 (IntKind.u64.wrap (wrap64 (32 - 1))) = 2147483648 := by rw [u64w]; decide +kernel
theorem lq_s16 : 0 ≤ IntKind.u64.wrap 16 ∧ shl .i64 1 (IntKind.u64.wrap 16) = 65536 := by rw [u64w]; decide +kernel
theorem lq_s32 : 0 ≤ IntKind.u64.wrap 32 ∧ shl .i64 1 (IntKind.u64.wrap 32) = 4294967296 := by rw [u64w]; decide +kernel
theorem ref_Wrap16 {x : Int} (hx : in64 x) : spillwayref01_Wrap.f 16 x = some (w16 x) := lq_rwrap 16 x 65536 hx lq_s16.1 lq_s16.2 (by omega) (by decide)
theorem ref_Wrap32 {x : Int} (hx : in64 x) : spillwayref01_Wrap.f 32 x = some (w32 x) := lq_rwrap 32 x 4294967296 hx lq_s32.1 lq_s32.2 (by omega) (by decide)
theorem ref_Fits16 (x : Int) : spillwayref01_Fits.f 16 x = some (decide (in16 x)) := lq_rfits 16 x 32768 lq_s15.1 lq_s15.2 (by omega)
theorem ref_Fits32 (x : Int) : spillwayref01_Fits.f 32 x = some (decide (in32 x)) := lq_rfits 32 x 2147483648 lq_s31.1 lq_s31.2 (by omega)
theorem ref20_Add16 {a b : Int} (h : in64 (a + b)) : spillwayref20_Add.f 16 a b = some (w16 (a + b), !decide (in16 (a + b))) := by
  unfold spillwayref20_Add.f; rw [w64 h, ref_Wrap16 h, ref_Fits16]; rfl
theorem ref20_Add32 {a b : Int} (h : in64 (a + b)) : spillwayref20_Add.f 32 a b = some (w32 (a + b), !decide (in32 (a + b))) := by
  unfold spillwayref20_Add.f; rw [w64 h, ref_Wrap32 h, ref_Fits32]; rfl
theorem ref20_Mul16 {a b : Int} (h : in64 (a * b)) : spillwayref20_Mul.f 16 a b = some (w16 (a * b), !decide (in16 (a * b))) := by
  unfold spillwayref20_Mul.f; rw [w64 h, ref_Wrap16 h, ref_Fits16]; rfl
theorem ref20_Mul32 {a b : Int} (h : in64 (a * b)) : spillwayref20_Mul.f 32 a b = some (w32 (a * b), !decide (in32 (a * b))) := by
  unfold spillwayref20_Mul.f; rw [w64 h, ref_Wrap32 h, ref_Fits32]; rfl
/-! ### the lane's words -/
theorem lane_Add16 {a b : Int} (ha : in16 a) (hb : in16 b) : lane_Add_int16.f a b = some (w16 (a + b), decide (in16 (a + b))) := by
  unfold lane_Add_int16.f; rw [i16_w16, wrapped16 ha hb]
theorem mulok16 {a b : Int} (ha : in16 a) (hb : in16 b) : (wrap64 (w16 (a * b)) == wrap64 (wrap64 a * wrap64 b)) = decide (in16 (a * b)) := by
  have := mul16 ha hb; have hw := w16_in (a * b)
  unfold in16 at *
  rw [w64 (x := a) (by omega), w64 (x := b) (by omega), w64 (x := a * b) (by omega), w64 (x := w16 (a * b)) (by omega)]
  rw [Bool.eq_iff_iff]; simp only [beq_iff_eq, decide_eq_true_eq]
  constructor
  · intro e; rw [← e]; exact hw
  · intro h; exact w16_eq h
theorem lane_Mul16 {a b : Int} (ha : in16 a) (hb : in16 b) : lane_Mul_int16.f a b = some (w16 (a * b), decide (in16 (a * b))) := by
  unfold lane_Mul_int16.f; rw [i16_w16, mulok16 ha hb]
theorem lane_Add32 {a b : Int} (ha : in32 a) (hb : in32 b) : lane_Add_int32.f a b = some (w32 (a + b), decide (in32 (a + b))) := by
  unfold lane_Add_int32.f; rw [wrap32_w32, wrapped32 ha hb]
theorem mulok32 {a b : Int} (ha : in32 a) (hb : in32 b) : (wrap64 (w32 (a * b)) == wrap64 (wrap64 a * wrap64 b)) = decide (in32 (a * b)) := by
  have := mul32 ha hb; have hw := w32_in (a * b)
  unfold in32 at *
  rw [w64 (x := a) (by omega), w64 (x := b) (by omega), w64 (x := a * b) (by omega), w64 (x := w32 (a * b)) (by omega)]
  rw [Bool.eq_iff_iff]; simp only [beq_iff_eq, decide_eq_true_eq]
  constructor
  · intro e; rw [← e]; exact hw
  · intro h; exact w32_eq h
theorem lane_Mul32 {a b : Int} (ha : in32 a) (hb : in32 b) : lane_Mul_int32.f a b = some (w32 (a * b), decide (in32 (a * b))) := by
  unfold lane_Mul_int32.f; rw [wrap32_w32, mulok32 ha hb]
/-! ### check, fixed -/
def chkOf (n m width depth : Int) : Int := if n ≠ m ∨ n = 0 then 70 else if width ≠ 16 ∧ width ≠ 32 then 150 else if depth < 1 ∨ depth > n ∨ (width = 32 ∧ depth < n) then 151 else 0
theorem lane_check_eq (k : Nat) {n m width depth : Int} : lane_check.f (k + 2) n m width depth = some (chkOf n m width depth) := by
  unfold lane_check.f chkOf
  by_cases h1 : n = m
  · rw [if_pos h1]
    by_cases h2 : n = 0
    · simp [lane_check.j0, h2]
    · by_cases h3 : width = 16
      · simp only [lane_check.j0, lane_check.j1, h1, h3]
        simp
        subst h1
        rw [if_neg h2, if_neg h2]
        split
        · simp [*]
        · split
          · simp [*]
          · rw [if_neg (by omega)]
      · by_cases h4 : width = 32
        · simp only [lane_check.j0, lane_check.j1, h1, h4]
          simp
          subst h1
          rw [if_neg h2, if_neg h2]
          split
          · simp [*]
          · split
            · simp [*]
            · split
              · rw [if_pos (by omega)]
              · rw [if_neg (by omega)]
        · simp only [lane_check.j0, lane_check.j1, h1]
          subst h1
          simp [h2, h3, h4]
  · rw [if_neg h1]; simp [lane_check.j0, h1]
theorem lane_fixed (k : Nat) : spillwaylaw20_fixed.f (k + 4) = some true := by kernel_rfl
/-! ### registers -/
def addTo (fit : Bool) (n : Int) (s : Reg) : Reg := (n, s.2.1, wrap64 (s.2.2.1 + 1), (if fit = true then s.2.2.2.1 else wrap64 (s.2.2.2.1 + 1)), min (if s.2.2.1 = 0 then n else s.2.2.2.2.1) n, max (if s.2.2.1 = 0 then n else s.2.2.2.2.2) n)
def mulTo (fit : Bool) (s : Reg) : Reg := (s.1, wrap64 (s.2.1 + 1), s.2.2.1, (if fit = true then s.2.2.2.1 else wrap64 (s.2.2.2.1 + 1)), s.2.2.2.2)
theorem regAdd16 {s : Reg} {x : Int} (hs : in16 s.1) (hx : in16 x) : regAdd .i16 s x = addTo (decide (in16 (s.1 + x))) (w16 (s.1 + x)) s := by
  unfold regAdd addTo; simp only [i16_w16, wrapped16 hs hx]
theorem regAdd32 {s : Reg} {x : Int} (hs : in32 s.1) (hx : in32 x) : regAdd .i32 s x = addTo (decide (in32 (s.1 + x))) (w32 (s.1 + x)) s := by
  unfold regAdd addTo; simp only [i32_w32, wrapped32 hs hx]
theorem eq16 (x : Int) : (w16 x == x) = decide (in16 x) := by
  rw [Bool.eq_iff_iff]; simp only [beq_iff_eq, decide_eq_true_eq]
  exact ⟨fun h => h ▸ w16_in x, w16_eq⟩
theorem eq32 (x : Int) : (w32 x == x) = decide (in32 x) := by
  rw [Bool.eq_iff_iff]; simp only [beq_iff_eq, decide_eq_true_eq]
  exact ⟨fun h => h ▸ w32_in x, w32_eq⟩
theorem regMul16 {s : Reg} {a b : Int} (hs : in16 s.1) : regMul .i16 s a b = addTo (decide (in16 (s.1 + w16 (a * b)))) (w16 (s.1 + w16 (a * b))) (mulTo (decide (in16 (a * b))) s) := by
  unfold regMul; simp only [i16_w16, eq16]
  exact regAdd16 (s := mulTo (decide (in16 (a * b))) s) hs (w16_in _)
theorem regMul32 {s : Reg} {a b : Int} (hs : in32 s.1) : regMul .i32 s a b = addTo (decide (in32 (s.1 + w32 (a * b)))) (w32 (s.1 + w32 (a * b))) (mulTo (decide (in32 (a * b))) s) := by
  unfold regMul; simp only [i32_w32, eq32]
  exact regAdd32 (s := mulTo (decide (in32 (a * b))) s) hs (w32_in _)
/-- what holds of the two registers ahead of product i -/
structure DInv (i : Nat) (s : Reg × Reg) : Prop where
  a : in32 s.1.1
  p : in16 s.2.1
  am : 0 ≤ s.1.2.1 ∧ s.1.2.1 ≤ i
  aa : 0 ≤ s.1.2.2.1 ∧ s.1.2.2.1 ≤ i
  ar : 0 ≤ s.1.2.2.2.1 ∧ s.1.2.2.2.1 ≤ 2 * (i : Int)
  pm : 0 ≤ s.2.2.1 ∧ s.2.2.1 ≤ i
  pa : 0 ≤ s.2.2.2.1 ∧ s.2.2.2.1 ≤ i
  pr : 0 ≤ s.2.2.2.2.1 ∧ s.2.2.2.2.1 ≤ 2 * (i : Int)
  al : in32 s.1.2.2.2.2.1
  ah : in32 s.1.2.2.2.2.2
  pl : in16 s.2.2.2.2.2.1
  ph : in16 s.2.2.2.2.2.2
theorem minmax_in {lo hi : Int} {c : Prop} [Decidable c] {n x : Int} (hn : lo ≤ n ∧ n ≤ hi) (hx : lo ≤ x ∧ x ≤ hi) : (lo ≤ min (if c then n else x) n ∧ min (if c then n else x) n ≤ hi) ∧ (lo ≤ max (if c then n else x) n ∧ max (if c then n else x) n ≤ hi) := by
  split <;> omega
theorem cnt (fit : Bool) {r m : Int} (h : 0 ≤ r ∧ r ≤ m) (hm : m ≤ 9223372036854775806) : 0 ≤ (if fit = true then r else wrap64 (r + 1)) ∧ (if fit = true then r else wrap64 (r + 1)) ≤ m + 1 := by
  split
  · omega
  · rw [w64 (by omega)]; omega
theorem cnt1 {r m : Int} (h : 0 ≤ r ∧ r ≤ m) (hm : m ≤ 9223372036854775806) : wrap64 (r + 1) = r + 1 := w64 (by omega)
theorem dinv_zero {ws xs : List Int} {width depth bias : Int} (hb : in32 bias) : DInv 0 (dotAt ws xs width depth bias 0) :=
  ⟨hb, (show in16 0 by decide), by simp [dotAt], by simp [dotAt], by simp [dotAt], by simp [dotAt], by simp [dotAt], by simp [dotAt], (show in32 0 by decide), (show in32 0 by decide), (show in16 0 by decide), (show in16 0 by decide)⟩
theorem DInv.mul32 {i : Nat} {s : Reg × Reg} (h : DInv i s) (hi : (i : Int) ≤ 1152921504606846976) (a b : Int) : DInv (i + 1) (regMul .i32 s.1 a b, s.2) := by
  obtain ⟨h1, h2, h3, h4, h5, h6, h7, h8, h9, h10, h11, h12⟩ := h
  rw [regMul32 h1]
  have c1 := cnt (decide (in32 (a * b))) h5 (by omega)
  have c2 := cnt (decide (in32 (s.1.1 + w32 (a * b)))) c1 (by omega)
  have m1 := minmax_in (c := s.1.2.2.1 = 0) (w32_in (s.1.1 + w32 (a * b))) h9
  have m2 := minmax_in (c := s.1.2.2.1 = 0) (w32_in (s.1.1 + w32 (a * b))) h10
  refine ⟨w32_in _, h2, ?_, ?_, ?_, ?_, ?_, ?_, m1.1, m2.2, h11, h12⟩
  · show 0 ≤ wrap64 (s.1.2.1 + 1) ∧ wrap64 (s.1.2.1 + 1) ≤ _
    rw [cnt1 h3 (by omega)]; push_cast; omega
  · show 0 ≤ wrap64 (s.1.2.2.1 + 1) ∧ wrap64 (s.1.2.2.1 + 1) ≤ _
    rw [cnt1 h4 (by omega)]; push_cast; omega
  · refine ⟨c2.1, Int.le_trans c2.2 (by push_cast; omega)⟩
  · push_cast; omega
  · push_cast; omega
  · push_cast; omega
theorem DInv.mul16 {i : Nat} {s : Reg × Reg} (h : DInv i s) (hi : (i : Int) ≤ 1152921504606846976) (a b : Int) : DInv (i + 1) (s.1, regMul .i16 s.2 a b) := by
  obtain ⟨h1, h2, h3, h4, h5, h6, h7, h8, h9, h10, h11, h12⟩ := h
  rw [regMul16 h2]
  have c1 := cnt (decide (in16 (a * b))) h8 (by omega)
  have c2 := cnt (decide (in16 (s.2.1 + w16 (a * b)))) c1 (by omega)
  have m1 := minmax_in (c := s.2.2.2.1 = 0) (w16_in (s.2.1 + w16 (a * b))) h11
  have m2 := minmax_in (c := s.2.2.2.1 = 0) (w16_in (s.2.1 + w16 (a * b))) h12
  refine ⟨h1, w16_in _, ?_, ?_, ?_, ?_, ?_, ?_, h9, h10, m1.1, m2.2⟩
  · push_cast; omega
  · push_cast; omega
  · push_cast; omega
  · show 0 ≤ wrap64 (s.2.2.1 + 1) ∧ wrap64 (s.2.2.1 + 1) ≤ _
    rw [cnt1 h6 (by omega)]; push_cast; omega
  · show 0 ≤ wrap64 (s.2.2.2.1 + 1) ∧ wrap64 (s.2.2.2.1 + 1) ≤ _
    rw [cnt1 h7 (by omega)]; push_cast; omega
  · refine ⟨c2.1, Int.le_trans c2.2 (by push_cast; omega)⟩
/-- a register as it stands ahead of product i (its sums: at most i): the part is added to it -/
theorem DInv.flush {i : Nat} {A P : Reg} (h : DInv (i + 1) (A, P)) (ha : A.2.2.1 ≤ i) (hr : A.2.2.2.1 ≤ 2 * (i : Int)) (hi : (i : Int) ≤ 1152921504606846976) : DInv (i + 1) (regAdd .i32 A P.1, (0, P.2)) := by
  obtain ⟨h1, h2, h3, h4, h5, h6, h7, h8, h9, h10, h11, h12⟩ := h
  dsimp only at h1 h2 h3 h4 h5 h6 h7 h8 h9 h10 h11 h12
  have hp : in32 P.1 := by unfold in16 at h2; unfold in32; exact ⟨by omega, by omega⟩
  rw [regAdd32 h1 hp]
  have c2 := cnt (decide (in32 (A.1 + P.1))) ⟨h5.1, hr⟩ (by omega)
  have m1 := minmax_in (c := A.2.2.1 = 0) (w32_in (A.1 + P.1)) h9
  have m2 := minmax_in (c := A.2.2.1 = 0) (w32_in (A.1 + P.1)) h10
  refine ⟨w32_in _, (show in16 0 by decide), h3, ?_, ?_, h6, h7, h8, m1.1, m2.2, h11, h12⟩
  · show 0 ≤ wrap64 (A.2.2.1 + 1) ∧ wrap64 (A.2.2.1 + 1) ≤ _
    rw [cnt1 ⟨h4.1, ha⟩ (by omega)]; push_cast; omega
  · refine ⟨c2.1, Int.le_trans c2.2 (by push_cast; omega)⟩
theorem dinv_at {ws xs : List Int} {width depth bias : Int} (hb : in32 bias) : ∀ i : Nat, (i : Int) ≤ 1152921504606846976 → DInv i (dotAt ws xs width depth bias i) := by
  intro i
  induction i with
  | zero => intro _; exact dinv_zero hb
  | succ i ih =>
    intro hi
    have h := ih (by push_cast at hi; omega)
    have hi' : (i : Int) ≤ 1152921504606846976 := by push_cast at hi; omega
    by_cases c : width = 32
    · rw [dotAt_succ32 i c]; exact h.mul32 hi' _ _
    · by_cases d : ((i : Int) + 1) % depth = 0 ∨ (i : Int) + 1 = ws.length
      · rw [dotAt_succ16' i c d]; exact (h.mul16 hi' _ _).flush h.aa.2 h.ar.2 hi'
      · rw [dotAt_succ16 i c d]; exact h.mul16 hi' _ _
/-- the bias and the products ahead of product i, in whole numbers -/
def dsum (ws xs : List Int) (bias : Int) : Nat → Int
  | 0 => bias
  | i + 1 => dsum ws xs bias i + rd ws i * rd xs i
theorem rd_mem2 {xs : List Int} {P : Int → Prop} (h : ∀ x ∈ xs, P x) {i : Nat} (hi : i < xs.length) : P (rd xs i) := by
  have e : rd xs i = xs[i] := by unfold rd; rw [Int.toNat_natCast]; simp [List.getD, hi]
  rw [e]; exact h _ (List.getElem_mem hi)
theorem dsum_bd {ws xs : List Int} {bias : Int} (hw : ∀ x ∈ ws, in16 x) (hx : ∀ x ∈ xs, -128 ≤ x ∧ x ≤ 127) (hl : ws.length = xs.length) (hb : in32 bias) : ∀ i : Nat, i ≤ ws.length →
    -2147483648 - 4194304 * (i : Int) ≤ dsum ws xs bias i ∧ dsum ws xs bias i ≤ 2147483647 + 4194304 * (i : Int) := by
  intro i
  induction i with
  | zero => intro _; unfold in32 at hb; simp [dsum]; omega
  | succ i ih =>
    intro hi
    have h := ih (by omega)
    have g := mul8 (rd_mem2 hw (i := i) (by omega)) (rd_mem2 hx (i := i) (by omega))
    simp only [dsum]; push_cast; omega
theorem chkOf_zero {n m width depth : Int} (h : chkOf n m width depth = 0) : n = m ∧ n ≠ 0 ∧ (width = 16 ∨ width = 32) ∧ 1 ≤ depth ∧ depth ≤ n := by
  unfold chkOf at h
  split at h
  · omega
  · split at h
    · omega
    · split at h
      · omega
      · omega
theorem chkOf_ne {n m width depth : Int} : chkOf n m width depth ≠ 0 → chkOf n m width depth = 70 ∨ chkOf n m width depth = 150 ∨ chkOf n m width depth = 151 := by
  unfold chkOf; split
  · omega
  · split
    · omega
    · split <;> omega
theorem dotOk_of {ws xs : List Int} {depth : Int} (hw : ∀ x ∈ ws, in16 x) (hx : ∀ x ∈ xs, -128 ≤ x ∧ x ≤ 127) (hl : ws.length = xs.length) (hd : 1 ≤ depth) (hn : (ws.length : Int) ≤ 4611686018427387903) : dotOk ws xs depth = true := by
  unfold dotOk
  simp only [Bool.and_eq_true, decide_eq_true_eq, List.all_eq_true]
  exact ⟨⟨⟨⟨hl, hd⟩, hw⟩, hx⟩, hn⟩
/-- Dot: the error, or the two registers behind all products -/
theorem lane_Dot_cases {k : Nat} {ws xs : List Int} {width depth bias : Int} (hw : ∀ x ∈ ws, in16 x) (hx : ∀ x ∈ xs, -128 ≤ x ∧ x ≤ 127) (hn : (ws.length : Int) ≤ 4611686018427387903) :
    (∃ e, e ≠ 0 ∧ e = chkOf ws.length xs.length width depth ∧ lane_Dot.f (k + 2) ws xs width depth bias = some (0, 0, 0, 0, 0, 0, 0, 0, 0, 0, e)) ∨
    (ws.length = xs.length ∧ 1 ≤ ws.length ∧ chkOf ws.length xs.length width depth = 0 ∧ (width = 16 ∨ width = 32) ∧ (1 ≤ depth ∧ depth ≤ ws.length) ∧
      lane_Dot.f (k + 2) ws xs width depth bias = some ((dotAt ws xs width depth bias ws.length).1.1, (dotAt ws xs width depth bias ws.length).2.2.1, (dotAt ws xs width depth bias ws.length).2.2.2.1, (dotAt ws xs width depth bias ws.length).1.2.1, (dotAt ws xs width depth bias ws.length).1.2.2.1,
        wrap64 ((dotAt ws xs width depth bias ws.length).2.2.2.2.1 + (dotAt ws xs width depth bias ws.length).1.2.2.2.1), wrap64 (dotAt ws xs width depth bias ws.length).2.2.2.2.2.1, wrap64 (dotAt ws xs width depth bias ws.length).2.2.2.2.2.2, wrap64 (dotAt ws xs width depth bias ws.length).1.2.2.2.2.1, wrap64 (dotAt ws xs width depth bias ws.length).1.2.2.2.2.2, 0)) := by
  unfold lane_Dot.f
  rw [lane_check_eq k, Option.bind_some]
  by_cases c : chkOf ws.length xs.length width depth = 0
  · obtain ⟨h1, h2, h3, h4, h5⟩ := chkOf_zero c
    refine .inr ⟨by omega, by omega, c, h3, ⟨h4, h5⟩, ?_⟩
    rw [if_neg (by omega), if_pos (dotOk_of hw hx (by omega) h4 hn)]
  · exact .inl ⟨_, c, rfl, by rw [if_pos c]⟩
end Go.Proofs.Ytnbhimgojnclbaa.CLneDots
