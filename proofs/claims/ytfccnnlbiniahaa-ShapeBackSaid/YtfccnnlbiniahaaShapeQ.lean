/- What the printed functions of layer 5 come to. -/
import Derived.Test.YtfccnnlbiniahaaNumLib
import Derived.Test.YtfccnnlbiniahaaQx
namespace Go.Proofs.Ytfccnnlbiniahaa.Q
open Go.RowKit Go.Proofs.Ytfccnnlbiniahaa.Lib Go.Proofs.YtfccnnlbiniahaaW.PrintWords Go.Proofs.YtfccnnlbiniahaaW.PrintLast Go.Proofs.YtfccnnlbiniahaaW.PrintMore

/-- A valid shape. -/
def Shp (a b c : Int) : Prop := 1 ≤ a ∧ a ≤ 1024 ∧ 1 ≤ b ∧ b ≤ 1024 ∧ 1 ≤ c ∧ c ≤ 1024 ∧ a * b * c ≤ 16384
instance (a b c : Int) : Decidable (Shp a b c) := by unfold Shp; infer_instance
theorem Shp.facts {a b c : Int} (h : Shp a b c) : 1 ≤ a * b ∧ a * b ≤ 16384 ∧ 1 ≤ b * c ∧ b * c ≤ 16384 ∧ 1 ≤ a * b * c ∧ a * (b * c) = a * b * c := by
  obtain ⟨a1, a2, b1, b2, c1, c2, h⟩ := h
  have hab : 1 ≤ a * b := by have := Int.mul_le_mul a1 b1 (by omega) (by omega); omega
  have hbc : 1 ≤ b * c := by have := Int.mul_le_mul b1 c1 (by omega) (by omega); omega
  have habc : a * b * 1 ≤ a * b * c := Int.mul_le_mul_of_nonneg_left c1 (by omega)
  have he : a * (b * c) = a * b * c := (Int.mul_assoc a b c).symm
  have h2 : 1 * (b * c) ≤ a * (b * c) := Int.mul_le_mul_of_nonneg_right a1 (by omega)
  exact ⟨hab, by omega, hbc, by omega, by omega, he⟩
theorem Elems_eq (a b c : Int) : shape_Elems.f a b c = some (if Shp a b c then (a * b * c, 0) else (0, 50)) := by
  unfold shape_Elems.f
  by_cases h : Shp a b c
  · rw [if_pos (show 1 ≤ a ∧ a ≤ 1024 ∧ 1 ≤ b ∧ b ≤ 1024 ∧ 1 ≤ c ∧ c ≤ 1024 ∧ a * b * c ≤ 16384 from h), if_pos h]
  · rw [if_neg (show ¬ (1 ≤ a ∧ a ≤ 1024 ∧ 1 ≤ b ∧ b ≤ 1024 ∧ 1 ≤ c ∧ c ≤ 1024 ∧ a * b * c ≤ 16384) from h), if_neg h]
theorem Strides_eq (a b c : Int) : shape_Strides.f a b c = some (if Shp a b c then (b * c, c, 0) else (0, 0, 50)) := by
  unfold shape_Strides.f
  rw [Elems_eq]
  by_cases h : Shp a b c
  · have := h.facts
    simp [h, w64 (x := b * c) (by omega)]
  · simp [h]
theorem rdim_eq (a : Int) : spillwayref05_dim.f a = some (decide (1 ≤ a ∧ a ≤ 1024)) := by
  unfold spillwayref05_dim.f
  split
  · congr 1; rw [Bool.eq_iff_iff]; simp; omega
  · congr 1; rw [Bool.eq_iff_iff]; simp; omega
theorem rValid_eq (a b c : Int) : spillwayref05_Valid.f a b c = some (decide (Shp a b c)) := by
  unfold spillwayref05_Valid.f
  simp only [rdim_eq, Option.bind_some, decide_eq_true_eq]
  by_cases ha : 1 ≤ a ∧ a ≤ 1024
  · by_cases hb : 1 ≤ b ∧ b ≤ 1024
    · by_cases hc : 1 ≤ c ∧ c ≤ 1024
      · have h1 : 1 ≤ a * b ∧ a * b ≤ 1048576 := ⟨by have := Int.mul_le_mul ha.1 hb.1 (by omega) (by omega); omega, by have := Int.mul_le_mul ha.2 hb.2 (by omega) (by omega); omega⟩
        have h2 : 1 ≤ a * b * c ∧ a * b * c ≤ 1073741824 := ⟨by have := Int.mul_le_mul h1.1 hc.1 (by omega) (by omega); omega, by have := Int.mul_le_mul h1.2 hc.2 (by omega) (by omega); omega⟩
        rw [if_pos ha, if_pos hb, if_pos hc, w64 (x := a * b) (by omega), w64 (x := a * b * c) (by omega)]
        unfold Shp
        congr 2
        simp [ha.1, ha.2, hb.1, hb.2, hc.1, hc.2]
      · rw [if_pos ha, if_pos hb, if_neg hc, decide_eq_false (fun h => hc ⟨h.2.2.2.2.1, h.2.2.2.2.2.1⟩)]
    · rw [if_pos ha, if_neg hb, decide_eq_false (fun h => hb ⟨h.2.2.1, h.2.2.2.1⟩)]
  · rw [if_neg ha, decide_eq_false (fun h => ha ⟨h.1, h.2.1⟩)]
theorem rElems_eq {a b c : Int} (h : Shp a b c) : spillwayref05_Elems.f a b c = some (a * b * c) := by
  have := h.facts
  have h7 := h.2.2.2.2.2.2
  unfold spillwayref05_Elems.f
  rw [w64 (x := a * b) (by omega), w64 (x := a * b * c) (by omega)]

/-- Is it a spot of the shape? -/
def Spt (a b c y x d : Int) : Prop := 0 ≤ y ∧ y < a ∧ 0 ≤ x ∧ x < b ∧ 0 ≤ d ∧ d < c
instance (a b c y x d : Int) : Decidable (Spt a b c y x d) := by unfold Spt; infer_instance
def plc (b c y x d : Int) : Int := (y * b + x) * c + d
theorem plc_at {a b c y x d : Int} (h : Shp a b c) (s : Spt a b c y x d) : 0 ≤ plc b c y x d ∧ plc b c y x d < a * b * c ∧ 0 ≤ y * b + x ∧ y * b + x < a * b ∧ plc b c y x d / c = y * b + x ∧ plc b c y x d % c = d ∧ (y * b + x) / b = y ∧ (y * b + x) % b = x ∧ plc b c y x d / (b * c) = y := by
  obtain ⟨y0, y1, x0, x1, d0, d1⟩ := s
  have f := h.facts
  obtain ⟨a1, a2, b1, b2, c1, c2, h7⟩ := h
  have e1 : y * b ≤ (a - 1) * b := Int.mul_le_mul_of_nonneg_right (by omega) (by omega)
  have e1' : (a - 1) * b = a * b - b := by rw [Int.sub_mul, Int.one_mul]
  have e2 : 0 ≤ y * b := Int.mul_nonneg y0 (by omega)
  have p0 : 0 ≤ y * b + x := by omega
  have p1 : y * b + x < a * b := by omega
  have e3 : (y * b + x) * c ≤ (a * b - 1) * c := Int.mul_le_mul_of_nonneg_right (by omega) (by omega)
  have e3' : (a * b - 1) * c = a * b * c - c := by rw [Int.sub_mul, Int.one_mul]
  have e4 : 0 ≤ (y * b + x) * c := Int.mul_nonneg p0 (by omega)
  have q1 : plc b c y x d / c = y * b + x := by
    unfold plc
    rw [Int.add_comm, Int.add_mul_ediv_right _ _ (by omega), Int.ediv_eq_zero_of_lt d0 d1, Int.zero_add]
  have q2 : plc b c y x d % c = d := by
    unfold plc
    rw [Int.add_comm, Int.add_mul_emod_self_right, Int.emod_eq_of_lt d0 d1]
  have q3 : (y * b + x) / b = y := by rw [Int.add_comm, Int.add_mul_ediv_right _ _ (by omega), Int.ediv_eq_zero_of_lt x0 x1, Int.zero_add]
  have q4 : (y * b + x) % b = x := by rw [Int.add_comm, Int.add_mul_emod_self_right, Int.emod_eq_of_lt x0 x1]
  refine ⟨?_, ?_, p0, p1, q1, q2, q3, q4, ?_⟩
  · unfold plc; omega
  · unfold plc; omega
  · rw [Int.mul_comm b c, ← Int.ediv_ediv_of_nonneg (by omega : (0 : Int) ≤ c), q1, q3]
theorem mn_neg (y x d : Int) : mn (mn y x) d < 0 ↔ y < 0 ∨ x < 0 ∨ d < 0 := by unfold mn; omega
theorem Place_eq (a b c y x d : Int) : shape_Place.f a b c y x d = some (if Shp a b c then (if Spt a b c y x d then (plc b c y x d, 0) else (0, 3)) else (0, 50)) := by
  unfold shape_Place.f
  rw [Strides_eq]
  by_cases h : Shp a b c
  · simp only [h, if_true, Option.bind_some]
    by_cases s : Spt a b c y x d
    · have f := h.facts
      have p := plc_at h s
      have h7 := h.2.2.2.2.2.2
      obtain ⟨y0, y1, x0, x1, d0, d1⟩ := s
      rw [if_neg (by rw [mn_neg]; omega), if_neg (by omega), if_neg (by omega), if_neg (by omega), if_pos ⟨y0, y1, x0, x1, d0, d1⟩]
      have e : y * (b * c) + x * c + d = plc b c y x d := by unfold plc; rw [Int.add_mul, Int.mul_assoc]
      have e5 : 0 ≤ y * (b * c) := Int.mul_nonneg y0 (by omega)
      have e6 : 0 ≤ x * c := Int.mul_nonneg x0 (by have := h.2.2.2.2.1; omega)
      rw [w64 (x := y * (b * c)) (by omega), w64 (x := x * c) (by omega), w64 (x := y * (b * c) + x * c) (by omega), w64 (by omega), e]
    · rw [if_neg s]
      unfold Spt at s
      split
      · rfl
      · rename_i m
        rw [mn_neg] at m
        repeat' split
        all_goals first | rfl | omega
  · simp [h]
theorem rPlace_eq (a b c y x d : Int) : spillwayref05_Place.f a b c y x d = some (if Shp a b c then (if Spt a b c y x d then (plc b c y x d, 0) else (0, 3)) else (0, 50)) := by
  unfold spillwayref05_Place.f
  rw [rValid_eq]
  by_cases h : Shp a b c
  · simp only [h, decide_true, if_true, Option.bind_some]
    by_cases s : Spt a b c y x d
    · have f := h.facts
      have p := plc_at h s
      have h7 := h.2.2.2.2.2.2
      obtain ⟨y0, y1, x0, x1, d0, d1⟩ := s
      rw [if_neg (by omega), if_neg (by omega), if_neg (by omega), if_neg (by omega), if_neg (by omega), if_neg (by omega), if_pos ⟨y0, y1, x0, x1, d0, d1⟩]
      have e5 : 0 ≤ y * b := Int.mul_nonneg y0 (by have := h.2.2.1; omega)
      have e6 : plc b c y x d = (y * b + x) * c + d := rfl
      have e7 : 0 ≤ (y * b + x) * c := Int.mul_nonneg p.2.2.1 (by have := h.2.2.2.2.1; omega)
      rw [w64 (x := y * b) (by omega), w64 (x := y * b + x) (by omega), w64 (x := (y * b + x) * c) (by omega), w64 (by omega), e6]
    · rw [if_neg s]
      unfold Spt at s
      repeat' split
      all_goals first | rfl | omega
  · simp [h]
theorem shape_fixed : spillwaylaw05_fixed.f = some true := by
  unfold spillwaylaw05_fixed.f
  simp only [Elems_eq, Place_eq]
  decide
def whr (a b c n : Int) : Int × Int × Int × Int := if Shp a b c then (if 0 ≤ n ∧ n < a * b * c then (n / (b * c), n / c % b, n % c, 0) else (0, 0, 0, 3)) else (0, 0, 0, 50)
theorem Where_eq (a b c n : Int) : shape_Where.f a b c n = some (whr a b c n) := by
  unfold shape_Where.f whr
  rw [Elems_eq]
  by_cases h : Shp a b c
  · simp only [h, if_true, Option.bind_some]
    have f := h.facts
    obtain ⟨a1, a2, b1, b2, c1, c2, h7⟩ := h
    by_cases s : 0 ≤ n ∧ n < a * b * c
    · rw [if_neg (by omega), if_neg (by omega), w64 (x := b * c) (by omega), if_neg (by omega), if_neg (by omega), if_neg (by omega), if_pos s]
      have e1 : Int.tdiv n (b * c) = n / (b * c) := Int.tdiv_eq_ediv_of_nonneg s.1
      have e2 : Int.tdiv n c = n / c := Int.tdiv_eq_ediv_of_nonneg s.1
      have g1 : 0 ≤ n / (b * c) := Int.ediv_nonneg s.1 (by omega)
      have g2 : n / (b * c) ≤ n := Int.ediv_le_self _ s.1
      have g3 : 0 ≤ n / c := Int.ediv_nonneg s.1 (by omega)
      have g4 : n / c ≤ n := Int.ediv_le_self _ s.1
      rw [e1, e2, w64 (by omega), w64 (by omega), Int.tmod_eq_emod_of_nonneg g3, Int.tmod_eq_emod_of_nonneg s.1]
    · rw [if_neg s]
      repeat' split
      all_goals first | rfl | omega
  · simp [h]
theorem div_less {n c : Int} (hc : c ≠ 0) : (n - c) / c = n / c - 1 := by
  have := Int.add_mul_ediv_right n (-1) hc
  rw [show n - c = n + -1 * c by omega, this]; omega
theorem mod_less {n : Int} (c : Int) : (n - c) % c = n % c := by
  have := Int.add_mul_emod_self_right n (-1) c
  rw [show n - c = n + -1 * c by omega, this]
theorem rWhere_l1 (a b c y : Int) (hc : 1 ≤ c) (d : Nat) : ∀ (k : Nat) (n x : Int), 0 ≤ n → n ≤ d → 0 ≤ x → x + n ≤ 20000 → d < k → spillwayref05_Where.l1 k n y x a b c = some (y, x + n / c, n % c, 0) := by
  induction d with
  | zero =>
    intro k n x h0 h1 hx hb hk
    obtain ⟨k, rfl⟩ : ∃ m, k = m + 1 := ⟨k - 1, by omega⟩
    have : n = 0 := by omega
    subst this
    simp only [spillwayref05_Where.l1]
    rw [if_neg (by omega)]; simp
  | succ d ih =>
    intro k n x h0 h1 hx hb hk
    obtain ⟨k, rfl⟩ : ∃ m, k = m + 1 := ⟨k - 1, by omega⟩
    simp only [spillwayref05_Where.l1]
    by_cases g : n ≥ c
    · rw [if_pos g, w64 (by omega), w64 (by omega), ih k (n - c) (x + 1) (by omega) (by omega) (by omega) (by omega) (by omega)]
      have e1 : (n - c) / c = n / c - 1 := div_less (by omega)
      have e2 : (n - c) % c = n % c := mod_less c
      rw [e1, e2]; congr 3; omega
    · rw [if_neg g, Int.ediv_eq_zero_of_lt h0 (by omega), Int.emod_eq_of_lt h0 (by omega), Int.add_zero]
theorem rWhere_l0 (a b c s : Int) (hc : 1 ≤ c) (hs : s = b * c) (hs1 : 1 ≤ s) (hs2 : s ≤ 16384) (d : Nat) : ∀ (k : Nat) (n y : Int), 0 ≤ n → n ≤ d → 0 ≤ y → y + n ≤ 20000 → 20000 + d < k → spillwayref05_Where.l0 k n y a b c = some (y + n / s, n % s / c, n % s % c, 0) := by
  subst hs
  induction d with
  | zero =>
    intro k n y h0 h1 hy hb hk
    obtain ⟨k, rfl⟩ : ∃ m, k = m + 1 := ⟨k - 1, by omega⟩
    have : n = 0 := by omega
    subst this
    simp only [spillwayref05_Where.l0]
    rw [w64 (x := b * c) (by omega), if_neg (by omega), rWhere_l1 a b c y hc 0 k 0 0 (by omega) (by omega) (by omega) (by omega) (by omega)]
    simp
  | succ d ih =>
    intro k n y h0 h1 hy hb hk
    obtain ⟨k, rfl⟩ : ∃ m, k = m + 1 := ⟨k - 1, by omega⟩
    simp only [spillwayref05_Where.l0]
    rw [w64 (x := b * c) (by omega)]
    by_cases g : n ≥ b * c
    · rw [if_pos g, w64 (x := n - b * c) (by omega), w64 (x := y + 1) (by omega), ih k (n - b * c) (y + 1) (by omega) (by omega) (by omega) (by omega) (by omega)]
      rw [div_less (by omega), mod_less]; congr 2; omega
    · have q1 : n / (b * c) = 0 := Int.ediv_eq_zero_of_lt h0 (by omega)
      have q2 : n % (b * c) = n := Int.emod_eq_of_lt h0 (by omega)
      rw [if_neg g, rWhere_l1 a b c y hc 20000 k n 0 h0 (by omega) (by omega) (by omega) (by omega), q1, q2, Int.add_zero, Int.zero_add]
theorem mod_div {n b c : Int} (hc : 1 ≤ c) : n % (b * c) / c = n / c % b ∧ n % (b * c) % c = n % c := by
  have e : n % (b * c) = n - b * c * (n / (b * c)) := Int.emod_def n (b * c)
  have e2 : n / (b * c) = n / c / b := by rw [Int.mul_comm b c, Int.ediv_ediv_of_nonneg (by omega : (0 : Int) ≤ c)]
  constructor
  · rw [e, Int.emod_def (n / c) b, e2]
    have : n - b * c * (n / c / b) = n + -(b * (n / c / b)) * c := by
      rw [Int.neg_mul, Int.mul_assoc b c, Int.mul_comm c, ← Int.mul_assoc]; omega
    rw [this, Int.add_mul_ediv_right _ _ (by omega)]; omega
  · rw [Int.mul_comm b c]; exact Int.emod_emod_of_dvd n (Int.dvd_mul_right c b)
theorem rWhere_eq (a b c n : Int) (k : Nat) (hk : 60000 ≤ k) : spillwayref05_Where.f k a b c n = some (whr a b c n) := by
  unfold spillwayref05_Where.f whr
  rw [rValid_eq]
  obtain ⟨k, rfl⟩ : ∃ m, k = m + 1 := ⟨k - 1, by omega⟩
  by_cases h : Shp a b c
  · simp only [h, decide_true, if_true, Option.bind_some]
    have f := h.facts
    by_cases s : n < 0
    · rw [if_pos s, if_neg (by omega)]; simp [spillwayref05_Where.j0]
    · rw [if_neg s, rElems_eq h]
      simp only [Option.bind_some, spillwayref05_Where.j0, decide_eq_true_eq]
      obtain ⟨a1, a2, b1, b2, c1, c2, h7⟩ := h
      by_cases g : n ≥ a * b * c
      · rw [if_pos g, if_neg (by omega)]
      · rw [if_neg g, if_pos (by omega), rWhere_l0 a b c (b * c) c1 rfl (by omega) (by omega) 16384 k n 0 (by omega) (by omega) (by omega) (by omega) (by omega)]
        rw [(mod_div c1).1, (mod_div c1).2, Int.zero_add]
  · simp [h]
end Go.Proofs.Ytfccnnlbiniahaa.Q
