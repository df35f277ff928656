/- What the printed functions of layer 6 come to. -/
import Derived.Test.YtnbhimgojnclbaaCWwPlainShapeQ
namespace Go.Proofs.Ytnbhimgojnclbaa.CWwPlain
open Go.RowKit Go.Proofs.Ytnbhimgojnclbaa.Lib Go.Proofs.YtnbhimgojnclbaaW.PrintWords Go.Proofs.YtnbhimgojnclbaaW.PrintLast Go.Proofs.YtnbhimgojnclbaaW.PrintMore
set_option linter.unusedVariables false
/-- one side of a valid window -/
def Sid (k s a b : Int) : Prop := 1 ≤ k ∧ k ≤ 32 ∧ 1 ≤ s ∧ s ≤ 32 ∧ 0 ≤ a ∧ a ≤ k - 1 ∧ 0 ≤ b ∧ b ≤ k - 1
instance (k s a b : Int) : Decidable (Sid k s a b) := by unfold Sid; infer_instance
theorem within_eq (a b c : Int) : window_within.f a b c = some (decide (b ≤ a ∧ a ≤ c)) := by
  unfold window_within.f
  by_cases h : b ≤ a
  · rw [if_pos h]; simp [h]
  · rw [if_neg h, decide_eq_false (fun e => h e.1)]
theorem side_eq (k s a b : Int) : window_side.f k s a b = some (decide (Sid k s a b)) := by
  unfold window_side.f
  simp only [within_eq, Option.bind_some, decide_eq_true_eq]
  by_cases h1 : 1 ≤ k ∧ k ≤ 32
  · rw [if_pos h1, w64 (x := k - 1) (by omega)]
    by_cases h2 : 1 ≤ s ∧ s ≤ 32
    · rw [if_pos h2]
      by_cases h3 : 0 ≤ a ∧ a ≤ k - 1
      · rw [if_pos h3]
        by_cases h4 : 0 ≤ b ∧ b ≤ k - 1
        · rw [decide_eq_true h4, decide_eq_true (by unfold Sid; omega)]
        · rw [decide_eq_false h4, decide_eq_false (by unfold Sid; omega)]
      · rw [if_neg h3, decide_eq_false (by unfold Sid; omega)]
    · rw [if_neg h2, decide_eq_false (by unfold Sid; omega)]
  · rw [if_neg h1, decide_eq_false (by unfold Sid; omega)]
theorem wValid_eq (a b c d e f g h : Int) : window_Valid.f a b c d e f g h = some (decide (Sid a c e g ∧ Sid b d f h)) := by
  unfold window_Valid.f
  simp only [side_eq, Option.bind_some, decide_eq_true_eq]
  by_cases h1 : Sid a c e g
  · rw [if_pos h1]; simp [h1]
  · rw [if_neg h1]; simp [h1]
/-- how often a window of k, step s, fits into n -/
def fit (n k s : Int) : Int := if n < k then 0 else (n - k) / s + 1
theorem fit_range {n k s : Int} (hk : 1 ≤ k) (hs : 1 ≤ s) (hn : n ≤ 2000) : 0 ≤ fit n k s ∧ fit n k s ≤ 2000 ∧ (fit n k s = 0 ↔ n < k) := by
  unfold fit
  split
  · omega
  · have h0 : 0 ≤ (n - k) / s := Int.ediv_nonneg (by omega) (by omega)
    have h1 : (n - k) / s ≤ n - k := Int.ediv_le_self _ (by omega)
    omega
def outS (H W C KH KW SH SW TO LE BO RI : Int) : Int × Int × Int :=
  if Shp H W C then (if Sid KH SH TO BO ∧ Sid KW SW LE RI then (if H + TO + BO < KH ∨ W + LE + RI < KW then (0, 0, 60) else (fit (H + TO + BO) KH SH, fit (W + LE + RI) KW SW, 0)) else (0, 0, 60)) else (0, 0, 50)
theorem Out_eq (H W C KH KW SH SW TO LE BO RI : Int) : window_Out.f H W C KH KW SH SW TO LE BO RI = some (outS H W C KH KW SH SW TO LE BO RI) := by
  unfold window_Out.f outS
  rw [Elems_eq, wValid_eq]
  simp only [Option.bind_some]
  by_cases hs : Shp H W C
  · rw [if_pos hs, if_pos hs, if_pos rfl]
    obtain ⟨a1, a2, b1, b2, c1, c2, _⟩ := hs
    simp only [decide_eq_true_eq]
    by_cases hv : Sid KH SH TO BO ∧ Sid KW SW LE RI
    · rw [if_pos hv, if_pos hv]
      obtain ⟨⟨k1, k2, s1, s2, t1, t2, o1, o2⟩, ⟨k3, k4, s3, s4, t3, t4, o3, o4⟩⟩ := hv
      have q1 := Int.ediv_le_self (H + TO + BO - KH) (show 0 ≤ 1 by omega)
      rw [w64 (x := H + TO) (by omega), w64 (x := H + TO + BO) (by omega), w64 (x := H + TO + BO - KH) (by omega), w64 (x := W + LE) (by omega), w64 (x := W + LE + RI) (by omega), w64 (x := W + LE + RI - KW) (by omega)]
      by_cases h1 : H + TO + BO - KH < 0
      · rw [if_pos h1, if_pos (by omega)]
      · rw [if_neg h1]
        by_cases h2 : W + LE + RI - KW < 0
        · rw [if_pos h2, if_pos (by omega)]
        · rw [if_neg h2, if_neg (by omega), if_neg (by omega), if_neg (by omega)]
          have e1 := fit_range (n := H + TO + BO) k1 s1 (by omega)
          have e2 := fit_range (n := W + LE + RI) k3 s3 (by omega)
          unfold fit at e1 e2 ⊢
          rw [if_neg (by omega)] at e1 e2 ⊢
          rw [if_neg (by omega)]
          rw [Int.tdiv_eq_ediv_of_nonneg (by omega), Int.tdiv_eq_ediv_of_nonneg (by omega), w64 (x := (H + TO + BO - KH) / SH) (by omega), w64 (x := (W + LE + RI - KW) / SW) (by omega), w64 (x := (H + TO + BO - KH) / SH + 1) (by omega), w64 (x := (W + LE + RI - KW) / SW + 1) (by omega)]
    · rw [if_neg hv, if_neg hv]
  · rw [if_neg hs, if_neg hs, if_neg (by decide)]
def plcT (H W KW top left k : Int) : Int :=
  if top + k / KW < 0 ∨ H - 1 < top + k / KW ∨ left + k % KW < 0 ∨ W - 1 < left + k % KW then -1 else (top + k / KW) * W + (left + k % KW)
theorem tap_range {KW k : Int} (h1 : 1 ≤ KW) (h2 : KW ≤ 32) (k0 : 0 ≤ k) (k1 : k < 1024) : 0 ≤ k / KW ∧ k / KW < 1024 ∧ 0 ≤ k % KW ∧ k % KW < 32 := by
  have a := Int.ediv_nonneg k0 (show 0 ≤ KW by omega)
  have b := Int.ediv_le_self KW k0
  have c := Int.emod_nonneg k (show KW ≠ 0 by omega)
  have d := Int.emod_lt_of_pos k (show 0 < KW by omega)
  omega
theorem split_tap {KW ky kx : Int} (h1 : 1 ≤ KW) (h2 : 0 ≤ kx) (h3 : kx < KW) : (ky * KW + kx) / KW = ky ∧ (ky * KW + kx) % KW = kx := by
  rw [Int.add_comm]
  constructor
  · rw [Int.add_mul_ediv_right _ _ (by omega), Int.ediv_eq_zero_of_lt h2 h3]; omega
  · rw [Int.add_mul_emod_self_right]; exact Int.emod_eq_of_lt h2 h3
theorem mul_range {a b A B : Int} (h0 : 0 ≤ a) (h1 : a ≤ A) (h2 : 0 ≤ b) (h3 : b ≤ B) : 0 ≤ a * b ∧ a * b ≤ A * B :=
  ⟨Int.mul_nonneg h0 h2, Int.mul_le_mul h1 h3 h2 (by omega)⟩
theorem winPlace_eq {H W KW top left k : Int} (hH : 1 ≤ H ∧ H ≤ 1024) (hW : 1 ≤ W ∧ W ≤ 1024) (h1 : 1 ≤ KW) (h2 : KW ≤ 32) (k0 : 0 ≤ k) (k1 : k < 1024) (ht : -100000 ≤ top ∧ top ≤ 100000) (hl : -100000 ≤ left ∧ left ≤ 100000) :
    winPlace H W KW top left k = plcT H W KW top left k := by
  have r := tap_range h1 h2 k0 k1
  unfold winPlace plcT winY winX
  rw [w64 (x := k / KW) (by omega), w64 (x := top + k / KW) (by omega), w64 (x := left + k % KW) (by omega), w64 (x := H - 1) (by omega), w64 (x := W - 1) (by omega)]
  split
  · rfl
  · have := mul_range (a := top + k / KW) (b := W) (A := 1024) (B := 1024) (by omega) (by omega) (by omega) (by omega)
    rw [w64 (x := (top + k / KW) * W) (by omega), w64 (by omega)]
def tapsL (H W KH KW top left : Int) : List (Int × Int) := upto (fun j => ((j : Int), plcT H W KW top left j)) (KH * KW).toNat
theorem upto_congr {α : Type} {f g : Nat → α} {n : Nat} (h : ∀ i, i < n → f i = g i) : upto f n = upto g n := by
  unfold upto; exact List.map_congr_left (fun i hi => h i (List.mem_range.mp hi))
theorem winList_eq {H W KH KW top left : Int} (hH : 1 ≤ H ∧ H ≤ 1024) (hW : 1 ≤ W ∧ W ≤ 1024) (h1 : 1 ≤ KW) (h2 : KW ≤ 32) (h3 : 1 ≤ KH) (h4 : KH ≤ 32) (ht : -100000 ≤ top ∧ top ≤ 100000) (hl : -100000 ≤ left ∧ left ≤ 100000) :
    winList H W KH KW top left = tapsL H W KH KW top left := by
  have m := mul_range (a := KH) (b := KW) (A := 32) (B := 32) (by omega) h4 (by omega) h2
  unfold winList tapsL
  refine upto_congr fun i hi => ?_
  rw [winPlace_eq hH hW h1 h2 (by omega) (by omega) ht hl]
/-- is there a position of that number? and the corner of its window -/
def Pos (H W C KH KW SH SW TO LE BO RI at_ : Int) : Prop :=
  (outS H W C KH KW SH SW TO LE BO RI).2.2 = 0 ∧ 0 ≤ at_ ∧ at_ < (outS H W C KH KW SH SW TO LE BO RI).1 * (outS H W C KH KW SH SW TO LE BO RI).2.1
instance (H W C KH KW SH SW TO LE BO RI at_ : Int) : Decidable (Pos H W C KH KW SH SW TO LE BO RI at_) := by unfold Pos; infer_instance
def topS (H W C KH KW SH SW TO LE BO RI at_ : Int) : Int := at_ / (outS H W C KH KW SH SW TO LE BO RI).2.1 * SH - TO
def leftS (H W C KH KW SH SW TO LE BO RI at_ : Int) : Int := at_ % (outS H W C KH KW SH SW TO LE BO RI).2.1 * SW - LE
/-- what is known where Out is well -/
theorem out_ok {H W C KH KW SH SW TO LE BO RI : Int} (h : (outS H W C KH KW SH SW TO LE BO RI).2.2 = 0) :
    Shp H W C ∧ Sid KH SH TO BO ∧ Sid KW SW LE RI ∧ KH ≤ H + TO + BO ∧ KW ≤ W + LE + RI ∧
    outS H W C KH KW SH SW TO LE BO RI = ((H + TO + BO - KH) / SH + 1, (W + LE + RI - KW) / SW + 1, 0) ∧
    1 ≤ (H + TO + BO - KH) / SH + 1 ∧ (H + TO + BO - KH) / SH + 1 ≤ 2000 ∧ 1 ≤ (W + LE + RI - KW) / SW + 1 ∧ (W + LE + RI - KW) / SW + 1 ≤ 2000 := by
  unfold outS at h ⊢
  by_cases hs : Shp H W C
  · rw [if_pos hs] at h ⊢
    by_cases hv : Sid KH SH TO BO ∧ Sid KW SW LE RI
    · rw [if_pos hv] at h ⊢
      by_cases hf : H + TO + BO < KH ∨ W + LE + RI < KW
      · rw [if_pos hf] at h; exact absurd h (by decide)
      · rw [if_neg hf]
        obtain ⟨hv1, hv2⟩ := hv
        have hs' := hs
        obtain ⟨a1, a2, b1, b2, c1, c2, _⟩ := hs'
        have v1 := hv1; have v2 := hv2
        obtain ⟨k1, k2, s1, s2, t1, t2, o1, o2⟩ := v1
        obtain ⟨k3, k4, s3, s4, t3, t4, o3, o4⟩ := v2
        have e1 := fit_range (n := H + TO + BO) k1 s1 (by omega)
        have e2 := fit_range (n := W + LE + RI) k3 s3 (by omega)
        unfold fit at e1 e2 ⊢
        rw [if_neg (by omega)] at e1 e2 ⊢
        rw [if_neg (by omega)]
        have q1 := Int.ediv_nonneg (show 0 ≤ H + TO + BO - KH by omega) (show 0 ≤ SH by omega)
        have q2 := Int.ediv_nonneg (show 0 ≤ W + LE + RI - KW by omega) (show 0 ≤ SW by omega)
        exact ⟨hs, hv1, hv2, by omega, by omega, rfl, by omega, by omega, by omega, by omega⟩
    · rw [if_neg hv] at h; exact absurd h (by decide)
  · rw [if_neg hs] at h; exact absurd h (by decide)
/-- the corner of a window -/
theorem corner {H W C KH KW SH SW TO LE BO RI at_ : Int} (h : Pos H W C KH KW SH SW TO LE BO RI at_) :
    1 ≤ (outS H W C KH KW SH SW TO LE BO RI).2.1 ∧ 0 ≤ at_ / (outS H W C KH KW SH SW TO LE BO RI).2.1 ∧ at_ / (outS H W C KH KW SH SW TO LE BO RI).2.1 ≤ (H + TO + BO - KH) / SH ∧
    0 ≤ at_ % (outS H W C KH KW SH SW TO LE BO RI).2.1 ∧ at_ % (outS H W C KH KW SH SW TO LE BO RI).2.1 ≤ (W + LE + RI - KW) / SW ∧
    -TO ≤ topS H W C KH KW SH SW TO LE BO RI at_ ∧ topS H W C KH KW SH SW TO LE BO RI at_ ≤ H + BO - KH ∧ -LE ≤ leftS H W C KH KW SH SW TO LE BO RI at_ ∧ leftS H W C KH KW SH SW TO LE BO RI at_ ≤ W + RI - KW := by
  obtain ⟨h0, h1, h2⟩ := h
  obtain ⟨hs, hv1, hv2, f1, f2, ho, o1, o2, o3, o4⟩ := out_ok h0
  unfold topS leftS
  rw [ho] at h2 ⊢
  dsimp only at h2 ⊢
  obtain ⟨k1, k2, s1, s2, t1, t2, b1, b2⟩ := hv1
  obtain ⟨k3, k4, s3, s4, t3, t4, b3, b4⟩ := hv2
  generalize hR : (H + TO + BO - KH) / SH = R at *
  generalize hCc : (W + LE + RI - KW) / SW = Cc at *
  have a1 : 0 ≤ at_ / (Cc + 1) := Int.ediv_nonneg h1 (by omega)
  have a2 : at_ / (Cc + 1) < R + 1 := Int.ediv_lt_of_lt_mul (by omega) h2
  have a3 := Int.emod_nonneg at_ (show Cc + 1 ≠ 0 by omega)
  have a4 := Int.emod_lt_of_pos at_ (show 0 < Cc + 1 by omega)
  have m1 : 0 ≤ at_ / (Cc + 1) * SH := Int.mul_nonneg a1 (by omega)
  have m2 : at_ / (Cc + 1) * SH ≤ R * SH := Int.mul_le_mul_of_nonneg_right (by omega) (by omega)
  have m3 : 0 ≤ at_ % (Cc + 1) * SW := Int.mul_nonneg a3 (by omega)
  have m4 : at_ % (Cc + 1) * SW ≤ Cc * SW := Int.mul_le_mul_of_nonneg_right (by omega) (by omega)
  have m5 : R * SH ≤ H + TO + BO - KH := by rw [← hR]; exact Int.ediv_mul_le _ (by omega)
  have m6 : Cc * SW ≤ W + LE + RI - KW := by rw [← hCc]; exact Int.ediv_mul_le _ (by omega)
  omega
theorem Taps_eq (H W C KH KW SH SW TO LE BO RI at_ : Int) :
    window_Taps.f H W C KH KW SH SW TO LE BO RI at_ = some (if Pos H W C KH KW SH SW TO LE BO RI at_ then tapsL H W KH KW (topS H W C KH KW SH SW TO LE BO RI at_) (leftS H W C KH KW SH SW TO LE BO RI at_) else []) := by
  unfold window_Taps.f
  rw [Out_eq]
  simp only [Option.bind_some]
  by_cases h0 : (outS H W C KH KW SH SW TO LE BO RI).2.2 = 0
  · obtain ⟨hs, hv1, hv2, f1, f2, ho, o1, o2, o3, o4⟩ := out_ok h0
    have m := mul_range (a := (H + TO + BO - KH) / SH + 1) (b := (W + LE + RI - KW) / SW + 1) (A := 2000) (B := 2000) (by omega) o2 (by omega) o4
    by_cases hp : Pos H W C KH KW SH SW TO LE BO RI at_
    · rw [if_pos hp]
      have hc := corner hp
      obtain ⟨p0, p1, p2⟩ := hp
      have v1 := hv1; have v2 := hv2; have hs' := hs
      obtain ⟨k1, k2, s1, s2, t1, t2, b1, b2⟩ := v1
      obtain ⟨k3, k4, s3, s4, t3, t4, b3, b4⟩ := v2
      obtain ⟨g1, g2, g3, g4, g5, g6, _⟩ := hs'
      rw [if_neg (by rw [w64 (by rw [ho]; dsimp only; omega)]; omega), if_pos (by omega)]
      have e1 : winTop at_ (outS H W C KH KW SH SW TO LE BO RI).2.1 SH TO = topS H W C KH KW SH SW TO LE BO RI at_ := by
        have mm := mul_range (a := at_ / (outS H W C KH KW SH SW TO LE BO RI).2.1) (b := SH) (A := 2000) (B := 32) (by omega) (by omega) (by omega) (by omega)
        unfold winTop topS
        rw [Int.tdiv_eq_ediv_of_nonneg p1, w64 (x := at_ / (outS H W C KH KW SH SW TO LE BO RI).2.1) (by omega), w64 (x := at_ / (outS H W C KH KW SH SW TO LE BO RI).2.1 * SH) (by omega), w64 (by omega)]
      have e2 : winLeft at_ (outS H W C KH KW SH SW TO LE BO RI).2.1 SW LE = leftS H W C KH KW SH SW TO LE BO RI at_ := by
        have mm := mul_range (a := at_ % (outS H W C KH KW SH SW TO LE BO RI).2.1) (b := SW) (A := 2000) (B := 32) (by omega) (by omega) (by omega) (by omega)
        unfold winLeft leftS
        rw [w64 (x := at_ % (outS H W C KH KW SH SW TO LE BO RI).2.1 * SW) (by omega), w64 (by omega)]
      rw [e1, e2, winList_eq ⟨g1, g2⟩ ⟨g3, g4⟩ k3 k4 k1 k2 (by omega) (by omega)]
    · rw [if_neg hp, if_pos]
      by_cases q : at_ < 0
      · exact .inr (.inl q)
      · refine .inr (.inr ?_)
        rw [w64 (by rw [ho]; dsimp only; omega)]
        exact Int.not_lt.mp (fun q2 => hp ⟨h0, by omega, q2⟩)
  · rw [if_pos (.inl h0), if_neg (fun hp => h0 hp.1)]
theorem taps_short {H W C KH KW SH SW TO LE BO RI at_ : Int} (h : Pos H W C KH KW SH SW TO LE BO RI at_) (top left : Int) : (tapsL H W KH KW top left).length = (KH * KW).toNat ∧ 1 ≤ KH * KW ∧ KH * KW ≤ 1024 := by
  obtain ⟨hs, hv1, hv2, _⟩ := out_ok h.1
  obtain ⟨k1, k2, s1, s2, t1, t2, b1, b2⟩ := hv1
  obtain ⟨k3, k4, s3, s4, t3, t4, b3, b4⟩ := hv2
  have m := mul_range (a := KH) (b := KW) (A := 32) (B := 32) (by omega) k2 (by omega) k4
  have m2 : 1 * 1 ≤ KH * KW := Int.mul_le_mul k1 k3 (by omega) (by omega)
  exact ⟨upto_length _ _, by omega, by omega⟩
def gotL (H W C KH KW SH SW TO LE BO RI at_ : Int) : List (Int × Int) :=
  if Pos H W C KH KW SH SW TO LE BO RI at_ then tapsL H W KH KW (topS H W C KH KW SH SW TO LE BO RI at_) (leftS H W C KH KW SH SW TO LE BO RI at_) else []
theorem gotL_short (H W C KH KW SH SW TO LE BO RI at_ : Int) : (gotL H W C KH KW SH SW TO LE BO RI at_).length ≤ 1024 := by
  unfold gotL
  split
  · rename_i h
    have := taps_short h (topS H W C KH KW SH SW TO LE BO RI at_) (leftS H W C KH KW SH SW TO LE BO RI at_)
    omega
  · exact Nat.zero_le _
theorem pairs_eq (H W C KH KW SH SW TO LE BO RI at_ : Int) (m : Int) : spillwaylaw06_pairs.f H W C KH KW SH SW TO LE BO RI at_ m = some (flat ((gotL H W C KH KW SH SW TO LE BO RI at_).take m.toNat), true) := by
  unfold spillwaylaw06_pairs.f
  rw [Taps_eq]
  simp only [Option.bind_some]
  have hg := gotL_short H W C KH KW SH SW TO LE BO RI at_
  unfold gotL at hg ⊢
  rw [if_pos hg]
theorem pairs_all (H W C KH KW SH SW TO LE BO RI at_ : Int) : spillwaylaw06_pairs.f H W C KH KW SH SW TO LE BO RI at_ 2000000 = some (flat (gotL H W C KH KW SH SW TO LE BO RI at_), true) := by
  rw [pairs_eq, List.take_of_length_le (by have := gotL_short H W C KH KW SH SW TO LE BO RI at_; simp; omega)]
theorem win_fixed (k : Nat) : spillwaylaw06_fixed.f (k + 20) = some true := by
  unfold spillwaylaw06_fixed.f
  rw [show window_Out.f 4 4 1 3 3 1 1 1 1 1 1 = some (4, 4, 0) by decide +kernel, show spillwaylaw06_pairs.f 2 2 1 2 2 1 1 1 1 0 0 0 9 = some ([0, -1, 1, -1, 2, -1, 3, 0], true) by decide +kernel]
  simp only [Option.bind_some, if_true]
  rw [show spillwaylaw06_same.f (k + 20) [0, -1, 1, -1, 2, -1, 3, 0] [0, -1, 1, -1, 2, -1, 3, 0] = some true by kernel_rfl]
  rfl
theorem flat_getD (xs : List (Int × Int)) : ∀ i, (flat xs).getD (2 * i) 0 = (xs.getD i (0, 0)).1 ∧ (flat xs).getD (2 * i + 1) 0 = (xs.getD i (0, 0)).2 := by
  induction xs with
  | nil => intro i; simp [flat]
  | cons a l ih =>
    intro i
    have e : flat (a :: l) = a.1 :: a.2 :: flat l := by simp [flat]
    rw [e]
    cases i with
    | zero => simp
    | succ i => have := ih i; rw [show 2 * (i + 1) = (2 * i) + 1 + 1 by omega]; simpa using this
theorem rd_flat0 (xs : List (Int × Int)) (i : Nat) : rd (flat xs) (2 * (i : Int)) = (xs.getD i (0, 0)).1 := by
  unfold rd; rw [show (2 * (i : Int)).toNat = 2 * i by omega]; exact (flat_getD xs i).1
theorem rd_flat1 (xs : List (Int × Int)) (i : Nat) : rd (flat xs) (2 * (i : Int) + 1) = (xs.getD i (0, 0)).2 := by
  unfold rd; rw [show (2 * (i : Int) + 1).toNat = 2 * i + 1 by omega]; exact (flat_getD xs i).2
theorem upto_getD {α : Type} (f : Nat → α) (n i : Nat) (d : α) (h : i < n) : (upto f n).getD i d = f i := by
  unfold upto; simp [List.getD, h]
theorem Padded_eq (H W C KH KW SH SW TO LE BO RI at_ : Int) : window_Padded.f H W C KH KW SH SW TO LE BO RI at_ =
    some (if (outS H W C KH KW SH SW TO LE BO RI).2.2 ≠ 0 then (0, (outS H W C KH KW SH SW TO LE BO RI).2.2) else if Pos H W C KH KW SH SW TO LE BO RI at_ then ((negs (gotL H W C KH KW SH SW TO LE BO RI at_) : Int), 0) else (0, 3)) := by
  unfold window_Padded.f
  rw [Out_eq]
  simp only [Option.bind_some]
  by_cases h0 : (outS H W C KH KW SH SW TO LE BO RI).2.2 ≠ 0
  · rw [if_pos h0, if_pos h0]
  · rw [if_neg h0, if_neg h0]
    have h0 : (outS H W C KH KW SH SW TO LE BO RI).2.2 = 0 := by omega
    obtain ⟨hs, hv1, hv2, f1, f2, ho, o1, o2, o3, o4⟩ := out_ok h0
    have m := mul_range (a := (H + TO + BO - KH) / SH + 1) (b := (W + LE + RI - KW) / SW + 1) (A := 2000) (B := 2000) (by omega) o2 (by omega) o4
    have e : wrap64 ((outS H W C KH KW SH SW TO LE BO RI).1 * (outS H W C KH KW SH SW TO LE BO RI).2.1) = (outS H W C KH KW SH SW TO LE BO RI).1 * (outS H W C KH KW SH SW TO LE BO RI).2.1 := w64 (by rw [ho]; dsimp only; omega)
    rw [e]
    by_cases hp : Pos H W C KH KW SH SW TO LE BO RI at_
    · rw [if_neg (by have := hp.2; omega), if_pos hp, Taps_eq]
      simp only [Option.bind_some]
      have hg := gotL_short H W C KH KW SH SW TO LE BO RI at_
      unfold gotL at hg ⊢
      rw [if_pos hg]
    · rw [if_neg hp, if_pos]
      by_cases q : at_ < 0
      · exact .inl q
      · exact .inr (Int.not_lt.mp (fun q2 => hp ⟨h0, by omega, q2⟩))
end Go.Proofs.Ytnbhimgojnclbaa.CWwPlain

