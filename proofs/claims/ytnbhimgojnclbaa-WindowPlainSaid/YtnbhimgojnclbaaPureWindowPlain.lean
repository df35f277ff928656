import Derived.Test.YtnbhimgojnclbaaCWwPlainSayWindowPlain
import Derived.Test.YtnbhimgojnclbaaCWwPlainWindowQ
namespace Go.Proofs.Ytnbhimgojnclbaa.Pure
open Go.RowKit Go.Proofs.Ytnbhimgojnclbaa Go.Proofs.Ytnbhimgojnclbaa.CWwPlain Go.Proofs.Ytnbhimgojnclbaa.Lib Go.Proofs.YtnbhimgojnclbaaW.PrintWords Go.Proofs.YtnbhimgojnclbaaW.PrintLast
set_option linter.unusedVariables false
theorem plc_real {H W KW top left k : Int} (hW : 1 ≤ W) (h : 0 ≤ plcT H W KW top left k) :
    plcT H W KW top left k / W = top + k / KW ∧ plcT H W KW top left k % W = left + k % KW ∧ plcT H W KW top left k < H * W := by
  unfold plcT at h ⊢
  split at h
  · omega
  · rename_i q
    rw [if_neg q]
    have s := split_tap (KW := W) (ky := top + k / KW) (kx := left + k % KW) hW (by omega) (by omega)
    refine ⟨s.1, s.2, ?_⟩
    have : (top + k / KW) * W ≤ (H - 1) * W := Int.mul_le_mul_of_nonneg_right (by omega) (by omega)
    rw [Int.sub_mul] at this
    omega
theorem real_tap {H W C KH KW SH SW TO LE BO RI at_ : Int} (hp : Pos H W C KH KW SH SW TO LE BO RI at_) :
    negs (gotL H W C KH KW SH SW TO LE BO RI at_) < (KH * KW).toNat := by
  have hc := corner hp
  obtain ⟨hs, hv1, hv2, f1, f2, ho, o1, o2, o3, o4⟩ := out_ok hp.1
  obtain ⟨k1, k2, s1, s2, t1, t2, b1, b2⟩ := hv1
  obtain ⟨k3, k4, s3, s4, t3, t4, b3, b4⟩ := hv2
  obtain ⟨g1, g2, g3, g4, g5, g6, _⟩ := hs
  have hl : (gotL H W C KH KW SH SW TO LE BO RI at_).length = (KH * KW).toNat := by unfold gotL tapsL; rw [if_pos hp, upto_length]
  rw [← hl]
  unfold negs
  rw [List.length_filter_lt_length_iff_exists]
  generalize hT : topS H W C KH KW SH SW TO LE BO RI at_ = top at *
  generalize hL : leftS H W C KH KW SH SW TO LE BO RI at_ = left at *
  obtain ⟨ky, hky, hky1, hky2, hky3⟩ : ∃ ky : Int, 0 ≤ ky ∧ ky < KH ∧ 0 ≤ top + ky ∧ top + ky ≤ H - 1 := by
    by_cases q : top < 0
    · exact ⟨-top, by omega, by omega, by omega, by omega⟩
    · exact ⟨0, by omega, by omega, by omega, by omega⟩
  obtain ⟨kx, hkx, hkx1, hkx2, hkx3⟩ : ∃ kx : Int, 0 ≤ kx ∧ kx < KW ∧ 0 ≤ left + kx ∧ left + kx ≤ W - 1 := by
    by_cases q : left < 0
    · exact ⟨-left, by omega, by omega, by omega, by omega⟩
    · exact ⟨0, by omega, by omega, by omega, by omega⟩
  have s := split_tap (KW := KW) (ky := ky) (kx := kx) k3 hkx hkx1
  have m0 : 0 ≤ ky * KW := Int.mul_nonneg hky (by omega)
  have m1 : ky * KW + KW ≤ KH * KW := by
    have : (ky + 1) * KW ≤ KH * KW := Int.mul_le_mul_of_nonneg_right (by omega) (by omega)
    rw [Int.add_mul, Int.one_mul] at this; exact this
  have hpl : plcT H W KW top left (ky * KW + kx) = (top + ky) * W + (left + kx) := by
    unfold plcT; rw [s.1, s.2, if_neg (by omega)]
  have hnn : 0 ≤ (top + ky) * W := Int.mul_nonneg hky2 (by omega)
  refine ⟨((ky * KW + kx), plcT H W KW top left (ky * KW + kx)), ?_, ?_⟩
  · unfold gotL tapsL upto
    rw [if_pos hp, hT, hL, List.mem_map]
    refine ⟨(ky * KW + kx).toNat, List.mem_range.mpr (by omega), ?_⟩
    rw [show (((ky * KW + kx).toNat : Nat) : Int) = ky * KW + kx by omega]
  · rw [hpl]; simp; omega
structure Plain (H W KH KW top left : Int) (xs : List (Int × Int)) : Prop where
  h1 : 1 ≤ H ∧ H ≤ 1024
  h2 : 1 ≤ W ∧ W ≤ 1024
  k1 : 1 ≤ KH ∧ KH ≤ 32
  k2 : 1 ≤ KW ∧ KW ≤ 32
  t : -100000 ≤ top ∧ top ≤ 100000
  l : -100000 ≤ left ∧ left ≤ 100000
  hw : H * W ≤ 16384
  len : (xs.length : Int) = KH * KW
  at0 : ∀ a, a < xs.length → xs.getD a (0, 0) = ((a : Int), plcT H W KW top left a)
def plainFin (at_ : Int) (ys : List Int) (re H W C KH KW SH SW TO LE BO RI : Int) : Option Bool := (if (ys.length : Int) > 0 then (if (ys.length : Int) = (wrap64 ((wrap64 (2 * KH)) * KW)) then ((window_Padded.f H W C KH KW SH SW TO LE BO RI at_).bind fun bt217 => (if ((bt217.2 == 0) == (decide ((ys.length : Int) > 0))) = true then (if bt217.2 = 0 then (if bt217.1 ≥ 0 then (if bt217.1 < (wrap64 (KH * KW)) then (if re > 0 then (some true) else (some (decide ((ys.length : Int) > 40)))) else (some false)) else (some false)) else (some true)) else (some false))) else (some false)) else ((window_Padded.f H W C KH KW SH SW TO LE BO RI at_).bind fun bt219 => (if ((bt219.2 == 0) == (decide ((ys.length : Int) > 0))) = true then (if bt219.2 = 0 then (if bt219.1 ≥ 0 then (if bt219.1 < (wrap64 (KH * KW)) then (if re > 0 then (some true) else (some (decide ((ys.length : Int) > 40)))) else (some false)) else (some false)) else (some true)) else (some false))))
theorem l0_step (k : Nat) (at_ : Int) (ys : List Int) (re i H W C KH KW SH SW TO LE BO RI : Int) : spillwaylaw06_WindowPlain.l0 (k + 1) at_ ys re i H W C KH KW SH SW TO LE BO RI =
    if wrap64 (i + 1) < (ys.length : Int) then (if 0 ≤ wrap64 (i + 1) then (if rd ys (wrap64 (i + 1)) < 0 then spillwaylaw06_WindowPlain.l0 k at_ ys re (wrap64 (i + 2)) H W C KH KW SH SW TO LE BO RI else
      (if W < 1 then spillwaylaw06_WindowPlain.j2 k at_ ys (wrap64 (re + 1)) i (rd ys (wrap64 (i + 1))) true H W C KH KW SH SW TO LE BO RI else
        spillwaylaw06_WindowPlain.j2 k at_ ys (wrap64 (re + 1)) i (rd ys (wrap64 (i + 1))) (decide (rd ys (wrap64 (i + 1)) ≥ wrap64 (H * W))) H W C KH KW SH SW TO LE BO RI)) else none) else plainFin at_ ys re H W C KH KW SH SW TO LE BO RI := rfl
theorem l1_exit (k : Nat) (at_ : Int) (ys : List Int) (re i p j H W C KH KW SH SW TO LE BO RI : Int) (h : ¬ j < i) : spillwaylaw06_WindowPlain.l1 (k + 1) at_ ys re i p j H W C KH KW SH SW TO LE BO RI =
    if i > 40 then plainFin at_ ys re H W C KH KW SH SW TO LE BO RI else spillwaylaw06_WindowPlain.l0 k at_ ys re (wrap64 (i + 2)) H W C KH KW SH SW TO LE BO RI := by
  simp only [spillwaylaw06_WindowPlain.l1]
  rw [if_neg h]; rfl
theorem plain_fin {at_ re H W C KH KW SH SW TO LE BO RI : Int} (hp : Pos H W C KH KW SH SW TO LE BO RI at_) (hr : re > 0 ∨ 20 < KH * KW) : plainFin at_ (flat (gotL H W C KH KW SH SW TO LE BO RI at_)) re H W C KH KW SH SW TO LE BO RI = some true := by
  unfold plainFin
  have hs := taps_short hp (topS H W C KH KW SH SW TO LE BO RI at_) (leftS H W C KH KW SH SW TO LE BO RI at_)
  have hl : (gotL H W C KH KW SH SW TO LE BO RI at_).length = (KH * KW).toNat := by unfold gotL; rw [if_pos hp]; exact hs.1
  have hn := real_tap hp
  obtain ⟨_, hv1, hv2, _⟩ := out_ok hp.1
  obtain ⟨k1, k2, _⟩ := hv1
  obtain ⟨k3, k4, _⟩ := hv2
  have h0 : ¬ ((outS H W C KH KW SH SW TO LE BO RI).2.2 ≠ 0) := by have := hp.1; omega
  have e2 : 2 * KH * KW = 2 * (KH * KW) := Int.mul_assoc _ _ _
  rw [Padded_eq, if_neg h0, if_pos hp, flat_length, hl, w64 (x := 2 * KH) (by omega), w64 (x := 2 * KH * KW) (by omega), w64 (x := KH * KW) (by omega)]
  have e3 : ((2 * (KH * KW).toNat : Nat) : Int) = 2 * (KH * KW) := by push_cast; omega
  rw [e3, if_pos (by omega), if_pos (by omega), Option.bind_some]
  dsimp only
  rw [decide_eq_true (show 2 * (KH * KW) > 0 by omega), show (((0 : Int) == 0) == true) = true from rfl, if_pos rfl, if_pos rfl, if_pos (by omega), if_pos (by omega)]
  split
  · rfl
  · rw [decide_eq_true (by omega)]
theorem l1_true {at_ H W C KH KW SH SW TO LE BO RI top left : Int} {xs : List (Int × Int)} (P : Plain H W KH KW top left xs) (a : Nat) (ha : a < xs.length) (re : Int) (hr : 0 ≤ plcT H W KW top left a)
    (R : Nat) (d : Nat) : ∀ (f b : Nat), a - b ≤ d → b ≤ a → d + 1 + R ≤ f →
    ∃ g, R ≤ g ∧ spillwaylaw06_WindowPlain.l1 f at_ (flat xs) re (2 * (a : Int)) (plcT H W KW top left a) (2 * (b : Int)) H W C KH KW SH SW TO LE BO RI =
      if 2 * (a : Int) > 40 then plainFin at_ (flat xs) re H W C KH KW SH SW TO LE BO RI else spillwaylaw06_WindowPlain.l0 g at_ (flat xs) re (wrap64 (2 * (a : Int) + 2)) H W C KH KW SH SW TO LE BO RI := by
  have hlen : ((flat xs).length : Int) = 2 * (KH * KW) := by rw [flat_length]; push_cast; rw [P.len]
  have hlx := P.len
  obtain ⟨h11, h12⟩ := P.h1
  obtain ⟨h21, h22⟩ := P.h2
  obtain ⟨k11, k12⟩ := P.k1
  obtain ⟨k21, k22⟩ := P.k2
  have hwp := P.hw
  have mN := mul_range (a := KH) (b := KW) (A := 32) (B := 32) (by omega) k12 (by omega) k22
  induction d with
  | zero =>
    intro f b h1 h2 h3
    obtain ⟨f, rfl⟩ : ∃ m, f = m + 1 := ⟨f - 1, by omega⟩
    refine ⟨f, by omega, ?_⟩
    rw [l1_exit _ _ _ _ _ _ _ _ _ _ _ _ _ _ _ _ _ _ (by omega)]
  | succ d ih =>
    intro f b h1 h2 h3
    obtain ⟨f, rfl⟩ : ∃ m, f = m + 1 := ⟨f - 1, by omega⟩
    by_cases hb : b < a
    · obtain ⟨g, hg, e⟩ := ih f (b + 1) (by omega) (by omega) (by omega)
      refine ⟨g, hg, ?_⟩
      have hnext : wrap64 (2 * (b : Int) + 2) = 2 * ((b + 1 : Nat) : Int) := by rw [w64 (by omega)]; push_cast; omega
      simp only [spillwaylaw06_WindowPlain.l1]
      rw [if_pos (by omega), w64 (x := 2 * (b : Int) + 1) (by omega), if_pos (by omega), if_pos (by rw [hlen]; omega), rd_flat1, P.at0 b (by omega), hnext]
      dsimp only
      by_cases hq : plcT H W KW top left b ≥ 0
      · have pa := plc_real h21 hr
        have pb := plc_real h21 hq
        rw [if_pos hq, if_neg (by omega), if_pos (by omega), if_pos (by rw [hlen]; omega), if_neg (by omega), if_pos (by omega), if_pos (by rw [hlen]; omega), rd_flat0, rd_flat0, P.at0 a ha, P.at0 b (by omega)]
        dsimp only
        have r1 := tap_range (k := (a : Int)) k21 k22 (by omega) (by omega)
        have r2 := tap_range (k := (b : Int)) k21 k22 (by omega) (by omega)
        have tt := P.t
        have ll := P.l
        rw [Int.tdiv_eq_ediv_of_nonneg hr, Int.tdiv_eq_ediv_of_nonneg hq, Int.tdiv_eq_ediv_of_nonneg (show (0 : Int) ≤ a by omega), Int.tdiv_eq_ediv_of_nonneg (show (0 : Int) ≤ b by omega),
          Int.tmod_eq_emod_of_nonneg hr, Int.tmod_eq_emod_of_nonneg hq, Int.tmod_eq_emod_of_nonneg (show (0 : Int) ≤ a by omega), Int.tmod_eq_emod_of_nonneg (show (0 : Int) ≤ b by omega),
          pa.1, pa.2.1, pb.1, pb.2.1, w64 (x := top + (a : Int) / KW) (by omega), w64 (x := top + (b : Int) / KW) (by omega), w64 (x := (a : Int) / KW) (by omega), w64 (x := (b : Int) / KW) (by omega),
          w64 (x := top + (a : Int) / KW - (top + (b : Int) / KW)) (by omega), w64 (x := (a : Int) / KW - (b : Int) / KW) (by omega), w64 (x := left + (a : Int) % KW - (left + (b : Int) % KW)) (by omega), w64 (x := (a : Int) % KW - (b : Int) % KW) (by omega),
          if_pos (by omega), if_pos (by omega)]
        exact e
      · rw [if_neg hq]; exact e
    · refine ⟨f, by omega, ?_⟩
      rw [l1_exit _ _ _ _ _ _ _ _ _ _ _ _ _ _ _ _ _ _ (by omega)]
theorem l0_true {at_ H W C KH KW SH SW TO LE BO RI top left : Int} {xs : List (Int × Int)} (P : Plain H W KH KW top left xs) (hfin : ∀ re, (re > 0 ∨ 20 < KH * KW) → plainFin at_ (flat xs) re H W C KH KW SH SW TO LE BO RI = some true)
    (hneg : negs xs < xs.length) (d : Nat) : ∀ (f a : Nat) (re : Int), xs.length - a ≤ d → a ≤ xs.length → 1100 * d + 1 ≤ f → re = a - negs (xs.take a) →
    spillwaylaw06_WindowPlain.l0 f at_ (flat xs) re (2 * (a : Int)) H W C KH KW SH SW TO LE BO RI = some true := by
  have hlen : ((flat xs).length : Int) = 2 * (KH * KW) := by rw [flat_length]; push_cast; rw [P.len]
  have hlx := P.len
  obtain ⟨h11, h12⟩ := P.h1
  obtain ⟨h21, h22⟩ := P.h2
  obtain ⟨k11, k12⟩ := P.k1
  obtain ⟨k21, k22⟩ := P.k2
  have hwp := P.hw
  have hw0 : 0 ≤ H * W := Int.mul_nonneg (by omega) (by omega)
  have mN := mul_range (a := KH) (b := KW) (A := 32) (B := 32) (by omega) k12 (by omega) k22
  have hend : ∀ (f a : Nat) (re : Int), a = xs.length → 1 ≤ f → re = a - negs (xs.take a) → spillwaylaw06_WindowPlain.l0 f at_ (flat xs) re (2 * (a : Int)) H W C KH KW SH SW TO LE BO RI = some true := by
    intro f a re h1 h3 h4
    obtain ⟨f, rfl⟩ : ∃ m, f = m + 1 := ⟨f - 1, by omega⟩
    rw [l0_step, w64 (x := 2 * (a : Int) + 1) (by omega), if_neg (by rw [hlen]; omega)]
    refine hfin re (.inl ?_)
    rw [h4, h1, List.take_length]; omega
  induction d with
  | zero => intro f a re h1 h2 h3 h4; exact hend f a re (by omega) (by omega) h4
  | succ d ih =>
    intro f a re h1 h2 h3 h4
    by_cases hb : a < xs.length
    · obtain ⟨f, rfl⟩ : ∃ m, f = m + 2 := ⟨f - 2, by omega⟩
      have hle := negs_le (xs.take a)
      have htl : (xs.take a).length ≤ a := by simp; omega
      have hsn : xs.take (a + 1) = xs.take a ++ [xs.getD a (0, 0)] := by
        rw [List.take_add_one]; simp [List.getD, hb]
      have hnext : wrap64 (2 * (a : Int) + 2) = 2 * ((a + 1 : Nat) : Int) := by rw [w64 (by omega)]; push_cast; omega
      rw [l0_step, w64 (x := 2 * (a : Int) + 1) (by omega), if_pos (by rw [hlen]; omega), if_pos (by omega), rd_flat1, hnext]
      have hat := P.at0 a hb
      rw [hat] at hsn ⊢
      dsimp only
      by_cases hq : plcT H W KW top left a < 0
      · rw [if_pos hq]
        refine ih (f + 1) (a + 1) re (by omega) (by omega) (by omega) ?_
        rw [hsn, negs_hit _ _ hq]; push_cast; omega
      · have pa := plc_real h21 (Int.not_lt.mp hq)
        rw [if_neg hq, if_neg (by omega), w64 (x := H * W) (by omega), w64 (x := re + 1) (by omega)]
        simp only [spillwaylaw06_WindowPlain.j2]
        rw [if_neg (by simp; omega)]
        obtain ⟨g, hg, e⟩ := l1_true (at_ := at_) (C := C) (SH := SH) (SW := SW) (TO := TO) (LE := LE) (BO := BO) (RI := RI) P a hb (re + 1) (Int.not_lt.mp hq) (1100 * d + 1) a f 0 (by omega) (by omega) (by omega)
        rw [show (2 * ((0 : Nat) : Int)) = 0 from rfl] at e
        rw [e]
        split
        · exact hfin _ (.inr (by omega))
        · rw [hnext]
          refine ih g (a + 1) (re + 1) (by omega) (by omega) hg ?_
          rw [hsn, negs_miss _ _ hq]; push_cast; omega
    · exact hend f a re (by omega) (by omega) h4
theorem WindowPlain : spillwaylaw06_WindowPlain.Pure := by
  intro H W C KH KW SH SW TO LE BO RI at_ _ _ _ _ _ _ _ _ _ _ _ _
  obtain ⟨m, hm⟩ : ∃ m, m = 1130000 := ⟨_, rfl⟩
  refine ⟨m + 20, ?_⟩
  unfold spillwaylaw06_WindowPlain.f
  rw [pairs_all, win_fixed, Option.bind_some, Option.bind_some, if_pos rfl]
  simp only [spillwaylaw06_WindowPlain.j0]
  rw [if_neg (by decide)]
  by_cases hp : Pos H W C KH KW SH SW TO LE BO RI at_
  · have hs := taps_short hp (topS H W C KH KW SH SW TO LE BO RI at_) (leftS H W C KH KW SH SW TO LE BO RI at_)
    have hl : (gotL H W C KH KW SH SW TO LE BO RI at_).length = (KH * KW).toNat := by unfold gotL; rw [if_pos hp]; exact hs.1
    have hn := real_tap hp
    have hc := corner hp
    have hfin := fun re (hr : re > 0 ∨ 20 < KH * KW) => plain_fin hp hr
    obtain ⟨hsh, hv1, hv2, _⟩ := out_ok hp.1
    have hsf := hsh.facts
    obtain ⟨k1, k2, s1, s2, t1, t2, b1, b2⟩ := hv1
    obtain ⟨k3, k4, s3, s4, t3, t4, b3, b4⟩ := hv2
    obtain ⟨g1, g2, g3, g4, g5, g6, _⟩ := hsh
    have P : Plain H W KH KW (topS H W C KH KW SH SW TO LE BO RI at_) (leftS H W C KH KW SH SW TO LE BO RI at_) (gotL H W C KH KW SH SW TO LE BO RI at_) := by
      refine ⟨⟨g1, g2⟩, ⟨g3, g4⟩, ⟨k1, k2⟩, ⟨k3, k4⟩, by omega, by omega, by omega, by rw [hl]; omega, ?_⟩
      intro a ha
      rw [hl] at ha
      unfold gotL tapsL
      rw [if_pos hp, upto_getD _ _ _ _ ha]
    have := l0_true P hfin (by rw [hl]; exact hn) 1024 (m + 19) 0 0 (by omega) (by omega) (by omega) (by simp [negs])
    exact this
  · have hg : gotL H W C KH KW SH SW TO LE BO RI at_ = [] := if_neg hp
    rw [hg, l0_step, if_neg (by simp [flat, wrap64])]
    unfold plainFin
    have hd : decide (((flat []).length : Int) > 0) = false := by simp [flat]
    rw [if_neg (by simp [flat]), Padded_eq, Option.bind_some, hd]
    by_cases h0 : (outS H W C KH KW SH SW TO LE BO RI).2.2 ≠ 0
    · rw [if_pos h0]; simp [h0]
    · rw [if_neg h0, if_neg hp]; simp
end Go.Proofs.Ytnbhimgojnclbaa.Pure
