import Derived.Test.YtnbhimgojnclbaaCWowTapsSayWindowTaps
import Derived.Test.YtnbhimgojnclbaaCWowTapsWindowQ
namespace Go.Proofs.Ytnbhimgojnclbaa.Pure
open Go.RowKit Go.Proofs.Ytnbhimgojnclbaa Go.Proofs.Ytnbhimgojnclbaa.CWowTaps Go.Proofs.Ytnbhimgojnclbaa.Lib Go.Proofs.YtnbhimgojnclbaaW.PrintWords Go.Proofs.YtnbhimgojnclbaaW.PrintLast
theorem WindowTaps_l0 (xs : List (Int × Int)) (hx : ∀ i, i < xs.length → (xs.getD i (0, 0)).1 = i) (hl : xs.length ≤ 1024) (n : Int) (d : Nat) : ∀ (f i : Nat), xs.length - i ≤ d → i ≤ xs.length → 2 * d + 1 ≤ f →
    spillwaylaw06_WindowTaps.l0 f (flat xs) n (xs.map (·.2)) (negs (xs.take i)) xs.length i = some (n == negs xs) := by
  have hlen : ((flat xs).length : Int) = 2 * xs.length := by rw [flat_length]; push_cast; rfl
  have hbase : ∀ f i, i = xs.length → 1 ≤ f → spillwaylaw06_WindowTaps.l0 f (flat xs) n (xs.map (·.2)) (negs (xs.take i)) xs.length i = some (n == negs xs) := by
    intro f i h1 h3
    obtain ⟨f, rfl⟩ : ∃ m, f = m + 1 := ⟨f - 1, by omega⟩
    simp only [spillwaylaw06_WindowTaps.l0]
    rw [if_neg (by omega), h1, List.take_length]
  induction d with
  | zero => intro f i h1 h2 h3; exact hbase f i (by omega) (by omega)
  | succ d ih =>
    intro f i h1 h2 h3
    by_cases hi : i < xs.length
    · obtain ⟨f, rfl⟩ : ∃ m, f = m + 2 := ⟨f - 2, by omega⟩
      have hg := hx i hi
      have hw : rd (xs.map (·.2)) (i : Int) = (xs.getD i (0, 0)).2 := by
        unfold rd; rw [Int.toNat_natCast]; simp [List.getD, hi]
      have hle := negs_le (xs.take i)
      have htl : (xs.take i).length ≤ i := by simp; omega
      have hsn : xs.take (i + 1) = xs.take i ++ [xs.getD i (0, 0)] := by
        rw [List.take_add_one]; simp [List.getD, hi]
      simp only [spillwaylaw06_WindowTaps.l0, spillwaylaw06_WindowTaps.j2]
      rw [if_pos (by omega), w64 (x := 2 * (i : Int)) (by omega), w64 (x := 2 * (i : Int) + 1) (by omega), if_pos (by omega), if_pos (by rw [hlen]; omega), rd_flat0, rd_flat1, hg, if_pos rfl, if_pos (by omega), if_pos (by rw [hlen]; omega),
        if_pos (by omega), if_pos (by simp; omega), hw, if_neg (by simp)]
      simp only [List.length_map]
      rw [if_pos (by omega), if_pos (by omega), w64 (x := (i : Int) + 1) (by omega)]
      by_cases hn : (xs.getD i (0, 0)).2 < 0
      · rw [if_pos hn, w64 (x := (negs (xs.take i) : Int) + 1) (by omega)]
        have := ih f (i + 1) (by omega) (by omega) (by omega)
        rw [hsn, negs_hit _ _ hn] at this
        exact_mod_cast this
      · rw [if_neg hn]
        have := ih f (i + 1) (by omega) (by omega) (by omega)
        rw [hsn, negs_miss _ _ hn] at this
        exact_mod_cast this
    · exact hbase f i (by omega) (by omega)
theorem WindowTaps : spillwaylaw06_WindowTaps.Pure := by
  intro H W C KH KW SH SW TO LE BO RI at_ _ _ _ _ _ _ _ _ _ _ _ _
  obtain ⟨m, hm⟩ : ∃ m, m = 3000 := ⟨_, rfl⟩
  refine ⟨m + 20, ?_⟩
  unfold spillwaylaw06_WindowTaps.f
  rw [pairs_all, Padded_eq, Has_eq _ (by omega), win_fixed]
  simp only [Option.bind_some, if_true, spillwaylaw06_WindowTaps.j0]
  by_cases h0 : (outS H W C KH KW SH SW TO LE BO RI).2.2 = 0
  · have hn : ¬ ((outS H W C KH KW SH SW TO LE BO RI).2.2 ≠ 0) := by omega
    rw [if_neg hn, if_neg hn]
    by_cases hp : Pos H W C KH KW SH SW TO LE BO RI at_
    · rw [if_pos hp, if_pos hp]
      have hb : ((0 : Int) != 0) = false := rfl
      have hf : 2500 ≤ m + 19 := by omega
      have hT := rTaps_eq (m + 19) hf hp
      dsimp only
      rw [hb, if_neg Bool.false_ne_true, if_pos rfl, hT, Option.bind_some]
      have hs := gotL_short H W C KH KW SH SW TO LE BO RI at_
      have hx := gotL_fst H W C KH KW SH SW TO LE BO RI at_
      generalize gotL H W C KH KW SH SW TO LE BO RI at_ = xs at *
      rw [flat_length, List.length_map, w64 (x := 2 * (xs.length : Int)) (by omega), if_pos (by push_cast; rfl)]
      have := WindowTaps_l0 xs hx hs (negs xs) 1024 (m + 19) 0 (by omega) (by omega) (by omega)
      have e1 : negs (xs.take 0) = 0 := by simp [negs]
      have e2 : ((0 : Nat) : Int) = 0 := rfl
      rw [e1, e2] at this
      rw [this, beq_self_eq_true]
    · rw [if_neg hp, if_neg hp]
      have hg : gotL H W C KH KW SH SW TO LE BO RI at_ = [] := if_neg hp
      rw [hg]; simp [flat]
  · rw [if_pos h0, if_pos h0]
    have hp : ¬ Pos H W C KH KW SH SW TO LE BO RI at_ := fun q => h0 q.1
    have hg : gotL H W C KH KW SH SW TO LE BO RI at_ = [] := if_neg hp
    rw [hg]; simp [flat, h0]
end Go.Proofs.Ytnbhimgojnclbaa.Pure
