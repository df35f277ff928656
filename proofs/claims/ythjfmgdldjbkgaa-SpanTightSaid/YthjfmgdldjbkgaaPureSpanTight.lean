/- The ends of spans' sums and products are reached; a span that is held has sums that are held; opposites. No condition. -/
import Derived.Test.YthjfmgdldjbkgaaCSnTightSpanQ
import Derived.Test.YthjfmgdldjbkgaaCSnTightSaySpanTight
namespace Go.Proofs.Ythjfmgdldjbkgaa.Pure
open Go.RowKit Go.Proofs.Ythjfmgdldjbkgaa.Lib Go.Proofs.Ythjfmgdldjbkgaa.CSnTight Go.Proofs.YthjfmgdldjbkgaaW.PrintWords Go.Proofs.YthjfmgdldjbkgaaW.PrintLast Go.Proofs.YthjfmgdldjbkgaaW.PrintMore
set_option linter.unusedVariables false
theorem st_j3 (k : Nat) (x y z w : Int) : spillwaylaw03_SpanTight.j3 (k + 1) true x y z w = some true := by
  simp [spillwaylaw03_SpanTight.j3]
theorem st_j3' (k : Nat) {x y z w : Int} (h1 : x = wrap64 (-w)) (h2 : y = wrap64 (-z)) (h3 : x ≤ y) : spillwaylaw03_SpanTight.j3 (k + 1) false x y z w = some true := by
  simp only [spillwaylaw03_SpanTight.j3]
  rw [if_neg Bool.false_ne_true, if_pos h1, if_pos h2, decide_eq_true h3]
theorem ends2_ok {x y : Int} (h : (ends2 x y).2.2 = 0) : R64 x ∧ R64 y ∧ ends2 x y = (x, y, 0) := by
  unfold ends2 at *
  by_cases c : (-9223372036854775808 ≤ x ∧ x ≤ 9223372036854775807) ∧ (-9223372036854775808 ≤ y ∧ y ≤ 9223372036854775807)
  · exact ⟨c.1, c.2, by rw [if_pos c]⟩
  · rw [if_neg c] at h; exact absurd h (by decide)
theorem ends2_in {x y : Int} (hx : R64 x) (hy : R64 y) : ends2 x y = (x, y, 0) := if_pos ⟨hx, hy⟩
theorem st_j2 (k : Nat) {a b x : Int} (ha : R64 a) (hb : R64 b) (hx : R64 x) : spillwaylaw03_SpanTight.j2 (k + 3) x false a b = some true := by
  simp only [spillwaylaw03_SpanTight.j2]
  rw [if_neg Bool.false_ne_true, span_Times_eq (k + 1) ha hb hx, span_Times_eq (k + 1) ha hb (by unfold R64; exact wrap64_range _), Option.bind_some, Option.bind_some]
  by_cases c : x = -9223372036854775808
  · rw [if_pos c]; exact st_j3 _ _ _ _ _
  rw [if_neg c]
  by_cases e : (timS a b x).2.2 = 0
  · rw [if_pos e]
    by_cases f : (timS a b (wrap64 (-x))).2.2 = 0
    · rw [show ((timS a b (wrap64 (-x))).2.2 != 0) = false by rw [f]; rfl]
      unfold R64 at hx
      rw [w64 (x := -x) (by omega)] at f ⊢
      unfold timS at e f ⊢
      by_cases v : a ≤ b
      · rw [if_pos v] at e f ⊢
        rw [if_pos v] at ⊢
        have m1 : b * -x = -(b * x) := Int.mul_neg b x
        have m2 : a * -x = -(a * x) := Int.mul_neg a x
        by_cases s : x < 0
        · have hm : b * x ≤ a * x := Int.mul_le_mul_of_nonpos_right v (by omega)
          rw [if_pos s] at e ⊢
          rw [if_neg (by omega)] at f ⊢
          rw [m1, m2] at f ⊢
          generalize a * x = X at *
          generalize b * x = Y at *
          obtain ⟨h1, h2, h3⟩ := ends2_ok e
          obtain ⟨h4, h5, h6⟩ := ends2_ok f
          rw [h3, h6]
          unfold R64 at h1 h2
          exact st_j3' _ (by show Y = wrap64 (- -Y); rw [Int.neg_neg, w64 (by omega)]) (by show X = wrap64 (- -X); rw [Int.neg_neg, w64 (by omega)]) hm
        · have hm : a * x ≤ b * x := Int.mul_le_mul_of_nonneg_right v (by omega)
          rw [if_neg s] at e ⊢
          by_cases z : x = 0
          · subst z
            rw [if_neg (by omega)] at f ⊢
            simp only [Int.mul_zero, Int.neg_zero]
            rw [ends2_in (by decide) (by decide)]
            exact st_j3' _ (by show (0 : Int) = wrap64 (-0); unfold wrap64; omega) (by show (0 : Int) = wrap64 (-0); unfold wrap64; omega) (by show (0 : Int) ≤ 0; omega)
          · rw [if_pos (by omega)] at f ⊢
            rw [m1, m2] at f ⊢
            generalize a * x = X at *
            generalize b * x = Y at *
            obtain ⟨h1, h2, h3⟩ := ends2_ok e
            obtain ⟨h4, h5, h6⟩ := ends2_ok f
            rw [h3, h6]
            unfold R64 at h1 h2
            exact st_j3' _ (by show X = wrap64 (- -X); rw [Int.neg_neg, w64 (by omega)]) (by show Y = wrap64 (- -Y); rw [Int.neg_neg, w64 (by omega)]) hm
      · rw [if_neg v] at e; exact absurd e (by decide)
    · rw [show ((timS a b (wrap64 (-x))).2.2 != 0) = true from bne_iff_ne.mpr f]; exact st_j3 _ _ _ _ _
  · rw [if_neg e]; exact st_j3 _ _ _ _ _
theorem st_j1 (k : Nat) {a b c d p q x : Int} (ha : R64 a) (hb : R64 b) (hc : R64 c) (hd : R64 d) (hp : R64 p) (hq : R64 q) (hx : R64 x) :
    spillwaylaw03_SpanTight.j1 (k + 4) x (addS a b c d).2.2 a b c d p q (addS a b c d).1 (addS a b c d).2.1 = some true := by
  simp only [spillwaylaw03_SpanTight.j1]
  rw [span_Add_eq (k + 2) hp hq hc hd, Option.bind_some]
  simp only [span_Holds_eq, Option.bind_some, decide_eq_true_eq]
  have J := st_j2 k ha hb hx
  have hv : span_Valid.f c d = some (decide (c ≤ d)) := rfl
  rw [hv, Option.bind_some]
  unfold R64 at *
  by_cases e : (addS a b c d).2.2 = 0
  · have e' := e
    unfold addS at e'
    by_cases v : a ≤ b ∧ c ≤ d
    · rw [if_pos v] at e'
      obtain ⟨h1, h2, h3⟩ := ends2_ok e'
      have hA : addS a b c d = (a + c, b + d, 0) := by unfold addS; rw [if_pos v, h3]
      rw [hA]; dsimp only
      by_cases hol : p ≤ q ∧ a ≤ p ∧ q ≤ b
      · unfold R64 at h1 h2
        have hC : addS p q c d = (p + c, q + d, 0) := by unfold addS; rw [if_pos ⟨hol.1, v.2⟩, ends2_in (by unfold R64; omega) (by unfold R64; omega)]
        rw [if_pos hol, if_pos rfl, hC]; dsimp only
        rw [decide_eq_true v.2, if_neg (by decide), if_pos rfl, decide_eq_true hol, decide_eq_true (show p + c ≤ q + d ∧ a + c ≤ p + c ∧ q + d ≤ b + d by omega)]
        exact J
      · rw [if_neg hol, if_pos rfl]
        by_cases f : (addS p q c d).2.2 = 0
        · have f' := f
          unfold addS at f'
          by_cases v2 : p ≤ q ∧ c ≤ d
          · rw [if_pos v2] at f'
            obtain ⟨h4, h5, h6⟩ := ends2_ok f'
            have hC : addS p q c d = (p + c, q + d, 0) := by unfold addS; rw [if_pos v2, h6]
            rw [if_pos f, hC, decide_eq_false hol, decide_eq_false (show ¬ (p + c ≤ q + d ∧ a + c ≤ p + c ∧ q + d ≤ b + d) by omega)]
            exact J
          · rw [if_neg v2] at f'; exact absurd f' (by decide)
        · rw [if_neg f]; exact J
    · rw [if_neg v] at e'; exact absurd e' (by decide)
  · by_cases hol : p ≤ q ∧ a ≤ p ∧ q ≤ b
    · rw [if_pos hol, if_neg e]; exact J
    · rw [if_neg hol, if_neg e]; exact J
theorem SpanTight : spillwaylaw03_SpanTight.Pure := by
  intro a b c d p q x ha hb hc hd hp hq hx
  have ha : R64 a := bounds_i64 ha
  have hb : R64 b := bounds_i64 hb
  have hc : R64 c := bounds_i64 hc
  have hd : R64 d := bounds_i64 hd
  have hp : R64 p := bounds_i64 hp
  have hq : R64 q := bounds_i64 hq
  have hx : R64 x := bounds_i64 hx
  refine ⟨6, ?_⟩
  unfold spillwaylaw03_SpanTight.f
  rw [span_fixed 5, Option.bind_some, if_pos rfl, span_Add_eq 5 ha hb hc hd, Option.bind_some]
  by_cases e : (addS a b c d).2.2 = 0
  · rw [if_pos e, num_Add_eq ha hc, num_Add_eq hb hd, Option.bind_some, Option.bind_some]
    have e' := e
    unfold addS at e'
    by_cases v : a ≤ b ∧ c ≤ d
    · rw [if_pos v] at e'
      obtain ⟨h1, h2, h3⟩ := ends2_ok e'
      have hA : addS a b c d = (a + c, b + d, 0) := by unfold addS; rw [if_pos v, h3]
      have J := st_j1 1 ha hb hc hd hp hq hx
      rw [hA] at J ⊢
      rw [chk_in h1, chk_in h2]; dsimp only at J ⊢
      rw [if_pos rfl, if_pos rfl, if_pos rfl, bne_self_eq_false]
      simp only [spillwaylaw03_SpanTight.j0]
      rw [if_neg Bool.false_ne_true]
      exact J
    · rw [if_neg v] at e'; exact absurd e' (by decide)
  · rw [if_neg e]; exact st_j1 2 ha hb hc hd hp hq hx
end Go.Proofs.Ythjfmgdldjbkgaa.Pure
