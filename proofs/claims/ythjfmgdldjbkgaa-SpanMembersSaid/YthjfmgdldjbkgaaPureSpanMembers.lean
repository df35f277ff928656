/- Whatever numbers two spans hold, their sum, difference and product are held by the answers, each by the hull, and by the Meet just what both hold. No condition. -/
import Derived.Test.YthjfmgdldjbkgaaCSembersSpanQ
import Derived.Test.YthjfmgdldjbkgaaCSembersSaySpanMembers
namespace Go.Proofs.Ythjfmgdldjbkgaa.Pure
open Go.RowKit Go.Proofs.Ythjfmgdldjbkgaa.Lib Go.Proofs.Ythjfmgdldjbkgaa.CSembers Go.Proofs.YthjfmgdldjbkgaaW.PrintWords Go.Proofs.YthjfmgdldjbkgaaW.PrintLast Go.Proofs.YthjfmgdldjbkgaaW.PrintMore
set_option linter.unusedVariables false
theorem ends2_ok {x y : Int} (h : (ends2 x y).2.2 = 0) : R64 x ∧ R64 y ∧ ends2 x y = (x, y, 0) := by
  unfold ends2 at *
  by_cases c : (-9223372036854775808 ≤ x ∧ x ≤ 9223372036854775807) ∧ (-9223372036854775808 ≤ y ∧ y ≤ 9223372036854775807)
  · exact ⟨c.1, c.2, by rw [if_pos c]⟩
  · rw [if_neg c] at h; exact absurd h (by decide)
variable {a b c d u v x : Int}
theorem sm_j4 (k : Nat) (ha : R64 a) (hb : R64 b) (hu : R64 u) (hx : R64 x) (h1 : a ≤ u) (h2 : u ≤ b) : spillwaylaw03_SpanMembers.j4 (k + 2) u x false a b = some true := by
  simp only [spillwaylaw03_SpanMembers.j4]
  rw [if_neg Bool.false_ne_true, span_Times_eq k ha hb hx, num_Mul_eq k hu hx, Option.bind_some, Option.bind_some]
  by_cases e : (timS a b x).2.2 = 0
  · rw [if_pos e]
    unfold timS at e ⊢
    rw [if_pos (show a ≤ b by omega)] at e ⊢
    by_cases s : x < 0
    · rw [if_pos s] at e ⊢
      obtain ⟨q1, q2, q3⟩ := ends2_ok e
      have m1 : b * x ≤ u * x := Int.mul_le_mul_of_nonpos_right h2 (by omega)
      have m2 : u * x ≤ a * x := Int.mul_le_mul_of_nonpos_right h1 (by omega)
      unfold R64 at q1 q2
      rw [q3, chk_in (by omega), if_pos rfl, span_Has_eq, Option.bind_some, decide_eq_true ⟨m1, m2⟩]
    · rw [if_neg s] at e ⊢
      obtain ⟨q1, q2, q3⟩ := ends2_ok e
      have m1 : a * x ≤ u * x := Int.mul_le_mul_of_nonneg_right h1 (by omega)
      have m2 : u * x ≤ b * x := Int.mul_le_mul_of_nonneg_right h2 (by omega)
      unfold R64 at q1 q2
      rw [q3, chk_in (by omega), if_pos rfl, span_Has_eq, Option.bind_some, decide_eq_true ⟨m1, m2⟩]
  · rw [if_neg e]
theorem sm_j3 (k : Nat) (ha : R64 a) (hb : R64 b) (hc : R64 c) (hd : R64 d) (hu : R64 u) (hv : R64 v) (hx : R64 x) (h1 : a ≤ u) (h2 : u ≤ b) (h3 : c ≤ v) (h4 : v ≤ d) : spillwaylaw03_SpanMembers.j3 (k + 3) u v x false a b c d = some true := by
  have J := sm_j4 k ha hb hu hx h1 h2
  simp only [spillwaylaw03_SpanMembers.j3]
  rw [if_neg Bool.false_ne_true, span_Sub_eq (k + 1) ha hb hc hd, num_Sub_eq hu hv, Option.bind_some, Option.bind_some]
  by_cases e : (subS a b c d).2.2 = 0
  · rw [if_pos e]
    unfold subS at e ⊢
    rw [if_pos (show a ≤ b ∧ c ≤ d by omega)] at e ⊢
    obtain ⟨q1, q2, q3⟩ := ends2_ok e
    unfold R64 at q1 q2
    rw [q3, chk_in (by omega), if_pos rfl, span_Has_eq, Option.bind_some, decide_eq_true (show a - d ≤ u - v ∧ u - v ≤ b - c by omega)]
    exact J
  · rw [if_neg e]; exact J
theorem sm_j2 (k : Nat) (ha : R64 a) (hb : R64 b) (hc : R64 c) (hd : R64 d) (hu : R64 u) (hv : R64 v) (hx : R64 x) (h1 : a ≤ u) (h2 : u ≤ b) (h3 : c ≤ v) (h4 : v ≤ d) : spillwaylaw03_SpanMembers.j2 (k + 4) u v x false a b c d = some true := by
  have J := sm_j3 k ha hb hc hd hu hv hx h1 h2 h3 h4
  simp only [spillwaylaw03_SpanMembers.j2]
  rw [if_neg Bool.false_ne_true, span_Add_eq (k + 2) ha hb hc hd, num_Add_eq hu hv, Option.bind_some, Option.bind_some]
  by_cases e : (addS a b c d).2.2 = 0
  · rw [if_pos e]
    unfold addS at e ⊢
    rw [if_pos (show a ≤ b ∧ c ≤ d by omega)] at e ⊢
    obtain ⟨q1, q2, q3⟩ := ends2_ok e
    unfold R64 at q1 q2
    rw [q3, chk_in (by omega), if_pos rfl, span_Has_eq, Option.bind_some, decide_eq_true (show a + c ≤ u + v ∧ u + v ≤ b + d by omega)]
    exact J
  · rw [if_neg e]; exact J
theorem sm_j1 (k : Nat) (ha : R64 a) (hb : R64 b) (hc : R64 c) (hd : R64 d) (hu : R64 u) (hv : R64 v) (hx : R64 x) (t : Bool) (ht : t = false → a ≤ u ∧ u ≤ b ∧ c ≤ v ∧ v ≤ d) : spillwaylaw03_SpanMembers.j1 (k + 5) u v x t a b c d = some true := by
  simp only [spillwaylaw03_SpanMembers.j1]
  cases t with
  | true => rw [if_pos rfl]
  | false =>
    obtain ⟨h1, h2, h3, h4⟩ := ht rfl
    have J := sm_j2 k ha hb hc hd hu hv hx h1 h2 h3 h4
    have hH : hulS a b c d = (mn a c, mx b d, 0) := if_pos (by omega)
    rw [if_neg Bool.false_ne_true, span_Hull_eq, Option.bind_some, hH]; dsimp only
    simp only [span_Has_eq, span_Holds_eq, Option.bind_some]
    have e1 : mn a c ≤ a := by unfold mn; omega
    have e2 : mn a c ≤ c := by unfold mn; omega
    have e3 : b ≤ mx b d := by unfold mx; omega
    have e4 : d ≤ mx b d := by unfold mx; omega
    rw [if_pos trivial, decide_eq_true (show mn a c ≤ u ∧ u ≤ mx b d by omega), if_pos rfl, decide_eq_true (show mn a c ≤ v ∧ v ≤ mx b d by omega), if_pos rfl,
      decide_eq_true (show a ≤ b ∧ mn a c ≤ a ∧ b ≤ mx b d by omega), if_pos rfl, decide_eq_true (show c ≤ d ∧ mn a c ≤ c ∧ d ≤ mx b d by omega)]
    exact J
theorem sm_j0 (k : Nat) (ha : R64 a) (hb : R64 b) (hc : R64 c) (hd : R64 d) (hu : R64 u) (hv : R64 v) (hx : R64 x) : spillwaylaw03_SpanMembers.j0 (k + 6) u v x false a b c d = some true := by
  simp only [spillwaylaw03_SpanMembers.j0]
  rw [if_neg Bool.false_ne_true, span_Has_eq, Option.bind_some]
  by_cases h : a ≤ u ∧ u ≤ b
  · rw [decide_eq_true h, if_pos rfl, span_Has_eq, Option.bind_some]
    exact sm_j1 k ha hb hc hd hu hv hx _ (fun e => by
      simp only [Bool.not_eq_false', decide_eq_true_eq] at e; omega)
  · rw [decide_eq_false h, if_neg Bool.false_ne_true]
    exact sm_j1 k ha hb hc hd hu hv hx _ (fun e => by cases e)
theorem SpanMembers : spillwaylaw03_SpanMembers.Pure := by
  intro a b c d u v x ha hb hc hd hu hv hx
  have ha : R64 a := bounds_i64 ha
  have hb : R64 b := bounds_i64 hb
  have hc : R64 c := bounds_i64 hc
  have hd : R64 d := bounds_i64 hd
  have hu : R64 u := bounds_i64 hu
  have hv : R64 v := bounds_i64 hv
  have hx : R64 x := bounds_i64 hx
  have J := sm_j0 0 ha hb hc hd hu hv hx
  refine ⟨6, ?_⟩
  unfold spillwaylaw03_SpanMembers.f
  rw [span_fixed 5, Option.bind_some, if_pos rfl, span_Meet_eq, Option.bind_some]
  by_cases m : a ≤ b ∧ c ≤ d ∧ mx a c ≤ mn b d
  · have hM : metS a b c d = (mx a c, mn b d, true) := if_pos m
    rw [hM]; dsimp only
    simp only [span_Has_eq, Option.bind_some, if_true]
    by_cases h : a ≤ u ∧ u ≤ b
    · rw [decide_eq_true h, if_pos rfl]
      by_cases g : c ≤ u ∧ u ≤ d
      · rw [decide_eq_true g, decide_eq_true (show mx a c ≤ u ∧ u ≤ mn b d by unfold mx mn; omega)]; exact J
      · rw [decide_eq_false g, decide_eq_false (show ¬ (mx a c ≤ u ∧ u ≤ mn b d) by unfold mx mn; omega)]; exact J
    · rw [decide_eq_false h, if_neg Bool.false_ne_true, decide_eq_false (show ¬ (mx a c ≤ u ∧ u ≤ mn b d) by unfold mx mn; omega)]; exact J
  · have hM : metS a b c d = (0, 0, false) := if_neg m
    rw [hM]; dsimp only
    simp only [span_Has_eq, Option.bind_some]
    rw [if_neg Bool.false_ne_true]
    by_cases h : a ≤ u ∧ u ≤ b
    · rw [decide_eq_true h, if_pos rfl]
      have g : ¬ (c ≤ u ∧ u ≤ d) := by unfold mx mn at m; omega
      rw [decide_eq_false g]; exact J
    · rw [decide_eq_false h, if_neg Bool.false_ne_true]; exact J
end Go.Proofs.Ythjfmgdldjbkgaa.Pure
