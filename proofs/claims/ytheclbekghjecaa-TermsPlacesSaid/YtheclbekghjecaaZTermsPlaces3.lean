/- The law TermsPlaces answers true, whatever its arguments: part 4 of 4 of its proof. -/
import Derived.Test.YtheclbekghjecaaRows
import Derived.WalkKit
import Derived.Test.YtheclbekghjecaaZTermsPlaces2
section
open Go Go.AM Go.Proofs
set_option maxRecDepth 10000
set_option linter.unusedVariables false
set_option linter.unusedSimpArgs false
namespace Go.AM
/-- how often a window of k fits, by steps -/
def cntN (n k step : Int) : Nat := if n < k then 0 else ((n - k) / step).toNat + 1
theorem cnt_lt {n k step : Int} {j : Nat} (hs : 1 ≤ step) : ((j : Int) * step + k ≤ n) ↔ j < cntN n k step := by
  unfold cntN
  by_cases h : n < k
  · rw [if_pos h]
    have : 0 ≤ (j : Int) * step := Int.mul_nonneg (by omega) (by omega)
    omega
  · rw [if_neg h]
    have h0 : 0 ≤ (n - k) / step := Int.ediv_nonneg (by omega) (by omega)
    have key : (j : Int) ≤ (n - k) / step ↔ (j : Int) * step ≤ n - k := Int.le_ediv_iff_mul_le (by omega)
    omega
theorem cnt_le {n k step : Int} (hs : 1 ≤ step) (hk : 0 ≤ k) (hn : n ≤ 100000) : cntN n k step ≤ 100001 := by
  unfold cntN
  split
  · omega
  · have : (n - k) / step ≤ n - k := by
      rcases Int.lt_or_le (n - k) 0 with h | h
      · omega
      · exact Int.ediv_le_self step h
    omega
theorem ref06_count (n k step : Int) (hk : 0 ≤ k ∧ k ≤ 32) (hs : 1 ≤ step ∧ step ≤ 32) (hn : 0 ≤ n ∧ n ≤ 100000) : Ok Try.prog 62 [.int .i64 n, .int .i64 k, .int .i64 step] (.int .i64 (cntN n k step : Int)) := by
  have hN := cnt_le (n := n) (k := k) (step := step) hs.1 hk.1 hn.2
  refine fn_ok Tb_ok (fn := Try.f62) Try.func62 rfl rfl (e := [(0, _), (1, _), (2, _)]) rfl (by decide) rfl ?_
  refine zs ?_
  refine zR ?_
  refine zLI ?_
  refine zn ?_
  refine zs ?_
  refine zR ?_
  refine zLI ?_
  refine zn ?_
  refine zs ?_
  refine zs ?_
  refine zR ?_
  refine zLI ?_
  refine zn ?_
  refine W_block ?_
  refine W_for (cntN n k step) (fun j => ⟨[(0, .int .i64 n), (1, .int .i64 k), (2, .int .i64 step), (7, .int .i64 (j : Int)), (8, .int .i64 ((j : Int) * step))], [], [], 0⟩) (le_fit ⟨rfl, rfl, rfl, rfl, congrArg (AV.int .i64) (show (0 : Int) = ((0 : Nat) : Int) * step by simp), trivial⟩ trivial trivial rfl rfl rfl rfl rfl) ?_
  intro j hj
  have b0 : 0 ≤ (j : Int) * step := Int.mul_nonneg (by omega) (by omega)
  have b1 : (j : Int) * step ≤ 100001 * 32 := Int.mul_le_mul (by omega) hs.2 (by omega) (by omega)
  have w1 : IntKind.i64.wrap ((j : Int) * step + k) = (j : Int) * step + k := w64_id (by omega)
  have w2 : IntKind.i64.wrap ((j : Int) * step + step) = ((j + 1 : Nat) : Int) * step := by rw [w64_id (by omega)]; rw [Int.natCast_add, Int.add_mul]; omega
  refine zs ?_
  refine zs ?_
  refine zR ?_
  refine zLI ?_
  refine zLI ?_
  refine zLI ?_
  refine zLI ?_
  refine zLB ?_
  refine zn ?_
  refine W_cond (b := _) rfl (fun h13 => ?_) (fun h13 => ?_)
  · have hlt : j < cntN n k step := by rw [w1] at h13; exact (cnt_lt hs.1).1 (of_decide_eq_true h13)
    refine zk ?_
    refine zs ?_
    refine W_block ?_
    refine zR ?_
    refine zLI ?_
    refine zLI ?_
    refine zLI ?_
    refine zn ?_
    refine zR ?_
    refine zLI ?_
    refine zLI ?_
    refine zLI ?_
    refine zLI ?_
    refine zn ?_
    refine for_end hlt (le_fit ⟨rfl, rfl, rfl, congrArg _ (w_succ hlt (by omega)), congrArg (AV.int .i64) w2, trivial⟩ trivial trivial rfl rfl rfl rfl rfl)
  · have hje : j = cntN n k step := by rw [w1] at h13; have := mt (cnt_lt hs.1).2 (of_decide_eq_false h13); omega
    refine W_exit ?_
    repeat (first | refine pass_then ?_ | refine pass_for ?_)
    refine blockQ_hit ?_
    refine zs ?_
    refine zR ?_
    refine zLI ?_
    refine zLI ?_
    refine zn ?_
    refine zt ?_
    refine ends (l := [.int _ _]) (q := .int _ _) (.inr rfl) rfl ⟨trivial, trivial⟩ rfl rfl ?_
    rw [hje]
theorem cnt_out {n k step : Int} (hs : 1 ≤ step) (hk : 0 ≤ k) (hn : n ≤ 100000) : (cntN n k step : Int) = if n - k < 0 then 0 else w64 (w64 ((n - k).tdiv step) + 1) := by
  unfold cntN
  by_cases h : n < k
  · rw [if_pos h, if_pos (by omega)]; rfl
  · rw [if_neg h, if_neg (by omega), Int.tdiv_eq_ediv_of_nonneg (by omega)]
    have h0 : 0 ≤ (n - k) / step := Int.ediv_nonneg (by omega) (by omega)
    have h1 : (n - k) / step ≤ n - k := Int.ediv_le_self step (by omega)
    rw [show w64 ((n - k) / step) = (n - k) / step from w64_id (by omega), show w64 _ = _ from w64_id (by omega)]
    omega
theorem ref06_Out (s : Shape) (w : Window) : Ok Try.prog 48 [.agg (shapeC s), .agg (windowC w)] (.tup [.int .i64 (outH s w), .int .i64 (outW s w), .int .i64 (outE s w)]) := by
  cases hs : shapeB s with
  | false =>
    have hc11 : (!shapeB s) = true := by simp [hs]
    --@@1
    skip
    refine fn_ok Tb_ok (fn := Try.f48) Try.func48 rfl rfl (e := [(0, _), (1, _)]) rfl (by decide) rfl ?_
    refine zs ?_
    refine zR ?_
    refine zbx [.int _ _, .int _ _, .int _ _] 3 ?_
    refine zbx [.int _ _, .int _ _, .int _ _, .int _ _, .int _ _, .int _ _, .int _ _, .int _ _] 8 ?_
    refine zLI ?_
    refine zLI ?_
    refine zLI ?_
    refine zn ?_
    refine zs ?_
    refine zs ?_
    refine zR ?_
    refine zLG [.int _ _, .int _ _, .int _ _] ?_
    refine zLc (ref05_Valid s) ?_
    refine zLB ?_
    refine zn ?_
    refine W_cond_t (b := _) rfl (by exact hc11) ?_
    refine zs ?_
    refine zR ?_
    refine zLI ?_
    refine zLI ?_
    refine zLI ?_
    refine zn ?_
    refine zt ?_
    refine ends (l := [.int _ _, .int _ _, .int _ _]) (q := .tup [.int _ _, .int _ _, .int _ _]) (.inr rfl) rfl ⟨trivial, trivial, trivial, trivial⟩ rfl rfl ?_
    simp [outH, outW, outE, hs]
  | true =>
    have hc11 : (!shapeB s) = false := by simp [hs]
    cases hw : windowB w with
    | false =>
      have hc14 : (!windowB w) = true := by simp [hw]
      --@@2
      skip
      refine fn_ok Tb_ok (fn := Try.f48) Try.func48 rfl rfl (e := [(0, _), (1, _)]) rfl (by decide) rfl ?_
      refine zs ?_
      refine zR ?_
      refine zbx [.int _ _, .int _ _, .int _ _] 3 ?_
      refine zbx [.int _ _, .int _ _, .int _ _, .int _ _, .int _ _, .int _ _, .int _ _, .int _ _] 8 ?_
      refine zLI ?_
      refine zLI ?_
      refine zLI ?_
      refine zn ?_
      refine zs ?_
      refine zs ?_
      refine zR ?_
      refine zLG [.int _ _, .int _ _, .int _ _] ?_
      refine zLc (ref05_Valid s) ?_
      refine zLB ?_
      refine zn ?_
      refine W_cond_f (b := _) rfl (by exact hc11) ?_
      refine zk ?_
      refine zs ?_
      refine zs ?_
      refine zR ?_
      refine zLG [.int _ _, .int _ _, .int _ _, .int _ _, .int _ _, .int _ _, .int _ _, .int _ _] ?_
      refine zLc (ref06_Valid w) ?_
      refine zLB ?_
      refine zn ?_
      refine W_cond_t (b := _) rfl (by exact hc14) ?_
      refine zs ?_
      refine zR ?_
      refine zLI ?_
      refine zLI ?_
      refine zLI ?_
      refine zn ?_
      refine zt ?_
      refine ends (l := [.int _ _, .int _ _, .int _ _]) (q := .tup [.int _ _, .int _ _, .int _ _]) (.inr rfl) rfl ⟨trivial, trivial, trivial, trivial⟩ rfl rfl ?_
      simp [outH, outW, outE, hs, hw]
    | true =>
      have hc14 : (!windowB w) = false := by simp [hw]
      have B := shapeB_iff.1 hs
      have W := windowB_iff hw
      have e1 : w64 (w64 (s.H + w.Top) + w.Bottom) = s.H + w.Top + w.Bottom := by rw [show w64 (s.H + w.Top) = _ from w64_id (by omega)]; exact w64_id (by omega)
      have e2 : w64 (w64 (s.W + w.Left) + w.Right) = s.W + w.Left + w.Right := by rw [show w64 (s.W + w.Left) = _ from w64_id (by omega)]; exact w64_id (by omega)
      have f1 : spanH s w = s.H + w.Top + w.Bottom - w.KH := by unfold spanH; rw [e1]; exact w64_id (by omega)
      have f2 : spanW s w = s.W + w.Left + w.Right - w.KW := by unfold spanW; rw [e2]; exact w64_id (by omega)
      have c1 := ref06_count (w64 (w64 (s.H + w.Top) + w.Bottom)) w.KH w.SH (by omega) (by omega) (by omega)
      have c2 := ref06_count (w64 (w64 (s.W + w.Left) + w.Right)) w.KW w.SW (by omega) (by omega) (by omega)
      have g1 := cnt_out (n := w64 (w64 (s.H + w.Top) + w.Bottom)) (k := w.KH) (step := w.SH) (by omega) (by omega) (by omega)
      have g2 := cnt_out (n := w64 (w64 (s.W + w.Left) + w.Right)) (k := w.KW) (step := w.SW) (by omega) (by omega) (by omega)
      have p1 : (cntN (w64 (w64 (s.H + w.Top) + w.Bottom)) w.KH w.SH : Int) = 0 ↔ spanH s w < 0 := by
        rw [f1, e1]; unfold cntN; split <;> omega
      have p2 : (cntN (w64 (w64 (s.W + w.Left) + w.Right)) w.KW w.SW : Int) = 0 ↔ spanW s w < 0 := by
        rw [f2, e2]; unfold cntN; split <;> omega
      have q1 : w64 (w64 (s.H + w.Top) + w.Bottom) - w.KH = spanH s w := by rw [e1, f1]
      have q2 : w64 (w64 (s.W + w.Left) + w.Right) - w.KW = spanW s w := by rw [e2, f2]
      rw [q1] at g1
      rw [q2] at g2
      generalize (cntN (w64 (w64 (s.H + w.Top) + w.Bottom)) w.KH w.SH : Int) = C1 at *
      generalize (cntN (w64 (w64 (s.W + w.Left) + w.Right)) w.KW w.SW : Int) = C2 at *
      --@@3
      skip
      refine fn_ok Tb_ok (fn := Try.f48) Try.func48 rfl rfl (e := [(0, _), (1, _)]) rfl (by decide) rfl ?_
      refine zs ?_
      refine zR ?_
      refine zbx [.int _ _, .int _ _, .int _ _] 3 ?_
      refine zbx [.int _ _, .int _ _, .int _ _, .int _ _, .int _ _, .int _ _, .int _ _, .int _ _] 8 ?_
      refine zLI ?_
      refine zLI ?_
      refine zLI ?_
      refine zn ?_
      refine zs ?_
      refine zs ?_
      refine zR ?_
      refine zLG [.int _ _, .int _ _, .int _ _] ?_
      refine zLc (ref05_Valid s) ?_
      refine zLB ?_
      refine zn ?_
      refine W_cond_f (b := _) rfl (by exact hc11) ?_
      refine zk ?_
      refine zs ?_
      refine zs ?_
      refine zR ?_
      refine zLG [.int _ _, .int _ _, .int _ _, .int _ _, .int _ _, .int _ _, .int _ _, .int _ _] ?_
      refine zLc (ref06_Valid w) ?_
      refine zLB ?_
      refine zn ?_
      refine W_cond_f (b := _) rfl (by exact hc14) ?_
      refine zk ?_
      refine zs ?_
      refine zR ?_
      refine zLP ?_
      refine zLI ?_
      refine zLP ?_
      refine zLI ?_
      refine zLI ?_
      refine zLP ?_
      refine zLI ?_
      refine zLI ?_
      refine zLP ?_
      refine zLI ?_
      refine zLP ?_
      refine zLI ?_
      refine zLc (c1) ?_
      refine zLI ?_
      refine zn ?_
      refine zs ?_
      refine zR ?_
      refine zLP ?_
      refine zLI ?_
      refine zLP ?_
      refine zLI ?_
      refine zLI ?_
      refine zLP ?_
      refine zLI ?_
      refine zLI ?_
      refine zLP ?_
      refine zLI ?_
      refine zLP ?_
      refine zLI ?_
      refine zLc (c2) ?_
      refine zLI ?_
      refine zn ?_
      refine zs ?_
      refine zs ?_
      refine zR ?_
      refine zLI ?_
      refine zLB ?_
      refine zLB ?_
      refine zgLI ?_
      refine zgLB ?_
      refine zpLB ?_
      refine zn ?_
      refine W_cond (b := _) rfl (fun h46 => ?_) (fun h46 => ?_)
      · refine zs ?_
        refine zR ?_
        refine zLI ?_
        refine zLI ?_
        refine zLI ?_
        refine zn ?_
        refine zt ?_
        refine ends (l := [.int _ _, .int _ _, .int _ _]) (q := .tup [.int _ _, .int _ _, .int _ _]) (.inr rfl) rfl ⟨trivial, trivial, trivial, trivial⟩ rfl rfl ?_
        have : spanH s w < 0 ∨ spanW s w < 0 := by
          cases hq : C1 == 0 with
          | true => exact .inl (p1.1 (by simpa using hq))
          | false => rw [hq] at h46; exact .inr (p2.1 (by simpa using h46))
        simp [outH, outW, outE, hs, hw, this]
      · refine zk ?_
        refine zs ?_
        refine zR ?_
        refine zLI ?_
        refine zLI ?_
        refine zLI ?_
        refine zLI ?_
        refine zLI ?_
        refine zn ?_
        refine zt ?_
        refine ends (l := [.int _ _, .int _ _, .int _ _]) (q := .tup [.int _ _, .int _ _, .int _ _]) (.inr rfl) rfl ⟨trivial, trivial, trivial, trivial⟩ rfl rfl ?_
        have : ¬ (spanH s w < 0 ∨ spanW s w < 0) := by
          cases hq : C1 == 0 with
          | true => rw [hq] at h46; simp at h46
          | false =>
            rw [hq] at h46
            have n1 : C1 ≠ 0 := by simpa using hq
            have n2 : C2 ≠ 0 := by simpa using h46
            rintro (h | h)
            · exact n1 (p1.2 h)
            · exact n2 (p2.2 h)
        have t1 : ¬ spanH s w < 0 := fun h => this (.inl h)
        have t2 : ¬ spanW s w < 0 := fun h => this (.inr h)
        rw [if_neg t1] at g1
        rw [if_neg t2] at g2
        simp [outH, outW, outE, hs, hw, t1, t2, g1, g2]
end Go.AM
end
section
open Go Go.AM Go.Proofs
set_option maxRecDepth 10000
set_option linter.unusedVariables false
set_option linter.unusedSimpArgs false
namespace Go.AM
def sp1 (o : MOp) : Bool := bif o.Kind != 6 then bif o.B != 0 then true else !(o.SB.Mult == 0 && (o.SB.Shift == 0 && true)) else false
def sp2 (o : MOp) : Bool := bif bif bif decide (o.Kind > 2) then o.M != 0 else false then true else bif !inB o.Kind 1 3 then decide (w64 (((o.Weights.map i16C).length : Int) + ((o.Bias.map i32C).length : Int)) > 0) else false then true
  else bif !scalesB o.Kind then bif !(o.SA.Mult == 0 && (o.SA.Shift == 0 && true)) then true else o.Zero != 0 else false
def sp3 (o : MOp) : Bool := bif bif !inB o.Kind 2 5 then !(o.Win.KH == 0 && (o.Win.KW == 0 && (o.Win.SH == 0 && (o.Win.SW == 0 && (o.Win.Top == 0 && (o.Win.Left == 0 && (o.Win.Bottom == 0 && (o.Win.Right == 0 && true)))))))) else false then true else bif bif o.Kind != 2 then o.Kind != 3 else false then o.Pad != 0 else false
def sp4 (o : MOp) : Bool := bif bif o.Kind != 4 then o.Kind != 5 else false then true else bif bif bif o.Win.Top == 0 then o.Win.Left == 0 else false then o.Win.Bottom == 0 else false then o.Win.Right == 0 else false
theorem cond_t {a b : Bool} : (bif a then true else b) = (a || b) := by cases a <;> rfl
theorem cond_x {a b : Bool} : (bif a then b else false) = (a && b) := by cases a <;> rfl
theorem spare_eq {o : MOp} (hk : inB o.Kind 1 8 = true) (hl : (o.Weights.length : Int) + o.Bias.length ≤ 4611686018427387904) : (!sp1 o && (!sp2 o && (!sp3 o && sp4 o))) = !op3 o := by
  have hw : w64 (((o.Weights.map i16C).length : Int) + ((o.Bias.map i32C).length : Int)) = (o.Weights.length : Int) + o.Bias.length := by
    rw [List.length_map, List.length_map]; exact w64_id (by omega)
  have hk' : o.Kind = 1 ∨ o.Kind = 2 ∨ o.Kind = 3 ∨ o.Kind = 4 ∨ o.Kind = 5 ∨ o.Kind = 6 ∨ o.Kind = 7 ∨ o.Kind = 8 := by simp [inB] at hk; omega
  unfold sp1 sp2 sp3 sp4 op3
  rw [hw, Bool.eq_iff_iff]
  obtain ⟨K, A, B, M, ⟨KH, KW, SH, SW, T, L, Bo, R⟩, Ws, Bs, ⟨a1, a2⟩, ⟨b1, b2⟩, Z, P, Lo, Hi⟩ := o
  clear hw hk
  dsimp only at hk' hl ⊢
  rcases hk' with rfl | rfl | rfl | rfl | rfl | rfl | rfl | rfl <;>
    simp only [ofU, bareF, bare8, bare7, bare6, bare5, bare4, bare3, bare2, bare1, emptyB, winEq, scalesB, inB, cond_true, cond_false, cond_t, cond_x, Bool.not_not, Bool.and_eq_true, Bool.or_eq_true, Bool.not_eq_true', Bool.or_eq_false_iff, Bool.and_eq_false_iff, beq_iff_eq, bne_iff_ne, bne_eq_false_iff_eq, decide_eq_true_eq, decide_eq_false_iff_not, beq_eq_false_iff_ne, List.length_nil, if_true, if_false, reduceIte, Int.reduceEq, Int.reduceLE, Int.reduceLT, Int.reduceGT, Int.reduceNe, Int.reduceBEq, Int.reduceBNe, Bool.and_true, Bool.true_and, Bool.and_false, Bool.false_and, Bool.or_true, Bool.true_or, Bool.or_false, Bool.false_or, Bool.not_true, Bool.not_false, decide_true, decide_false, Bool.false_eq_true, Bool.true_eq_false, Int.natCast_zero, Int.natCast_eq_zero, true_and, and_true, false_and, and_false, not_true_eq_false, not_false_eq_true, true_or, or_true, false_or, or_false, ne_eq, reduceCtorEq, Bool.not_eq_false'] <;> omega
theorem ref08_spare (o : MOp) (hk : inB o.Kind 1 8 = true) (hl : (o.Weights.length : Int) + o.Bias.length ≤ 4611686018427387904) : Ok Try.prog 64 [.agg (opC o)] (.bool (!op3 o)) := by
  rw [← spare_eq hk hl]
  refine fn_ok Tb_ok (fn := Try.f64) Try.func64 rfl rfl (e := [(0, _)]) rfl (by decide) rfl ?_
  refine zs ?_
  refine zR ?_
  refine zbx [.int _ _, .int _ _, .int _ _, .int _ _, .int _ _, .int _ _, .int _ _, .int _ _, .int _ _, .int _ _, .int _ _, .int _ _, _, _, .int _ _, .int _ _, .int _ _, .int _ _, .int _ _, .int _ _, .int _ _, .int _ _] 22 ?_
  refine zLB ?_
  refine zn ?_
  refine zs ?_
  refine zR ?_
  refine zLP ?_
  refine zLG [.int _ _, .int _ _, .int _ _, .int _ _, .int _ _, .int _ _, .int _ _, .int _ _] ?_
  refine zal [.int .i64 0, .int .i64 0, .int .i64 0, .int .i64 0, .int .i64 0, .int .i64 0, .int .i64 0, .int .i64 0] 8 ?_
  refine zst (.agg [.int _ _, .int _ _, .int _ _, .int _ _, .int _ _, .int _ _, .int _ _, .int _ _]) [_, _, _, _, _, _, _, _] [[_, _, _, _, _, _, _, _]] ?_
  refine zn ?_
  refine zs ?_
  refine zs ?_
  refine zR ?_
  refine zLP ?_
  refine zLI ?_
  refine zLB ?_
  refine zLB ?_
  refine zgLP ?_
  refine zgLI ?_
  refine zgLB ?_
  refine zgLB ?_
  refine zgLP ?_
  refine zgLG [.int _ _, .int _ _] ?_
  refine zgLG [.int _ _, .int _ _] ?_
  refine zgLB ?_
  refine zqLB ?_
  refine zpLB ?_
  refine zn ?_
  refine W_cond (b := _) rfl (fun h19 => ?_) (fun h19 => ?_)
  · replace h19 : sp1 o = true := h19
    refine zs ?_
    refine zR ?_
    refine zLB ?_
    refine zn ?_
    refine zt ?_
    refine ends (l := [.bool _]) (q := .bool _) (.inr rfl) rfl ⟨trivial, trivial⟩ rfl rfl ?_
    simp [*]
  · replace h19 : sp1 o = false := h19
    refine zk ?_
    refine zs ?_
    refine zs ?_
    refine zR ?_
    refine zLP ?_
    refine zLI ?_
    refine zLB ?_
    refine zLB ?_
    refine zgLP ?_
    refine zgLI ?_
    refine zgLB ?_
    refine zpLB ?_
    refine zLB ?_
    refine zgLP ?_
    refine zgLI ?_
    refine L_callg (hr := fun hg => ref08_Weighs _) rfl rfl rfl rfl rfl (fun hg => ⟨⟨(by exact hg), True.intro⟩, True.intro⟩) rfl rfl ?_
    refine zgLB ?_
    refine zgLB ?_
    refine zgLP ?_
    refine zgLO ?_
    refine zgLI ?_
    refine zgLP ?_
    refine zgLO ?_
    refine zgLI ?_
    refine zgLI ?_
    refine zgLB ?_
    refine zqLB ?_
    refine zpLB ?_
    refine zLB ?_
    refine zgLP ?_
    refine zgLI ?_
    refine L_callg (hr := fun hg => ref08_Scales _) rfl rfl rfl rfl rfl (fun hg => ⟨⟨(by exact hg), True.intro⟩, True.intro⟩) rfl rfl ?_
    refine zgLB ?_
    refine zgLB ?_
    refine zgLP ?_
    refine zgLG [.int _ _, .int _ _] ?_
    refine zgLG [.int _ _, .int _ _] ?_
    refine zgLB ?_
    refine zgLB ?_
    refine zgLP ?_
    refine zgLI ?_
    refine zgLB ?_
    refine zqLB ?_
    refine zqLB ?_
    refine zpLB ?_
    refine zn ?_
    refine W_cond (b := _) rfl (fun h60 => ?_) (fun h60 => ?_)
    · replace h60 : sp2 o = true := h60
      refine zs ?_
      refine zR ?_
      refine zLB ?_
      refine zn ?_
      refine zt ?_
      refine ends (l := [.bool _]) (q := .bool _) (.inr rfl) rfl ⟨trivial, trivial⟩ rfl rfl ?_
      simp [*]
    · replace h60 : sp2 o = false := h60
      refine zk ?_
      refine zs ?_
      refine zs ?_
      refine zR ?_
      refine zLP ?_
      refine zLI ?_
      refine zLc (ref08_Slides _) ?_
      refine zLB ?_
      refine zLB ?_
      refine zgLG [.int _ _, .int _ _, .int _ _, .int _ _, .int _ _, .int _ _, .int _ _, .int _ _] ?_
      refine zgLG [.int _ _, .int _ _, .int _ _, .int _ _, .int _ _, .int _ _, .int _ _, .int _ _] ?_
      refine zgLB ?_
      refine zpLB ?_
      refine zLB ?_
      refine zgLP ?_
      refine zgLI ?_
      refine zgLB ?_
      refine zgLB ?_
      refine zgLP ?_
      refine zgLI ?_
      refine zgLB ?_
      refine zqLB ?_
      refine zgLB ?_
      refine zgLP ?_
      refine zgLI ?_
      refine zgLB ?_
      refine zqLB ?_
      refine zpLB ?_
      refine zn ?_
      refine W_cond (b := _) rfl (fun h84 => ?_) (fun h84 => ?_)
      · replace h84 : sp3 o = true := h84
        refine zs ?_
        refine zR ?_
        refine zLB ?_
        refine zn ?_
        refine zt ?_
        refine ends (l := [.bool _]) (q := .bool _) (.inr rfl) rfl ⟨trivial, trivial⟩ rfl rfl ?_
        simp [*]
      · replace h84 : sp3 o = false := h84
        refine zk ?_
        refine zs ?_
        refine zR ?_
        refine zLP ?_
        refine zLI ?_
        refine zLB ?_
        refine zLB ?_
        refine zgLP ?_
        refine zgLI ?_
        refine zgLB ?_
        refine zpLB ?_
        refine zLB ?_
        refine zgLP ?_
        refine zgLI ?_
        refine zgLB ?_
        refine zgLB ?_
        refine zgLP ?_
        refine zgLI ?_
        refine zgLB ?_
        refine zqLB ?_
        refine zgLB ?_
        refine zgLP ?_
        refine zgLI ?_
        refine zgLB ?_
        refine zqLB ?_
        refine zgLB ?_
        refine zgLP ?_
        refine zgLI ?_
        refine zgLB ?_
        refine zqLB ?_
        refine zpLB ?_
        refine zLB ?_
        refine zn ?_
        refine zt ?_
        refine ends (l := [.bool _]) (q := .bool _) (.inr rfl) rfl ⟨trivial, trivial⟩ rfl rfl ?_
        simp only [*, Bool.not_false, Bool.true_and]; rfl
end Go.AM
end
section
open Go Go.AM Go.Proofs
set_option maxRecDepth 10000
set_option linter.unusedVariables false
set_option linter.unusedSimpArgs false
namespace Go.AM
theorem kinds8 {k : Int} (h : inB k 1 8 = true) : k = 1 ∨ k = 2 ∨ k = 3 ∨ k = 4 ∨ k = 5 ∨ k = 6 ∨ k = 7 ∨ k = 8 := by simp [inB] at h; omega
theorem mk_slide {o : MOp} {a : Shape} (h1 : (o.Kind == 1) = false) (h2 : inB o.Kind 2 5 = true) : mkE o a = outE a o.Win ∧ mkS o a = if outE a o.Win = 0 then ⟨outH a o.Win, outW a o.Win, if o.Kind = 2 then o.M else a.C⟩ else ⟨0, 0, 0⟩ := by
  have hk : o.Kind = 2 ∨ o.Kind = 3 ∨ o.Kind = 4 ∨ o.Kind = 5 := by simp [inB] at h2; omega
  have hw : (ofU o.Kind).win = true := by rcases hk with h | h | h | h <;> rw [h] <;> rfl
  have e : mkE o a = outE a o.Win := by unfold mkE; rw [hw]; rfl
  refine ⟨e, ?_⟩
  unfold mkS mkX
  rw [e, hw]
  have n1 : o.Kind ≠ 1 := by simpa using h1
  simp only [if_neg n1, cond_true]
  by_cases k2 : o.Kind = 2 <;> simp [k2]
theorem mk_plain {o : MOp} {a : Shape} (h0 : inB o.Kind 1 8 = true) (h2 : inB o.Kind 2 5 = false) : mkE o a = 0 ∧ mkS o a = if o.Kind = 1 then ⟨1, 1, o.M⟩ else a := by
  have hk : o.Kind = 1 ∨ o.Kind = 6 ∨ o.Kind = 7 ∨ o.Kind = 8 := by
    have := kinds8 h0; simp [inB] at h2; omega
  have hw : (ofU o.Kind).win = false := by rcases hk with h | h | h | h <;> rw [h] <;> rfl
  have e : mkE o a = 0 := by unfold mkE; rw [hw]; rfl
  refine ⟨e, ?_⟩
  unfold mkS mkX
  rw [e, hw, if_pos rfl]
  have n2 : o.Kind ≠ 2 := by omega
  simp only [if_neg n2, cond_false]
theorem ref08_Makes (o : MOp) (a : Shape) (h0 : inB o.Kind 1 8 = true) : Ok Try.prog 65 [.agg (opC o), .agg (shapeC a)] (.tup [.agg (shapeC (mkS o a)), .int .i64 (mkE o a)]) := by
  cases hc19 : inB o.Kind 2 5 with
  | true =>
    have hc13 : (o.Kind == 1) = false := by simp [inB] at hc19; simp; omega
    obtain ⟨e1, e2⟩ := mk_slide (a := a) hc13 hc19
    rw [e1, e2]
    --@@1
    skip
    refine fn_ok Tb_ok (fn := Try.f65) Try.func65 rfl rfl (e := [(0, _), (1, _)]) rfl (by decide) rfl ?_
    refine zs ?_
    refine zR ?_
    refine zbx [.int _ _, .int _ _, .int _ _, .int _ _, .int _ _, .int _ _, .int _ _, .int _ _, .int _ _, .int _ _, .int _ _, .int _ _, _, _, .int _ _, .int _ _, .int _ _, .int _ _, .int _ _, .int _ _, .int _ _, .int _ _] 22 ?_
    refine zbx [.int _ _, .int _ _, .int _ _] 3 ?_
    refine zal [.int .i64 0, .int .i64 0, .int .i64 0] 3 ?_
    refine zLI ?_
    refine zn ?_
    refine zs ?_
    refine zR ?_
    refine zLG [.int _ _, .int _ _, .int _ _] ?_
    refine zal [.int .i64 0, .int .i64 0, .int .i64 0] 3 ?_
    refine zst (.agg [.int _ _, .int _ _, .int _ _]) [_, _, _] [[_, _, _]] ?_
    refine zn ?_
    refine zs ?_
    refine zs ?_
    refine zR ?_
    refine zLP ?_
    refine zLI ?_
    refine zLB ?_
    refine zn ?_
    refine W_cond_f (b := _) rfl (by exact hc13) ?_
    refine zk ?_
    refine zs ?_
    refine zs ?_
    refine zR ?_
    refine zLP ?_
    refine zLI ?_
    refine zLc (ref08_Slides _) ?_
    refine zn ?_
    refine W_cond_t (b := _) rfl (by exact hc19) ?_
    refine zs ?_
    refine zR ?_
    refine zLG [.int _ _, .int _ _, .int _ _] ?_
    refine zLP ?_
    refine zLG [.int _ _, .int _ _, .int _ _, .int _ _, .int _ _, .int _ _, .int _ _, .int _ _] ?_
    refine zLc (ref06_Out a o.Win) ?_
    refine zLT [_, _, _] ?_
    refine zLI ?_
    refine zLI ?_
    refine zLI ?_
    refine zLI ?_
    refine zLI ?_
    refine zLI ?_
    refine zn ?_
    refine zs ?_
    refine zs ?_
    refine zR ?_
    refine zLI ?_
    refine zLB ?_
    refine zn ?_
    refine W_cond (b := _) rfl (fun h29 => ?_) (fun h29 => ?_)
    · refine zs ?_
      refine zR ?_
      refine zLG [.int _ _, .int _ _, .int _ _] ?_
      refine zLI ?_
      refine zst (.agg [.int _ _, .int _ _, .int _ _]) [_, _, _] [[_, _, _]] ?_
      refine zLI ?_
      refine zn ?_
      refine zt ?_
      refine ends (l := [.agg [.int _ _, .int _ _, .int _ _], .int _ _]) (q := .tup [.agg [.int _ _, .int _ _, .int _ _], .int _ _]) (.inr rfl) rfl ⟨rfl, trivial, trivial⟩ rfl rfl ?_
      have : outE a o.Win ≠ 0 := by simpa using h29
      simp [this, shapeC]
    · refine zk ?_
      refine zs ?_
      refine zR ?_
      refine zLI ?_
      refine zLP ?_
      refine zst (.int _ _) [_] [[_, _, _]] ?_
      refine zn ?_
      refine zs ?_
      refine zR ?_
      refine zLI ?_
      refine zLP ?_
      refine zst (.int _ _) [_] [[_, _, _]] ?_
      refine zn ?_
      refine zs ?_
      refine zR ?_
      refine zLP ?_
      refine zLI ?_
      refine zLB ?_
      refine zn ?_
      refine W_cond (b := _) rfl (fun h38 => ?_) (fun h38 => ?_)
      · refine zR ?_
        refine zLP ?_
        refine zLI ?_
        refine zLP ?_
        refine zst (.int _ _) [_] [[_, _, _]] ?_
        refine zn ?_
        refine zs ?_
        refine zR ?_
        refine zLG [.int _ _, .int _ _, .int _ _] ?_
        refine zst (.agg [.int _ _, .int _ _, .int _ _]) [_, _, _] [[_, _, _]] ?_
        refine zLI ?_
        refine zn ?_
        refine zt ?_
        refine ends (l := [.agg [.int _ _, .int _ _, .int _ _], .int _ _]) (q := .tup [.agg [.int _ _, .int _ _, .int _ _], .int _ _]) (.inr rfl) rfl ⟨rfl, trivial, trivial⟩ rfl rfl ?_
        have z : outE a o.Win = 0 := by simpa using h29
        have k2 : o.Kind = 2 := by simpa using h38
        simp [z, k2, shapeC]
      · refine zk ?_
        refine zs ?_
        refine zR ?_
        refine zLG [.int _ _, .int _ _, .int _ _] ?_
        refine zst (.agg [.int _ _, .int _ _, .int _ _]) [_, _, _] [[_, _, _]] ?_
        refine zLI ?_
        refine zn ?_
        refine zt ?_
        refine ends (l := [.agg [.int _ _, .int _ _, .int _ _], .int _ _]) (q := .tup [.agg [.int _ _, .int _ _, .int _ _], .int _ _]) (.inr rfl) rfl ⟨rfl, trivial, trivial⟩ rfl rfl ?_
        have z : outE a o.Win = 0 := by simpa using h29
        have k2 : o.Kind ≠ 2 := by simpa using h38
        simp [z, k2, shapeC]
  | false =>
    obtain ⟨e1, e2⟩ := mk_plain (a := a) h0 hc19
    rw [e1, e2]
    --@@2
    skip
    refine fn_ok Tb_ok (fn := Try.f65) Try.func65 rfl rfl (e := [(0, _), (1, _)]) rfl (by decide) rfl ?_
    refine zs ?_
    refine zR ?_
    refine zbx [.int _ _, .int _ _, .int _ _, .int _ _, .int _ _, .int _ _, .int _ _, .int _ _, .int _ _, .int _ _, .int _ _, .int _ _, _, _, .int _ _, .int _ _, .int _ _, .int _ _, .int _ _, .int _ _, .int _ _, .int _ _] 22 ?_
    refine zbx [.int _ _, .int _ _, .int _ _] 3 ?_
    refine zal [.int .i64 0, .int .i64 0, .int .i64 0] 3 ?_
    refine zLI ?_
    refine zn ?_
    refine zs ?_
    refine zR ?_
    refine zLG [.int _ _, .int _ _, .int _ _] ?_
    refine zal [.int .i64 0, .int .i64 0, .int .i64 0] 3 ?_
    refine zst (.agg [.int _ _, .int _ _, .int _ _]) [_, _, _] [[_, _, _]] ?_
    refine zn ?_
    refine zs ?_
    refine zs ?_
    refine zR ?_
    refine zLP ?_
    refine zLI ?_
    refine zLB ?_
    refine zn ?_
    refine W_cond (b := _) rfl (fun h13 => ?_) (fun h13 => ?_)
    · refine zR ?_
      refine zLP ?_
      refine zLI ?_
      refine zLG [.int _ _, .int _ _, .int _ _] ?_
      refine zst (.agg [.int _ _, .int _ _, .int _ _]) [_, _, _] [[_, _, _]] ?_
      refine zn ?_
      refine zs ?_
      refine zs ?_
      refine zR ?_
      refine zLP ?_
      refine zLI ?_
      refine zLc (ref08_Slides _) ?_
      refine zn ?_
      refine W_cond_f (b := _) rfl (by exact hc19) ?_
      refine zk ?_
      refine zs ?_
      refine zR ?_
      refine zLG [.int _ _, .int _ _, .int _ _] ?_
      refine zst (.agg [.int _ _, .int _ _, .int _ _]) [_, _, _] [[_, _, _]] ?_
      refine zLI ?_
      refine zn ?_
      refine zt ?_
      refine ends (l := [.agg [.int _ _, .int _ _, .int _ _], .int _ _]) (q := .tup [.agg [.int _ _, .int _ _, .int _ _], .int _ _]) (.inr rfl) rfl ⟨rfl, trivial, trivial⟩ rfl rfl ?_
      have k1 : o.Kind = 1 := by simpa using h13
      simp [k1, shapeC]
    · refine zk ?_
      refine zs ?_
      refine zs ?_
      refine zR ?_
      refine zLP ?_
      refine zLI ?_
      refine zLc (ref08_Slides _) ?_
      refine zn ?_
      refine W_cond_f (b := _) rfl (by exact hc19) ?_
      refine zk ?_
      refine zs ?_
      refine zR ?_
      refine zLG [.int _ _, .int _ _, .int _ _] ?_
      refine zst (.agg [.int _ _, .int _ _, .int _ _]) [_, _, _] [[_, _, _]] ?_
      refine zLI ?_
      refine zn ?_
      refine zt ?_
      refine ends (l := [.agg [.int _ _, .int _ _, .int _ _], .int _ _]) (q := .tup [.agg [.int _ _, .int _ _, .int _ _], .int _ _]) (.inr rfl) rfl ⟨rfl, trivial, trivial⟩ rfl rfl ?_
      have k1 : o.Kind ≠ 1 := by simpa using h13
      simp [k1, shapeC]
def r2 (o : MOp) (l : List Shape) : Bool := bif bif decide (o.A < 0) then true else decide (o.A ≥ (l.length : Int)) then true else bif o.Kind == 6 then bif decide (o.B < 0) then true else decide (o.B ≥ (l.length : Int)) else false
def r4 (o : MOp) : Bool := bif decide (o.Kind ≤ 2) then bif decide (o.M < 1) then true else decide (o.M > 1024) else false
def r6 (o : MOp) (l : List Shape) : Bool := bif bif o.Kind == 6 then !shapeQ (inS o l) (inA o l) else false then true else !shapeB (mkS o (inA o l))
def r7 (o : MOp) (a : Shape) : Bool := bif inB o.Kind 1 4 then decide (lenF o a > 512) else false
def r8 (o : MOp) (a : Shape) : Bool := bif ((o.Weights.map i16C).length : Int) != listW o a then true else ((o.Bias.map i32C).length : Int) != listB o a
def r9 (o : MOp) : Bool := bif bif scalesB o.Kind then !(inB o.SA.Mult 1 2147483647 && inB o.SA.Shift 0 62) else false then true else bif o.Kind == 6 then !(inB o.SB.Mult 1 2147483647 && inB o.SB.Shift 0 62) else false
def r10 (o : MOp) : Bool := bif bif bif bif !inB o.Lo (-128) 127 then true else !inB o.Hi (-128) 127 then true else decide (o.Lo > o.Hi) then true else !inB o.Zero (-128) 127 then true else !inB o.Pad (-128) 127
theorem ofU_b {k : Int} (h : inB k 1 8 = true) : (ofU k).b = (k == 6) ∧ (ofU k).m = decide (k ≤ 2) ∧ (ofU k).sa = scalesB k ∧ (ofU k).sb = (k == 6) ∧ (ofU k).weights = inB k 1 3 := by
  rcases kinds8 h with rfl | rfl | rfl | rfl | rfl | rfl | rfl | rfl <;> exact ⟨rfl, rfl, rfl, rfl, rfl⟩
theorem r2_eq {o : MOp} {l : List Shape} (h : inB o.Kind 1 8 = true) : op2 o l = r2 o l := by unfold op2 r2; rw [(ofU_b h).1, List.length_map]
theorem r4_eq {o : MOp} (h : inB o.Kind 1 8 = true) : op4 o = r4 o := by unfold op4 r4; rw [(ofU_b h).2.1]
theorem r6_eq {o : MOp} {l : List Shape} (h : inB o.Kind 1 8 = true) : op6 o l = r6 o l := by
  unfold op6 r6; rw [(ofU_b h).1]
  unfold shapeE
  cases shapeB (mkS o (inA o l)) <;> cases o.Kind == 6 <;> cases shapeQ (inS o l) (inA o l) <;> rfl
theorem mkL_eq {o : MOp} {a : Shape} (h : inB o.Kind 1 8 = true) (he : mkE o a = 0) : mkL o a = bif inB o.Kind 1 4 then lenF o a else 0 := by
  unfold mkL lenF
  rw [if_pos he]
  rcases kinds8 h with k | k | k | k | k | k | k | k <;> rw [k] <;> simp [inB, mkX, k, ofU]
theorem r7_eq {o : MOp} {l : List Shape} (h : inB o.Kind 1 8 = true) (he : mkE o (inA o l) = 0) : op7 o l = r7 o (inA o l) := by
  unfold op7 r7; rw [mkL_eq h he]; cases inB o.Kind 1 4 <;> rfl
theorem opR_eq {o : MOp} {l : List Shape} (h : inB o.Kind 1 8 = true) (he : mkE o (inA o l) = 0) : opR o l = listB o (inA o l) ∧ w64 (opR o l * mkL o (inA o l)) = listW o (inA o l) := by
  rw [mkL_eq h he]
  unfold opR listB listW mkS
  rw [if_pos he, (ofU_b h).2.2.2.2]
  rcases kinds8 h with k | k | k | k | k | k | k | k <;> rw [k] <;> simp [inB, mkX, k, ofU, w64, IntKind.wrap_i64]
theorem r8_eq {o : MOp} {l : List Shape} (h : inB o.Kind 1 8 = true) (he : mkE o (inA o l) = 0) : op8 o l = r8 o (inA o l) := by
  obtain ⟨h1, h2⟩ := opR_eq h he
  unfold op8 r8; rw [h2, h1]
theorem r9_eq {o : MOp} (h : inB o.Kind 1 8 = true) : op9 o = r9 o := by
  unfold op9 r9 scaleB; rw [(ofU_b h).2.2.1, (ofU_b h).2.2.2.1]
theorem r10_eq {o : MOp} : op10 o = r10 o := by
  unfold op10 r10 bytesB
  simp only [List.all_cons, List.all_nil, Bool.and_true]
  cases inB o.Lo (-128) 127 <;> cases inB o.Hi (-128) 127 <;> cases inB o.Zero (-128) 127 <;> cases inB o.Pad (-128) 127 <;> cases decide (o.Lo > o.Hi) <;> rfl
theorem ref08_one (o : MOp) (l : List Shape) (hl : (o.Weights.length : Int) + o.Bias.length ≤ 4611686018427387904) : Ok Try.prog 51 [.agg (opC o), .int .i64 (l.length : Int), .ro (l.map shapeC)] (.tup [.agg (shapeC (opS o l)), .int .i64 (opE o l)]) := by
  cases hc20 : op1 o with
  | true =>
    have hc20 : (bif decide (o.Kind < 1) then true else decide (o.Kind > 8)) = true := by
      unfold op1 inB at hc20; by_cases a : o.Kind < 1 <;> by_cases b : o.Kind > 8 <;> simp [a, b] at hc20 ⊢ <;> omega
    --@@1
    skip
    refine fn_ok Tb_ok (fn := Try.f51) Try.func51 rfl rfl (e := [(0, _), (1, _), (2, _)]) rfl (by decide) rfl ?_
    refine zs ?_
    refine zR ?_
    refine zbx [.int _ _, .int _ _, .int _ _, .int _ _, .int _ _, .int _ _, .int _ _, .int _ _, .int _ _, .int _ _, .int _ _, .int _ _, _, _, .int _ _, .int _ _, .int _ _, .int _ _, .int _ _, .int _ _, .int _ _, .int _ _] 22 ?_
    refine zal [.int .i64 0, .int .i64 0, .int .i64 0] 3 ?_
    refine zLI ?_
    refine zn ?_
    refine zs ?_
    refine zs ?_
    refine zR ?_
    refine zLP ?_
    refine zLI ?_
    refine zLB ?_
    refine zLB ?_
    refine zgLP ?_
    refine zgLI ?_
    refine zgLB ?_
    refine zpLB ?_
    refine zn ?_
    refine W_cond_t (b := _) rfl (by exact hc20) ?_
    refine zs ?_
    refine zR ?_
    refine zLG [.int _ _, .int _ _, .int _ _] ?_
    refine zst (.agg [.int _ _, .int _ _, .int _ _]) [_, _, _] [[_, _, _]] ?_
    refine zLI ?_
    refine zn ?_
    refine zt ?_
    refine ends (l := [.agg [.int _ _, .int _ _, .int _ _], .int _ _]) (q := .tup [.agg [.int _ _, .int _ _, .int _ _], .int _ _]) (.inr rfl) rfl ⟨rfl, trivial, trivial⟩ rfl rfl ?_
    simp [opS, opE, shapeC, *]
  | false =>
    have hk : inB o.Kind 1 8 = true := by simpa [op1] using hc20
    have q1 := hc20
    have hc20 : (bif decide (o.Kind < 1) then true else decide (o.Kind > 8)) = false := by
      unfold inB at hk; by_cases a : o.Kind < 1 <;> by_cases b : o.Kind > 8 <;> simp [a, b] at hk ⊢ <;> omega
    --@@2
    skip
    refine fn_ok Tb_ok (fn := Try.f51) Try.func51 rfl rfl (e := [(0, _), (1, _), (2, _)]) rfl (by decide) rfl ?_
    refine zs ?_
    refine zR ?_
    refine zbx [.int _ _, .int _ _, .int _ _, .int _ _, .int _ _, .int _ _, .int _ _, .int _ _, .int _ _, .int _ _, .int _ _, .int _ _, _, _, .int _ _, .int _ _, .int _ _, .int _ _, .int _ _, .int _ _, .int _ _, .int _ _] 22 ?_
    refine zal [.int .i64 0, .int .i64 0, .int .i64 0] 3 ?_
    refine zLI ?_
    refine zn ?_
    refine zs ?_
    refine zs ?_
    refine zR ?_
    refine zLP ?_
    refine zLI ?_
    refine zLB ?_
    refine zLB ?_
    refine zgLP ?_
    refine zgLI ?_
    refine zgLB ?_
    refine zpLB ?_
    refine zn ?_
    refine W_cond_f (b := _) rfl (by exact hc20) ?_
    refine zk ?_
    refine zs ?_
    refine zs ?_
    refine zR ?_
    refine zLP ?_
    refine zLI ?_
    refine zLB ?_
    refine zLB ?_
    refine zgLP ?_
    refine zgLI ?_
    refine zgLI ?_
    refine zgLB ?_
    refine zpLB ?_
    refine zLB ?_
    refine zgLP ?_
    refine zgLI ?_
    refine zgLB ?_
    refine zgLB ?_
    refine zgLP ?_
    refine zgLI ?_
    refine zgLB ?_
    refine zgLB ?_
    refine zgLP ?_
    refine zgLI ?_
    refine zgLI ?_
    refine zgLB ?_
    refine zqLB ?_
    refine zqLB ?_
    refine zpLB ?_
    refine zn ?_
    refine W_cond (b := _) rfl (fun h46 => ?_) (fun h46 => ?_)
    · have q2 : op2 o l = true := by rw [r2_eq hk]; simpa [r2] using h46
      refine zs ?_
      refine zR ?_
      refine zLG [.int _ _, .int _ _, .int _ _] ?_
      refine zst (.agg [.int _ _, .int _ _, .int _ _]) [_, _, _] [[_, _, _]] ?_
      refine zLI ?_
      refine zn ?_
      refine zt ?_
      refine ends (l := [.agg [.int _ _, .int _ _, .int _ _], .int _ _]) (q := .tup [.agg [.int _ _, .int _ _, .int _ _], .int _ _]) (.inr rfl) rfl ⟨rfl, trivial, trivial⟩ rfl rfl ?_
      simp [opS, opE, shapeC, *]
    · have q2 : op2 o l = false := by rw [r2_eq hk]; simpa [r2] using h46
      obtain ⟨a0, a1, a2⟩ := op2_ok q2
      have a1' : o.A < ((l.map shapeC).length : Int) := by rw [List.length_map]; exact a1
      refine zk ?_
      refine zs ?_
      refine zs ?_
      refine zR ?_
      refine zLG [.int _ _, .int _ _, .int _ _, .int _ _, .int _ _, .int _ _, .int _ _, .int _ _, .int _ _, .int _ _, .int _ _, .int _ _, _, _, .int _ _, .int _ _, .int _ _, .int _ _, .int _ _, .int _ _, .int _ _, .int _ _] ?_
      refine zLc (ref08_spare o hk hl) ?_
      refine zLB ?_
      refine zn ?_
      refine W_cond (b := _) rfl (fun h50 => ?_) (fun h50 => ?_)
      · have q3 : op3 o = true := by simpa using h50
        refine zs ?_
        refine zR ?_
        refine zLG [.int _ _, .int _ _, .int _ _] ?_
        refine zst (.agg [.int _ _, .int _ _, .int _ _]) [_, _, _] [[_, _, _]] ?_
        refine zLI ?_
        refine zn ?_
        refine zt ?_
        refine ends (l := [.agg [.int _ _, .int _ _, .int _ _], .int _ _]) (q := .tup [.agg [.int _ _, .int _ _, .int _ _], .int _ _]) (.inr rfl) rfl ⟨rfl, trivial, trivial⟩ rfl rfl ?_
        simp [opS, opE, shapeC, *]
      · have q3 : op3 o = false := by simpa using h50
        refine zk ?_
        refine zs ?_
        refine zs ?_
        refine zR ?_
        refine zLP ?_
        refine zLI ?_
        refine zLB ?_
        refine zLB ?_
        refine zgLP ?_
        refine zgLI ?_
        refine zgLB ?_
        refine zgLB ?_
        refine zgLP ?_
        refine zgLI ?_
        refine zgLB ?_
        refine zqLB ?_
        refine zpLB ?_
        refine zn ?_
        refine W_cond (b := _) rfl (fun h64 => ?_) (fun h64 => ?_)
        · have q4 : op4 o = true := by rw [r4_eq hk]; exact h64
          refine zs ?_
          refine zR ?_
          refine zLG [.int _ _, .int _ _, .int _ _] ?_
          refine zst (.agg [.int _ _, .int _ _, .int _ _]) [_, _, _] [[_, _, _]] ?_
          refine zLI ?_
          refine zn ?_
          refine zt ?_
          refine ends (l := [.agg [.int _ _, .int _ _, .int _ _], .int _ _]) (q := .tup [.agg [.int _ _, .int _ _, .int _ _], .int _ _]) (.inr rfl) rfl ⟨rfl, trivial, trivial⟩ rfl rfl ?_
          simp [opS, opE, shapeC, *]
        · have q4 : op4 o = false := by rw [r4_eq hk]; exact h64
          refine zk ?_
          refine zs ?_
          refine zR ?_
          refine zLO ?_
          refine zLP ?_
          refine zLI ?_
          (refine L_v Tb_ok (v := _) (ave_index_ro rfl rfl rfl (fun _ => rfl) rfl (by first | exact a0 | exact a1 | exact a1') (by first | exact a0 | exact a1 | exact a1') trivial) rfl ?_)
          refine zLG [.int _ _, .int _ _, .int _ _] ?_
          refine zal [.int .i64 0, .int .i64 0, .int .i64 0] 3 ?_
          refine zst (.agg [.int _ _, .int _ _, .int _ _]) [_, _, _] [[_, _, _]] ?_
          refine zn ?_
          refine zs ?_
          refine zR ?_
          refine zLG [.int _ _, .int _ _, .int _ _, .int _ _, .int _ _, .int _ _, .int _ _, .int _ _, .int _ _, .int _ _, .int _ _, .int _ _, _, _, .int _ _, .int _ _, .int _ _, .int _ _, .int _ _, .int _ _, .int _ _, .int _ _] ?_
          refine zLG [.int _ _, .int _ _, .int _ _] ?_
          refine zLc (ref08_Makes o (inA o l) hk) ?_
          refine zLT [_, _] ?_
          refine zLG [.int _ _, .int _ _, .int _ _] ?_
          refine zLI ?_
          refine zal [.int .i64 0, .int .i64 0, .int .i64 0] 3 ?_
          refine zst (.agg [.int _ _, .int _ _, .int _ _]) [_, _, _] [[_, _, _]] ?_
          refine zLI ?_
          refine zn ?_
          refine zs ?_
          refine zs ?_
          refine zR ?_
          refine zLI ?_
          refine zLB ?_
          refine zn ?_
          refine W_cond (b := _) rfl (fun h78 => ?_) (fun h78 => ?_)
          · have q5 : op5 o l = true := h78
            refine zs ?_
            refine zR ?_
            refine zLG [.int _ _, .int _ _, .int _ _] ?_
            refine zLI ?_
            refine zst (.agg [.int _ _, .int _ _, .int _ _]) [_, _, _] [[_, _, _]] ?_
            refine zLI ?_
            refine zn ?_
            refine zt ?_
            refine ends (l := [.agg [.int _ _, .int _ _, .int _ _], .int _ _]) (q := .tup [.agg [.int _ _, .int _ _, .int _ _], .int _ _]) (.inr rfl) rfl ⟨rfl, trivial, trivial⟩ rfl rfl ?_
            simp [opS, opE, shapeC, *]
          · have q5 : op5 o l = false := h78
            have e5 : mkE o (inA o l) = 0 := by simpa [op5] using q5
            refine zk ?_
            refine zs ?_
            refine zs ?_
            refine W_draw 17 Tb_mixed rfl (by decide) (by kernel_rfl) (by kernel_rfl) ?_
            refine zEP ?_
            refine zEI ?_
            refine zEB ?_
            refine zEB ?_
            refine zgEO ?_
            refine zgEP ?_
            refine zgEI ?_
            (refine E_g Tb_ok (v := _) rfl rfl ((fun hg => (ave_index_ro rfl rfl rfl (fun _ => rfl) rfl (by (have hb := a2 (by rw [(ofU_b hk).1]; simpa using hg)); first | exact hb.1 | exact hb.2 | (rw [List.length_map]; exact hb.2)) (by (have hb := a2 (by rw [(ofU_b hk).1]; simpa using hg)); first | exact hb.1 | exact hb.2 | (rw [List.length_map]; exact hb.2)) ⟨⟨(by first | exact hg | (simp_all; done) | (simp at hg ⊢; simp [hg])), True.intro⟩, ⟨⟨(by first | exact hg | (simp_all; done) | (simp at hg ⊢; simp [hg])), True.intro⟩, True.intro⟩⟩))) rfl rfl ?_)
            refine zgEG [.int _ _, .int _ _, .int _ _] ?_
            refine zgEG [.int _ _, .int _ _, .int _ _] ?_
            refine zgEB ?_
            refine zpEB ?_
            refine zEB ?_
            refine zgEG [.int _ _, .int _ _, .int _ _] ?_
            refine E_callg (hr := fun hg => ref05_Valid (mkS o (inA o l))) rfl rfl rfl rfl rfl (fun hg => ⟨⟨(by exact hg), True.intro⟩, True.intro⟩) rfl rfl ?_
            refine zgEB ?_
            refine zpEB ?_
            refine LexE_nil ?_
            refine zn ?_
            refine W_cond (b := _) rfl (fun h97 => ?_) (fun h97 => ?_)
            · have q6 : op6 o l = true := by rw [r6_eq hk]; exact h97
              refine zs ?_
              refine zR ?_
              refine zLG [.int _ _, .int _ _, .int _ _] ?_
              refine zst (.agg [.int _ _, .int _ _, .int _ _]) [_, _, _] [[_, _, _]] ?_
              refine zLI ?_
              refine zn ?_
              refine zt ?_
              refine ends (l := [.agg [.int _ _, .int _ _, .int _ _], .int _ _]) (q := .tup [.agg [.int _ _, .int _ _, .int _ _], .int _ _]) (.inr rfl) rfl ⟨rfl, trivial, trivial⟩ rfl rfl ?_
              simp [opS, opE, shapeC, *]
            · have q6 : op6 o l = false := by rw [r6_eq hk]; exact h97
              refine zk ?_
              refine zs ?_
              refine zs ?_
              refine zR ?_
              refine zLP ?_
              refine zLI ?_
              refine zLc (ref08_Reduces _) ?_
              refine zLB ?_
              refine zgLG [.int _ _, .int _ _, .int _ _, .int _ _, .int _ _, .int _ _, .int _ _, .int _ _, .int _ _, .int _ _, .int _ _, .int _ _, _, _, .int _ _, .int _ _, .int _ _, .int _ _, .int _ _, .int _ _, .int _ _, .int _ _] ?_
              refine zgLG [.int _ _, .int _ _, .int _ _] ?_
              refine L_callg (hr := fun hg => ref08_Length o (inA o l)) rfl rfl rfl rfl rfl (fun hg => ⟨⟨(by exact hg), True.intro⟩, ⟨⟨(by exact hg), True.intro⟩, True.intro⟩⟩) rfl rfl ?_
              refine zgLB ?_
              refine zpLB ?_
              refine zn ?_
              refine W_cond (b := _) rfl (fun h107 => ?_) (fun h107 => ?_)
              · have q7 : op7 o l = true := by rw [r7_eq hk e5]; exact h107
                refine zs ?_
                refine zR ?_
                refine zLG [.int _ _, .int _ _, .int _ _] ?_
                refine zst (.agg [.int _ _, .int _ _, .int _ _]) [_, _, _] [[_, _, _]] ?_
                refine zLI ?_
                refine zn ?_
                refine zt ?_
                refine ends (l := [.agg [.int _ _, .int _ _, .int _ _], .int _ _]) (q := .tup [.agg [.int _ _, .int _ _, .int _ _], .int _ _]) (.inr rfl) rfl ⟨rfl, trivial, trivial⟩ rfl rfl ?_
                simp [opS, opE, shapeC, *]
              · have q7 : op7 o l = false := by rw [r7_eq hk e5]; exact h107
                refine zk ?_
                refine zs ?_
                refine zR ?_
                refine zLG [.int _ _, .int _ _, .int _ _, .int _ _, .int _ _, .int _ _, .int _ _, .int _ _, .int _ _, .int _ _, .int _ _, .int _ _, _, _, .int _ _, .int _ _, .int _ _, .int _ _, .int _ _, .int _ _, .int _ _, .int _ _] ?_
                refine zLG [.int _ _, .int _ _, .int _ _] ?_
                refine zLc (ref08_Lists o (inA o l)) ?_
                refine zLT [_, _] ?_
                refine zLI ?_
                refine zLI ?_
                refine zLI ?_
                refine zLI ?_
                refine zn ?_
                refine zs ?_
                refine zs ?_
                refine zR ?_
                refine zLP ?_
                refine zLO ?_
                refine zLI ?_
                refine zLI ?_
                refine zLB ?_
                refine zLB ?_
                refine zgLP ?_
                refine zgLO ?_
                refine zgLI ?_
                refine zgLI ?_
                refine zgLB ?_
                refine zpLB ?_
                refine zn ?_
                refine W_cond (b := _) rfl (fun h126 => ?_) (fun h126 => ?_)
                · have q8 : op8 o l = true := by rw [r8_eq hk e5]; exact h126
                  refine zs ?_
                  refine zR ?_
                  refine zLG [.int _ _, .int _ _, .int _ _] ?_
                  refine zst (.agg [.int _ _, .int _ _, .int _ _]) [_, _, _] [[_, _, _]] ?_
                  refine zLI ?_
                  refine zn ?_
                  refine zt ?_
                  refine ends (l := [.agg [.int _ _, .int _ _, .int _ _], .int _ _]) (q := .tup [.agg [.int _ _, .int _ _, .int _ _], .int _ _]) (.inr rfl) rfl ⟨rfl, trivial, trivial⟩ rfl rfl ?_
                  simp [opS, opE, shapeC, *]
                · have q8 : op8 o l = false := by rw [r8_eq hk e5]; exact h126
                  refine zk ?_
                  refine zs ?_
                  refine zs ?_
                  refine zR ?_
                  refine zLP ?_
                  refine zLI ?_
                  refine zLc (ref08_Scales _) ?_
                  refine zLB ?_
                  refine zgLP ?_
                  refine zgLP ?_
                  refine zgLI ?_
                  refine zgLP ?_
                  refine zgLP ?_
                  refine zgLI ?_
                  refine L_callg (hr := fun hg => ref02_Valid _ _) rfl rfl rfl rfl rfl (fun hg => ⟨⟨(by exact hg), True.intro⟩, ⟨⟨(by exact hg), True.intro⟩, True.intro⟩⟩) rfl rfl ?_
                  refine zgLB ?_
                  refine zpLB ?_
                  refine zLB ?_
                  refine zgLP ?_
                  refine zgLI ?_
                  refine zgLB ?_
                  refine zgLB ?_
                  refine zgLP ?_
                  refine zgLP ?_
                  refine zgLI ?_
                  refine zgLP ?_
                  refine zgLP ?_
                  refine zgLI ?_
                  refine L_callg (hr := fun hg => ref02_Valid _ _) rfl rfl rfl rfl rfl (fun hg => ⟨⟨(by exact hg), True.intro⟩, ⟨⟨(by exact hg), True.intro⟩, True.intro⟩⟩) rfl rfl ?_
                  refine zgLB ?_
                  refine zqLB ?_
                  refine zpLB ?_
                  refine zn ?_
                  refine W_cond (b := _) rfl (fun h155 => ?_) (fun h155 => ?_)
                  · have q9 : op9 o = true := by rw [r9_eq hk]; exact h155
                    refine zs ?_
                    refine zR ?_
                    refine zLG [.int _ _, .int _ _, .int _ _] ?_
                    refine zst (.agg [.int _ _, .int _ _, .int _ _]) [_, _, _] [[_, _, _]] ?_
                    refine zLI ?_
                    refine zn ?_
                    refine zt ?_
                    refine ends (l := [.agg [.int _ _, .int _ _, .int _ _], .int _ _]) (q := .tup [.agg [.int _ _, .int _ _, .int _ _], .int _ _]) (.inr rfl) rfl ⟨rfl, trivial, trivial⟩ rfl rfl ?_
                    simp [opS, opE, shapeC, *]
                  · have q9 : op9 o = false := by rw [r9_eq hk]; exact h155
                    refine zk ?_
                    refine zs ?_
                    refine zs ?_
                    refine zR ?_
                    refine zLP ?_
                    refine zLI ?_
                    refine zLc (ref08_values _) ?_
                    refine zLB ?_
                    refine zLB ?_
                    refine zgLP ?_
                    refine zgLI ?_
                    refine L_callg (hr := fun hg => ref08_values _) rfl rfl rfl rfl rfl (fun hg => ⟨⟨(by exact hg), True.intro⟩, True.intro⟩) rfl rfl ?_
                    refine zgLB ?_
                    refine zpLB ?_
                    refine zLB ?_
                    refine zgLP ?_
                    refine zgLI ?_
                    refine zgLP ?_
                    refine zgLI ?_
                    refine zgLB ?_
                    refine zpLB ?_
                    refine zLB ?_
                    refine zgLP ?_
                    refine zgLI ?_
                    refine L_callg (hr := fun hg => ref08_values _) rfl rfl rfl rfl rfl (fun hg => ⟨⟨(by exact hg), True.intro⟩, True.intro⟩) rfl rfl ?_
                    refine zgLB ?_
                    refine zpLB ?_
                    refine zLB ?_
                    refine zgLP ?_
                    refine zgLI ?_
                    refine L_callg (hr := fun hg => ref08_values _) rfl rfl rfl rfl rfl (fun hg => ⟨⟨(by exact hg), True.intro⟩, True.intro⟩) rfl rfl ?_
                    refine zgLB ?_
                    refine zpLB ?_
                    refine zn ?_
                    refine W_cond (b := _) rfl (fun h185 => ?_) (fun h185 => ?_)
                    · have q10 : op10 o = true := by rw [r10_eq]; exact h185
                      refine zs ?_
                      refine zR ?_
                      refine zLG [.int _ _, .int _ _, .int _ _] ?_
                      refine zst (.agg [.int _ _, .int _ _, .int _ _]) [_, _, _] [[_, _, _]] ?_
                      refine zLI ?_
                      refine zn ?_
                      refine zt ?_
                      refine ends (l := [.agg [.int _ _, .int _ _, .int _ _], .int _ _]) (q := .tup [.agg [.int _ _, .int _ _, .int _ _], .int _ _]) (.inr rfl) rfl ⟨rfl, trivial, trivial⟩ rfl rfl ?_
                      simp [opS, opE, shapeC, *]
                    · have q10 : op10 o = false := by rw [r10_eq]; exact h185
                      refine zk ?_
                      refine zs ?_
                      refine zR ?_
                      refine zLG [.int _ _, .int _ _, .int _ _] ?_
                      refine zst (.agg [.int _ _, .int _ _, .int _ _]) [_, _, _] [[_, _, _]] ?_
                      refine zLI ?_
                      refine zn ?_
                      refine zt ?_
                      refine ends (l := [.agg [.int _ _, .int _ _, .int _ _], .int _ _]) (q := .tup [.agg [.int _ _, .int _ _, .int _ _], .int _ _]) (.inr rfl) rfl ⟨rfl, trivial, trivial⟩ rfl rfl ?_
                      simp [opS, opE, shapeC, *]
end Go.AM
end
section
open Go Go.AM Go.Proofs
set_option maxRecDepth 10000
set_option linter.unusedVariables false
set_option linter.unusedSimpArgs false
namespace Go.AM
theorem w64_add (x q : Int) : w64 (x + 18446744073709551616 * q) = w64 x := by unfold w64; rw [IntKind.wrap_i64, IntKind.wrap_i64]; omega
theorem w64_form (x : Int) : ∃ q, w64 x = x + 18446744073709551616 * q := by
  unfold w64; rw [IntKind.wrap_i64]
  exact ⟨-((x + 9223372036854775808) / 18446744073709551616), by omega⟩
theorem w64_mul (a b : Int) : w64 (w64 a * b) = w64 (a * b) := by
  obtain ⟨q, hq⟩ := w64_form a
  rw [hq, Int.add_mul, Int.mul_assoc]; exact w64_add _ _
theorem w64_mul' (a b : Int) : w64 (a * w64 b) = w64 (a * b) := by rw [Int.mul_comm, w64_mul, Int.mul_comm]
theorem w64_w64 (a : Int) : w64 (w64 a) = w64 a := by have := w64_mul a 1; simpa using this
theorem opE_kind {o : MOp} {l : List Shape} (h : opE o l = 0) : inB o.Kind 1 8 = true := by simpa [op1] using (opE_ok h).1
theorem lab_eq {o : MOp} {l : List Shape} (h : opE o l = 0) : labF o (inA o l) (opS o l) = opW o l := by
  have hk := opE_kind h
  obtain ⟨h1, h2, h3, h4, h5, h6, h7, h8, h9, h10⟩ := opE_ok h
  have e5 : op5 o l = false := by simp [op5, h5]
  have eW : opW o l = mkW o (inA o l) := by simp [opW, h1, h2, h3, h4, e5, h6, h7, h8, h9, h10]
  rw [opS_ok h, eW]
  generalize inA o l = a at *
  have eL := mkL_eq hk h5
  unfold labF mkW mkT elems
  rw [if_pos h5, eL]
  unfold lenF mkX
  rcases kinds8 hk with k | k | k | k | k | k | k | k <;> simp [k, inB, ofU] <;> simp only [w64_mul, w64_mul', w64_w64, Int.mul_assoc]
theorem lens_wf {m : Model} (hm : m.Wf) (i : Nat) : ((m.Ops.getD i default).Weights.length : Int) + (m.Ops.getD i default).Bias.length ≤ 4611686018427387904 := by
  rw [List.getD_eq_getElem?_getD]
  cases hq : m.Ops[i]? with
  | none => show ((0 : Nat) : Int) + ((0 : Nat) : Int) ≤ _; omega
  | some o =>
    obtain ⟨_, _, _, _, _, h1, h2, _⟩ := hm.2.2.2.1.2 o (List.mem_of_getElem? hq)
    have b1 := h1.1
    have b2 := h2.1
    have : reachBytes < 140737488355328 := by decide
    show (o.Weights.length : Int) + o.Bias.length ≤ _
    omega
theorem wh2_eq (m : Model) : (bif bif !inB m.Lo (-128) 127 then true else !inB m.Hi (-128) 127 then true else decide (m.Lo > m.Hi)) = wh2 m := by
  unfold wh2 bytesB
  simp only [List.all_cons, List.all_nil, Bool.and_true]
  cases inB m.Lo (-128) 127 <;> cases inB m.Hi (-128) 127 <;> cases decide (m.Lo > m.Hi) <;> rfl
theorem wh1_eq (m : Model) : (!shapeB m.In) = wh1 m := by unfold wh1 shapeE; cases shapeB m.In <;> rfl
theorem ref08_Look (m : Model) (hm : m.Wf) : Ok Try.prog 36 [.agg (modelC m)] (.tup [.ro ((wholeF m).1.map shapeC), .int .i64 (wholeF m).2.1, .agg (faultC (wholeF m).2.2)]) := by
  cases h1 : wh1 m with
  | true =>
    have hc15 := h1; rw [← wh1_eq] at hc15
    have he : shapeE m.In = 50 := by unfold shapeE; simp at hc15; rw [hc15]; rfl
    --@@1
    skip
    refine fn_ok Tb_ok (fn := Try.f36) Try.func36 rfl rfl (e := [(0, _)]) rfl (by decide) rfl ?_
    refine zs ?_
    refine zR ?_
    refine zbx [.int _ _, .int _ _, .int _ _, .int _ _, .int _ _, _, .int _ _] 7 ?_
    refine zLN ?_
    refine zLI ?_
    refine zal [.int .i64 0, .int .i64 0, .int .i64 0] 3 ?_
    refine zn ?_
    refine zs ?_
    refine zR ?_
    refine zLI ?_
    refine zn ?_
    refine zs ?_
    refine zs ?_
    refine zR ?_
    refine zLP ?_
    refine zLG [.int _ _, .int _ _, .int _ _] ?_
    refine zLc (ref05_Valid m.In) ?_
    refine zLB ?_
    refine zn ?_
    refine W_cond_t (b := _) rfl (by exact hc15) ?_
    refine zR ?_
    refine zLI ?_
    refine zn ?_
    refine zs ?_
    refine zs ?_
    refine zR ?_
    refine zLI ?_
    refine zLB ?_
    refine zn ?_
    refine W_cond_t (b := _) rfl (by rfl) ?_
    refine zs ?_
    refine zR ?_
    refine zLI ?_
    refine zLG [.int _ _, .int _ _, .int _ _] ?_
    refine zLN ?_
    refine zLI ?_
    refine zst (.agg [.int _ _, .int _ _, .int _ _]) [_, _, _] [[_, _, _]] ?_
    refine zn ?_
    refine zt ?_
    (refine ends (l := [.nils, .int _ _, .agg [.int _ _, .int _ _, .int _ _]]) (q := .tup [.ro _, .int _ _, .agg [.int _ _, .int _ _, .int _ _]]) (.inr rfl) rfl ⟨trivial, trivial, rfl, trivial⟩ rfl rfl ?_)
    simp [wholeF, h1, faultC, he]
  | false =>
  have hc15 := h1; rw [← wh1_eq] at hc15
  cases h2 : wh2 m with
  | true =>
    have hc32 := h2; rw [← wh2_eq] at hc32
    --@@2
    skip
    refine fn_ok Tb_ok (fn := Try.f36) Try.func36 rfl rfl (e := [(0, _)]) rfl (by decide) rfl ?_
    refine zs ?_
    refine zR ?_
    refine zbx [.int _ _, .int _ _, .int _ _, .int _ _, .int _ _, _, .int _ _] 7 ?_
    refine zLN ?_
    refine zLI ?_
    refine zal [.int .i64 0, .int .i64 0, .int .i64 0] 3 ?_
    refine zn ?_
    refine zs ?_
    refine zR ?_
    refine zLI ?_
    refine zn ?_
    refine zs ?_
    refine zs ?_
    refine zR ?_
    refine zLP ?_
    refine zLG [.int _ _, .int _ _, .int _ _] ?_
    refine zLc (ref05_Valid m.In) ?_
    refine zLB ?_
    refine zn ?_
    refine W_cond_f (b := _) rfl (by exact hc15) ?_
    refine zs ?_
    refine zR ?_
    refine zLP ?_
    refine zLI ?_
    refine zLc (ref08_values _) ?_
    refine zLB ?_
    refine zLB ?_
    refine zgLP ?_
    refine zgLI ?_
    refine L_callg (hr := fun hg => ref08_values _) rfl rfl rfl rfl rfl (fun hg => ⟨⟨(by exact hg), True.intro⟩, True.intro⟩) rfl rfl ?_
    refine zgLB ?_
    refine zpLB ?_
    refine zLB ?_
    refine zgLP ?_
    refine zgLI ?_
    refine zgLP ?_
    refine zgLI ?_
    refine zgLB ?_
    refine zpLB ?_
    refine zn ?_
    refine W_cond_t (b := _) rfl (by exact hc32) ?_
    refine zR ?_
    refine zLI ?_
    refine zn ?_
    refine zs ?_
    refine zs ?_
    refine zR ?_
    refine zLI ?_
    refine zLB ?_
    refine zn ?_
    refine W_cond_t (b := _) rfl (by rfl) ?_
    refine zs ?_
    refine zR ?_
    refine zLI ?_
    refine zLG [.int _ _, .int _ _, .int _ _] ?_
    refine zLN ?_
    refine zLI ?_
    refine zst (.agg [.int _ _, .int _ _, .int _ _]) [_, _, _] [[_, _, _]] ?_
    refine zn ?_
    refine zt ?_
    (refine ends (l := [.nils, .int _ _, .agg [.int _ _, .int _ _, .int _ _]]) (q := .tup [.ro _, .int _ _, .agg [.int _ _, .int _ _, .int _ _]]) (.inr rfl) rfl ⟨trivial, trivial, rfl, trivial⟩ rfl rfl ?_)
    simp [wholeF, h1, h2, faultC]
  | false =>
  have hc32 := h2; rw [← wh2_eq] at hc32
  cases h3 : wh3 m with
  | true =>
    have hc36 : decide (((m.Ops.map opC).length : Int) > 64) = true := h3
    --@@3
    skip
    refine fn_ok Tb_ok (fn := Try.f36) Try.func36 rfl rfl (e := [(0, _)]) rfl (by decide) rfl ?_
    refine zs ?_
    refine zR ?_
    refine zbx [.int _ _, .int _ _, .int _ _, .int _ _, .int _ _, _, .int _ _] 7 ?_
    refine zLN ?_
    refine zLI ?_
    refine zal [.int .i64 0, .int .i64 0, .int .i64 0] 3 ?_
    refine zn ?_
    refine zs ?_
    refine zR ?_
    refine zLI ?_
    refine zn ?_
    refine zs ?_
    refine zs ?_
    refine zR ?_
    refine zLP ?_
    refine zLG [.int _ _, .int _ _, .int _ _] ?_
    refine zLc (ref05_Valid m.In) ?_
    refine zLB ?_
    refine zn ?_
    refine W_cond_f (b := _) rfl (by exact hc15) ?_
    refine zs ?_
    refine zR ?_
    refine zLP ?_
    refine zLI ?_
    refine zLc (ref08_values _) ?_
    refine zLB ?_
    refine zLB ?_
    refine zgLP ?_
    refine zgLI ?_
    refine L_callg (hr := fun hg => ref08_values _) rfl rfl rfl rfl rfl (fun hg => ⟨⟨(by exact hg), True.intro⟩, True.intro⟩) rfl rfl ?_
    refine zgLB ?_
    refine zpLB ?_
    refine zLB ?_
    refine zgLP ?_
    refine zgLI ?_
    refine zgLP ?_
    refine zgLI ?_
    refine zgLB ?_
    refine zpLB ?_
    refine zn ?_
    refine W_cond_f (b := _) rfl (by exact hc32) ?_
    refine zs ?_
    refine zR ?_
    refine zLP ?_
    refine zLO ?_
    refine zLI ?_
    refine zLB ?_
    refine zn ?_
    refine W_cond_t (b := _) rfl (by exact hc36) ?_
    refine zR ?_
    refine zLI ?_
    refine zn ?_
    refine zs ?_
    refine zs ?_
    refine zR ?_
    refine zLI ?_
    refine zLB ?_
    refine zn ?_
    refine W_cond_t (b := _) rfl (by rfl) ?_
    refine zs ?_
    refine zR ?_
    refine zLI ?_
    refine zLG [.int _ _, .int _ _, .int _ _] ?_
    refine zLN ?_
    refine zLI ?_
    refine zst (.agg [.int _ _, .int _ _, .int _ _]) [_, _, _] [[_, _, _]] ?_
    refine zn ?_
    refine zt ?_
    (refine ends (l := [.nils, .int _ _, .agg [.int _ _, .int _ _, .int _ _]]) (q := .tup [.ro _, .int _ _, .agg [.int _ _, .int _ _, .int _ _]]) (.inr rfl) rfl ⟨trivial, trivial, rfl, trivial⟩ rfl rfl ?_)
    simp [wholeF, h1, h2, h3, faultC]
  | false =>
  have hc36 : decide (((m.Ops.map opC).length : Int) > 64) = false := h3
  cases h4 : wh4 m with
  | true =>
    have hc47 : (bif decide (m.Out < 0) then true else decide (m.Out > ((m.Ops.map opC).length : Int))) = true := h4
    --@@4
    skip
    refine fn_ok Tb_ok (fn := Try.f36) Try.func36 rfl rfl (e := [(0, _)]) rfl (by decide) rfl ?_
    refine zs ?_
    refine zR ?_
    refine zbx [.int _ _, .int _ _, .int _ _, .int _ _, .int _ _, _, .int _ _] 7 ?_
    refine zLN ?_
    refine zLI ?_
    refine zal [.int .i64 0, .int .i64 0, .int .i64 0] 3 ?_
    refine zn ?_
    refine zs ?_
    refine zR ?_
    refine zLI ?_
    refine zn ?_
    refine zs ?_
    refine zs ?_
    refine zR ?_
    refine zLP ?_
    refine zLG [.int _ _, .int _ _, .int _ _] ?_
    refine zLc (ref05_Valid m.In) ?_
    refine zLB ?_
    refine zn ?_
    refine W_cond_f (b := _) rfl (by exact hc15) ?_
    refine zs ?_
    refine zR ?_
    refine zLP ?_
    refine zLI ?_
    refine zLc (ref08_values _) ?_
    refine zLB ?_
    refine zLB ?_
    refine zgLP ?_
    refine zgLI ?_
    refine L_callg (hr := fun hg => ref08_values _) rfl rfl rfl rfl rfl (fun hg => ⟨⟨(by exact hg), True.intro⟩, True.intro⟩) rfl rfl ?_
    refine zgLB ?_
    refine zpLB ?_
    refine zLB ?_
    refine zgLP ?_
    refine zgLI ?_
    refine zgLP ?_
    refine zgLI ?_
    refine zgLB ?_
    refine zpLB ?_
    refine zn ?_
    refine W_cond_f (b := _) rfl (by exact hc32) ?_
    refine zs ?_
    refine zR ?_
    refine zLP ?_
    refine zLO ?_
    refine zLI ?_
    refine zLB ?_
    refine zn ?_
    refine W_cond_f (b := _) rfl (by exact hc36) ?_
    refine zs ?_
    refine zR ?_
    refine zLP ?_
    refine zLI ?_
    refine zLB ?_
    refine zLB ?_
    refine zgLP ?_
    refine zgLI ?_
    refine zgLP ?_
    refine zgLO ?_
    refine zgLI ?_
    refine zgLB ?_
    refine zpLB ?_
    refine zn ?_
    refine W_cond_t (b := _) rfl (by exact hc47) ?_
    refine zR ?_
    refine zLI ?_
    refine zn ?_
    refine zs ?_
    refine zs ?_
    refine zR ?_
    refine zLI ?_
    refine zLB ?_
    refine zn ?_
    refine W_cond_t (b := _) rfl (by rfl) ?_
    refine zs ?_
    refine zR ?_
    refine zLI ?_
    refine zLG [.int _ _, .int _ _, .int _ _] ?_
    refine zLN ?_
    refine zLI ?_
    refine zst (.agg [.int _ _, .int _ _, .int _ _]) [_, _, _] [[_, _, _]] ?_
    refine zn ?_
    refine zt ?_
    (refine ends (l := [.nils, .int _ _, .agg [.int _ _, .int _ _, .int _ _]]) (q := .tup [.ro _, .int _ _, .agg [.int _ _, .int _ _, .int _ _]]) (.inr rfl) rfl ⟨trivial, trivial, rfl, trivial⟩ rfl rfl ?_)
    simp [wholeF, h1, h2, h3, h4, faultC]
  | false =>
  have hc47 : (bif decide (m.Out < 0) then true else decide (m.Out > ((m.Ops.map opC).length : Int))) = false := h4
  have hn : m.Ops.length ≤ 64 := by rw [List.length_map] at hc36; have := of_decide_eq_false hc36; omega
  have w0 : wholeF m = wgo (m.Ops.drop 0) 0 [m.In] 0 := by simp [wholeF, h1, h2, h3, h4]
  --@@5
  skip
  refine fn_ok Tb_ok (fn := Try.f36) Try.func36 rfl rfl (e := [(0, _)]) rfl (by decide) rfl ?_
  refine zs ?_
  refine zR ?_
  refine zbx [.int _ _, .int _ _, .int _ _, .int _ _, .int _ _, _, .int _ _] 7 ?_
  refine zLN ?_
  refine zLI ?_
  refine zal [.int .i64 0, .int .i64 0, .int .i64 0] 3 ?_
  refine zn ?_
  refine zs ?_
  refine zR ?_
  refine zLI ?_
  refine zn ?_
  refine zs ?_
  refine zs ?_
  refine zR ?_
  refine zLP ?_
  refine zLG [.int _ _, .int _ _, .int _ _] ?_
  refine zLc (ref05_Valid m.In) ?_
  refine zLB ?_
  refine zn ?_
  refine W_cond_f (b := _) rfl (by exact hc15) ?_
  refine zs ?_
  refine zR ?_
  refine zLP ?_
  refine zLI ?_
  refine zLc (ref08_values _) ?_
  refine zLB ?_
  refine zLB ?_
  refine zgLP ?_
  refine zgLI ?_
  refine L_callg (hr := fun hg => ref08_values _) rfl rfl rfl rfl rfl (fun hg => ⟨⟨(by exact hg), True.intro⟩, True.intro⟩) rfl rfl ?_
  refine zgLB ?_
  refine zpLB ?_
  refine zLB ?_
  refine zgLP ?_
  refine zgLI ?_
  refine zgLP ?_
  refine zgLI ?_
  refine zgLB ?_
  refine zpLB ?_
  refine zn ?_
  refine W_cond_f (b := _) rfl (by exact hc32) ?_
  refine zs ?_
  refine zR ?_
  refine zLP ?_
  refine zLO ?_
  refine zLI ?_
  refine zLB ?_
  refine zn ?_
  refine W_cond_f (b := _) rfl (by exact hc36) ?_
  refine zs ?_
  refine zR ?_
  refine zLP ?_
  refine zLI ?_
  refine zLB ?_
  refine zLB ?_
  refine zgLP ?_
  refine zgLI ?_
  refine zgLP ?_
  refine zgLO ?_
  refine zgLI ?_
  refine zgLB ?_
  refine zpLB ?_
  refine zn ?_
  refine W_cond_f (b := _) rfl (by exact hc47) ?_
  refine zk ?_
  refine zs ?_
  refine zs ?_
  refine zR ?_
  refine zLI ?_
  refine zLB ?_
  refine zn ?_
  refine W_cond_f (b := _) rfl (by rfl) ?_
  refine zk ?_
  refine zs ?_
  refine zR ?_
  refine zLP ?_
  refine zLG [.int _ _, .int _ _, .int _ _] ?_
  refine L_build Tb_ok (t := 88) (len := 1) (el := 23) (sz := 3) (es := [[_, _, _]]) (z := [.int .i64 0, .int .i64 0, .int .i64 0]) rfl rfl rfl rfl rfl (by decide) trivial rfl rfl rfl rfl rfl ?_
  refine zLW ?_
  refine zn ?_
  refine zs ?_
  refine zR ?_
  refine zLI ?_
  refine zn ?_
  refine zs ?_
  refine zs ?_
  refine zR ?_
  refine zLP ?_
  refine zLO ?_
  refine zLI ?_
  refine zLI ?_
  refine zn ?_
  refine W_block ?_
  refine W_tok (t := 6) (id := 2) (ty := 23) (sz := 3) (fz := 0) (es := [shapeC m.In]) (l := [shapeC m.In]) rfl rfl rfl rfl rfl rfl rfl ?_
  refine W_inv (ι := WI m) (fun i => ⟨[(1, .ptr 0 0 0), (4, .ptr 1 0 0), (6, .app 3 (i.l.map shapeC)), (7, .int .i64 i.s), (56, .ro (m.Ops.map opC)), (57, .int .i64 ((m.Ops.map opC).length : Int)), (58, .int .i64 (i.k : Int))], [(0, some ⟨26, 7, 0, [modelC m]⟩), (1, some ⟨90, 3, 0, [[.int .i64 0, .int .i64 0, .int .i64 0]]⟩)], [(3, some (23, 3, i.l.length))], 4⟩) (fun i => m.Ops.length - i.k) ⟨0, [m.In], 0, Nat.zero_le _, rfl, hn, w0⟩ (le_fit ⟨rfl, rfl, rfl, rfl, rfl, rfl, rfl, trivial⟩ ⟨.inr rfl, .inr rfl, trivial⟩ ⟨.inr rfl, trivial⟩ rfl rfl rfl rfl rfl) ?_
  rintro ⟨k, l, s, hk, hl, hmm, hw⟩
  have hkl : IntKind.i64.wrap ((k : Int) + 1) = (l.length : Int) := by rw [hl, w64_id (by omega)]; omega
  refine zs ?_
  refine zR ?_
  refine zLB ?_
  refine zn ?_
  refine zs ?_
  refine W_cond (b := _) rfl (fun h59 => ?_) (fun h59 => ?_)
  · have hlt : k < m.Ops.length := by simpa using h59
    refine zk ?_
    refine zs ?_
    refine W_block ?_
    refine zs ?_
    refine zR ?_
    refine zLI ?_
    (refine L_v Tb_ok (v := _) (ave_index_ro rfl rfl rfl (fun _ => rfl) rfl (by first | omega | assumption | decide | (simp_all; done) | (simp_all; omega)) (by first | omega | assumption | decide | (simp_all; done) | (simp_all; omega)) trivial) rfl ?_)
    refine zLG [.int _ _, .int _ _, .int _ _, .int _ _, .int _ _, .int _ _, .int _ _, .int _ _, .int _ _, .int _ _, .int _ _, .int _ _, _, _, .int _ _, .int _ _, .int _ _, .int _ _, .int _ _, .int _ _, .int _ _, .int _ _] ?_
    refine zal [.int .i64 0, .int .i64 0, .int .i64 0, .int .i64 0, .int .i64 0, .int .i64 0, .int .i64 0, .int .i64 0, .int .i64 0, .int .i64 0, .int .i64 0, .int .i64 0, .nils, .nils, .int .i64 0, .int .i64 0, .int .i64 0, .int .i64 0, .int .i64 0, .int .i64 0, .int .i64 0, .int .i64 0] 22 ?_
    refine zLI ?_
    refine zst (.agg [.int _ _, .int _ _, .int _ _, .int _ _, .int _ _, .int _ _, .int _ _, .int _ _, .int _ _, .int _ _, .int _ _, .int _ _, _, _, .int _ _, .int _ _, .int _ _, .int _ _, .int _ _, .int _ _, .int _ _, .int _ _]) [_, _, _, _, _, _, _, _, _, _, _, _, _, _, _, _, _, _, _, _, _, _] [[_, _, _, _, _, _, _, _, _, _, _, _, _, _, _, _, _, _, _, _, _, _]] ?_
    refine zn ?_
    refine zs ?_
    refine zR ?_
    refine zLG [.int _ _, .int _ _, .int _ _, .int _ _, .int _ _, .int _ _, .int _ _, .int _ _, .int _ _, .int _ _, .int _ _, .int _ _, _, _, .int _ _, .int _ _, .int _ _, .int _ _, .int _ _, .int _ _, .int _ _, .int _ _] ?_
    refine zLI ?_
    refine zLI ?_
    refine zLA ?_
    refine zLc ((show Ok Try.prog 51 [.agg (opC (m.Ops.getD ((k : Nat) : Int).toNat default)), .int .i64 (IntKind.i64.wrap ((k : Int) + 1)), .ro (l.map shapeC)] _ from by rw [hkl]; exact ref08_one (m.Ops.getD k default) l (lens_wf hm k))) ?_
    refine zLT [_, _] ?_
    refine zLG [.int _ _, .int _ _, .int _ _] ?_
    refine zLI ?_
    refine zal [.int .i64 0, .int .i64 0, .int .i64 0] 3 ?_
    refine zst (.agg [.int _ _, .int _ _, .int _ _]) [_, _, _] [[_, _, _]] ?_
    refine zLI ?_
    refine zn ?_
    refine zs ?_
    refine zs ?_
    refine zR ?_
    refine zLI ?_
    refine zLB ?_
    refine zn ?_
    refine W_cond (b := _) rfl (fun h72 => ?_) (fun h72 => ?_)
    · refine zs ?_
      refine zR ?_
      refine zLI ?_
      refine zLI ?_
      refine zLI ?_
      refine zLG [.int _ _, .int _ _, .int _ _] ?_
      refine zLN ?_
      refine zLI ?_
      refine zst (.agg [.int _ _, .int _ _, .int _ _]) [_, _, _] [[_, _, _]] ?_
      refine zn ?_
      refine zt ?_
      (refine ends (l := [.nils, .int _ _, .agg [.int _ _, .int _ _, .int _ _]]) (q := .tup [.ro _, .int _ _, .agg [.int _ _, .int _ _, .int _ _]]) (.inr rfl) rfl ⟨trivial, trivial, rfl, trivial⟩ rfl rfl ?_)
      have hne : (opE (m.Ops.getD k default) l != 0) = true := h72
      have hq : (opE (m.Ops.getD k default) l == 0) = false := by simpa [bne] using hne
      have hw1 : werr (m.Ops.getD k default) l s = opE (m.Ops.getD k default) l := werr_ok (by unfold wbig; rw [hq]; rfl)
      rw [hw, wgo_bad hlt hw1 hne]; rfl
    · have hz : opE (m.Ops.getD k default) l = 0 := by simpa using h72
      have hlab := lab_eq hz
      obtain ⟨a0, a1, _⟩ := op2_ok (opE_ok hz).2.1
      refine zk ?_
      refine zs ?_
      refine W_draw 11 Tb_mixed rfl (by decide) (by kernel_rfl) (by kernel_rfl) ?_
      refine zEI ?_
      refine zEG [.int _ _, .int _ _, .int _ _, .int _ _, .int _ _, .int _ _, .int _ _, .int _ _, .int _ _, .int _ _, .int _ _, .int _ _, _, _, .int _ _, .int _ _, .int _ _, .int _ _, .int _ _, .int _ _, .int _ _, .int _ _] ?_
      refine zEA ?_
      refine zEP ?_
      refine zEI ?_
      (refine E_v Tb_ok (v := _) (ave_index_app rfl rfl rfl (fun _ => rfl) rfl (by first | exact a0 | exact a1 | (rw [List.length_map]; exact a1)) (by first | exact a0 | exact a1 | (rw [List.length_map]; exact a1)) trivial) rfl ?_)
      refine zEG [.int _ _, .int _ _, .int _ _] ?_
      refine zEG [.int _ _, .int _ _, .int _ _] ?_
      refine zEc (ref08_Labour (m.Ops.getD k default) (inA (m.Ops.getD k default) l) (opS (m.Ops.getD k default) l)) ?_
      refine zEI ?_
      refine zEI ?_
      refine LexE_nil ?_
      refine zn ?_
      refine zs ?_
      refine zs ?_
      refine zR ?_
      refine zLI ?_
      refine zLB ?_
      refine zn ?_
      refine W_cond (b := _) rfl (fun h88 => ?_) (fun h88 => ?_)
      · have hbig : werr (m.Ops.getD k default) l s = 86 := werr_big (by unfold wbig; rw [hz, ← hlab]; exact h88)
        refine zs ?_
        refine zR ?_
        refine zLI ?_
        refine zLI ?_
        refine zLG [.int _ _, .int _ _, .int _ _] ?_
        refine zLN ?_
        refine zLI ?_
        refine zst (.agg [.int _ _, .int _ _, .int _ _]) [_, _, _] [[_, _, _]] ?_
        refine zn ?_
        refine zt ?_
        (refine ends (l := [.nils, .int _ _, .agg [.int _ _, .int _ _, .int _ _]]) (q := .tup [.ro _, .int _ _, .agg [.int _ _, .int _ _, .int _ _]]) (.inr rfl) rfl ⟨trivial, trivial, rfl, trivial⟩ rfl rfl ?_)
        rw [hw, wgo_bad hlt hbig rfl]; rfl
      · have hgood : werr (m.Ops.getD k default) l s = 0 := by rw [werr_ok (by unfold wbig; rw [hz, ← hlab]; exact h88), hz]
        refine zk ?_
        refine zR ?_
        refine zLA ?_
        refine zLG [.int _ _, .int _ _, .int _ _] ?_
        refine L_build Tb_ok (t := 88) (len := 1) (el := 23) (sz := 3) (es := [[_, _, _]]) (z := [.int .i64 0, .int .i64 0, .int .i64 0]) rfl rfl rfl rfl rfl (by decide) trivial rfl rfl rfl rfl rfl ?_
        refine L_app1 Tb_ok (xs := l) (v := opS (m.Ops.getD k default) l) (el := 23) (sz := 3) rfl rfl rfl rfl rfl ⟨trivial, trivial⟩ (fun _ => ⟨rfl, rfl⟩) (by rw [show (Tb.at 23).bytes = 24 from rfl]; omega) rfl ?_
        refine zLA ?_
        refine zn ?_
        refine zR ?_
        refine zLI ?_
        refine zLI ?_
        refine zn ?_
        refine round_end ⟨k + 1, l ++ [opS (m.Ops.getD k default) l], w64 (s + opW (m.Ops.getD k default) l), hlt, by simp [hl], hmm, by rw [hw]; exact wgo_good hlt hgood (by rfl)⟩ (by dsimp only; omega) (le_fit ⟨rfl, rfl, rfl, congrArg (AV.int .i64) (congrArg (fun z => w64 (s + z)) hlab), rfl, rfl, congrArg _ (w_succ hlt (by omega)), trivial⟩ ⟨.inr rfl, .inr rfl, trivial⟩ ⟨.inr rfl, trivial⟩ rfl rfl rfl rfl rfl)
  · have hke : k = m.Ops.length := by simp at h59; omega
    refine W_exit ?_
    repeat (first | refine pass_then ?_ | refine pass_round ?_)
    refine blockQ_hit ?_
    refine zs ?_
    refine zR ?_
    refine zLA ?_
    refine zLI ?_
    refine zLG [.int _ _, .int _ _, .int _ _] ?_
    refine zLA ?_
    refine zLI ?_
    refine zst (.agg [.int _ _, .int _ _, .int _ _]) [_, _, _] [[_, _, _]] ?_
    refine zn ?_
    refine zt ?_
    (refine ends (l := [.app _ _, .int _ _, .agg [.int _ _, .int _ _, .int _ _]]) (q := .tup [.ro _, .int _ _, .agg [.int _ _, .int _ _, .int _ _]]) (.inr rfl) rfl ⟨trivial, trivial, rfl, trivial⟩ rfl rfl ?_)
    subst hke
    rw [hw, List.drop_length, wgo]; rfl
end Go.AM
end
section
open Go Go.AM Go.Proofs
set_option maxRecDepth 10000
set_option linter.unusedVariables false
set_option linter.unusedSimpArgs false
namespace Go.AM
/-- the reference's site -/
def rsiteC (s : Site) : List AV := opC s.Op ++ (shapeC s.In ++ shapeC s.Out)
def rfE (m : Model) (op ch : Int) : Int := if findE m op = 0 then if (bif decide (ch < 0) then true else decide (ch > (findS m op).Out.C)) then 3 else 0 else findE m op
def rfS (m : Model) (op ch : Int) : Site := if rfE m op ch = 0 then findS m op else site0
theorem ref10_Find (m : Model) (hm : m.Wf) (op ch : Int) : Ok Try.prog 18 [.agg (modelC m), .int .i64 op, .int .i64 ch] (.tup [.agg (rsiteC (rfS m op ch)), .int .i64 (rfE m op ch)]) := by
  cases h1 : fi1 m with
  | true =>
    have hc21 : ((wholeF m).2.2.Err != 0) = true := h1
    have e : findE m op = (wholeF m).2.2.Err := by simp [findE, h1]
    have n0 : (wholeF m).2.2.Err ≠ 0 := by simpa using hc21
    --@@1
    skip
    refine fn_ok Tb_ok (fn := Try.f18) Try.func18 rfl rfl (e := [(0, _), (1, _), (2, _)]) rfl (by decide) rfl ?_
    refine zs ?_
    refine zR ?_
    refine zbx [.int _ _, .int _ _, .int _ _, .int _ _, .int _ _, _, .int _ _] 7 ?_
    refine zal [.int .i64 0, .int .i64 0, .int .i64 0, .int .i64 0, .int .i64 0, .int .i64 0, .int .i64 0, .int .i64 0, .int .i64 0, .int .i64 0, .int .i64 0, .int .i64 0, .nils, .nils, .int .i64 0, .int .i64 0, .int .i64 0, .int .i64 0, .int .i64 0, .int .i64 0, .int .i64 0, .int .i64 0, .int .i64 0, .int .i64 0, .int .i64 0, .int .i64 0, .int .i64 0, .int .i64 0] 28 ?_
    refine zLI ?_
    refine zn ?_
    refine zs ?_
    refine zR ?_
    refine zLG [.int _ _, .int _ _, .int _ _, .int _ _, .int _ _, _, .int _ _] ?_
    refine zLc (ref08_Look m hm) ?_
    refine zLT [_, _, _] ?_
    refine zLO ?_
    refine zLI ?_
    refine zLG [.int _ _, .int _ _, .int _ _] ?_
    refine zal [.int .i64 0, .int .i64 0, .int .i64 0] 3 ?_
    refine zLO ?_
    refine zLI ?_
    refine zst (.agg [.int _ _, .int _ _, .int _ _]) [_, _, _] [[_, _, _]] ?_
    refine zn ?_
    refine zs ?_
    refine zs ?_
    refine zR ?_
    refine zLP ?_
    refine zLI ?_
    refine zLB ?_
    refine zn ?_
    refine W_cond_t (b := _) rfl (by exact hc21) ?_
    refine zs ?_
    refine W_drawF (fun e => [idOf (get e 6)]) 3 [[3, 4]] Tb_mixed rfl (by decide) (by kernel_rfl) ?_
    refine zSG [.int _ _, .int _ _, .int _ _, .int _ _, .int _ _, .int _ _, .int _ _, .int _ _, .int _ _, .int _ _, .int _ _, .int _ _, _, _, .int _ _, .int _ _, .int _ _, .int _ _, .int _ _, .int _ _, .int _ _, .int _ _, .int _ _, .int _ _, .int _ _, .int _ _, .int _ _, .int _ _] ?_
    refine zSP ?_
    refine zSI ?_
    refine S_nil ?_
    refine TT_one ?_
    refine TT_store Tb_ok (OSub_forget _ _) rfl (v := .agg [.int _ _, .int _ _, .int _ _, .int _ _, .int _ _, .int _ _, .int _ _, .int _ _, .int _ _, .int _ _, .int _ _, .int _ _, _, _, .int _ _, .int _ _, .int _ _, .int _ _, .int _ _, .int _ _, .int _ _, .int _ _, .int _ _, .int _ _, .int _ _, .int _ _, .int _ _, .int _ _]) (cs := [_, _, _, _, _, _, _, _, _, _, _, _, _, _, _, _, _, _, _, _, _, _, _, _, _, _, _, _]) (es' := [[_, _, _, _, _, _, _, _, _, _, _, _, _, _, _, _, _, _, _, _, _, _, _, _, _, _, _, _]]) rfl rfl rfl rfl rfl rfl rfl rfl rfl rfl rfl ⟨trivial, trivial⟩ (fun ht1 => ?_)
    refine TT_v Tb_ok ht1 rfl (v := .int _ _) (av rfl ⟨trivial, trivial⟩) rfl (fun ht2 => ?_)
    refine TT_nil ?_
    clear ht1 ht2
    refine zt ?_
    refine ends (l := [.agg [.int _ _, .int _ _, .int _ _, .int _ _, .int _ _, .int _ _, .int _ _, .int _ _, .int _ _, .int _ _, .int _ _, .int _ _, _, _, .int _ _, .int _ _, .int _ _, .int _ _, .int _ _, .int _ _, .int _ _, .int _ _, .int _ _, .int _ _, .int _ _, .int _ _, .int _ _, .int _ _], .int _ _]) (q := .tup [.agg [.int _ _, .int _ _, .int _ _, .int _ _, .int _ _, .int _ _, .int _ _, .int _ _, .int _ _, .int _ _, .int _ _, .int _ _, _, _, .int _ _, .int _ _, .int _ _, .int _ _, .int _ _, .int _ _, .int _ _, .int _ _, .int _ _, .int _ _, .int _ _, .int _ _, .int _ _, .int _ _], .int _ _]) (.inr rfl) rfl ⟨rfl, trivial, trivial⟩ rfl rfl ?_
    simp [rfE, rfS, e, n0, rsiteC, site0, opC, shapeC, demC]
  | false =>
  have hc21 : ((wholeF m).2.2.Err != 0) = false := h1
  cases h2 : fi2 m op with
  | true =>
    have hc33 : (bif decide (op < 1) then true else decide (op > ((m.Ops.map opC).length : Int))) = true := h2
    have e : findE m op = 3 := by simp [findE, h1, h2]
    --@@2
    skip
    refine fn_ok Tb_ok (fn := Try.f18) Try.func18 rfl rfl (e := [(0, _), (1, _), (2, _)]) rfl (by decide) rfl ?_
    refine zs ?_
    refine zR ?_
    refine zbx [.int _ _, .int _ _, .int _ _, .int _ _, .int _ _, _, .int _ _] 7 ?_
    refine zal [.int .i64 0, .int .i64 0, .int .i64 0, .int .i64 0, .int .i64 0, .int .i64 0, .int .i64 0, .int .i64 0, .int .i64 0, .int .i64 0, .int .i64 0, .int .i64 0, .nils, .nils, .int .i64 0, .int .i64 0, .int .i64 0, .int .i64 0, .int .i64 0, .int .i64 0, .int .i64 0, .int .i64 0, .int .i64 0, .int .i64 0, .int .i64 0, .int .i64 0, .int .i64 0, .int .i64 0] 28 ?_
    refine zLI ?_
    refine zn ?_
    refine zs ?_
    refine zR ?_
    refine zLG [.int _ _, .int _ _, .int _ _, .int _ _, .int _ _, _, .int _ _] ?_
    refine zLc (ref08_Look m hm) ?_
    refine zLT [_, _, _] ?_
    refine zLO ?_
    refine zLI ?_
    refine zLG [.int _ _, .int _ _, .int _ _] ?_
    refine zal [.int .i64 0, .int .i64 0, .int .i64 0] 3 ?_
    refine zLO ?_
    refine zLI ?_
    refine zst (.agg [.int _ _, .int _ _, .int _ _]) [_, _, _] [[_, _, _]] ?_
    refine zn ?_
    refine zs ?_
    refine zs ?_
    refine zR ?_
    refine zLP ?_
    refine zLI ?_
    refine zLB ?_
    refine zn ?_
    refine W_cond_f (b := _) rfl (by exact hc21) ?_
    refine zk ?_
    refine zs ?_
    refine zs ?_
    refine zR ?_
    refine zLI ?_
    refine zLB ?_
    refine zLB ?_
    refine zgLI ?_
    refine zgLP ?_
    refine zgLO ?_
    refine zgLI ?_
    refine zgLB ?_
    refine zpLB ?_
    refine zn ?_
    refine W_cond_t (b := _) rfl (by exact hc33) ?_
    refine zs ?_
    refine zR ?_
    refine zLG [.int _ _, .int _ _, .int _ _, .int _ _, .int _ _, .int _ _, .int _ _, .int _ _, .int _ _, .int _ _, .int _ _, .int _ _, _, _, .int _ _, .int _ _, .int _ _, .int _ _, .int _ _, .int _ _, .int _ _, .int _ _, .int _ _, .int _ _, .int _ _, .int _ _, .int _ _, .int _ _] ?_
    refine zst (.agg [.int _ _, .int _ _, .int _ _, .int _ _, .int _ _, .int _ _, .int _ _, .int _ _, .int _ _, .int _ _, .int _ _, .int _ _, _, _, .int _ _, .int _ _, .int _ _, .int _ _, .int _ _, .int _ _, .int _ _, .int _ _, .int _ _, .int _ _, .int _ _, .int _ _, .int _ _, .int _ _]) [_, _, _, _, _, _, _, _, _, _, _, _, _, _, _, _, _, _, _, _, _, _, _, _, _, _, _, _] [[_, _, _, _, _, _, _, _, _, _, _, _, _, _, _, _, _, _, _, _, _, _, _, _, _, _, _, _]] ?_
    refine zLI ?_
    refine zn ?_
    refine zt ?_
    refine ends (l := [.agg [.int _ _, .int _ _, .int _ _, .int _ _, .int _ _, .int _ _, .int _ _, .int _ _, .int _ _, .int _ _, .int _ _, .int _ _, _, _, .int _ _, .int _ _, .int _ _, .int _ _, .int _ _, .int _ _, .int _ _, .int _ _, .int _ _, .int _ _, .int _ _, .int _ _, .int _ _, .int _ _], .int _ _]) (q := .tup [.agg [.int _ _, .int _ _, .int _ _, .int _ _, .int _ _, .int _ _, .int _ _, .int _ _, .int _ _, .int _ _, .int _ _, .int _ _, _, _, .int _ _, .int _ _, .int _ _, .int _ _, .int _ _, .int _ _, .int _ _, .int _ _, .int _ _, .int _ _, .int _ _, .int _ _, .int _ _, .int _ _], .int _ _]) (.inr rfl) rfl ⟨rfl, trivial, trivial⟩ rfl rfl ?_
    simp [rfE, rfS, e, rsiteC, site0, opC, shapeC, demC]
  | false =>
  have hc33 : (bif decide (op < 1) then true else decide (op > ((m.Ops.map opC).length : Int))) = false := h2
  obtain ⟨o1, o2, o3, o4, o5, o6⟩ := fi_ok h1 h2
  have p1 : 0 ≤ IntKind.i64.wrap (op - 1) := by rw [o3]; omega
  have p2 : IntKind.i64.wrap (op - 1) < (m.Ops.length : Int) := by rw [o3]; omega
  have eo : m.Ops.getD (IntKind.i64.wrap (op - 1)).toNat default = opAt m op := by rw [o3]; rfl
  cases h3 : fi3 m op with
  | true =>
    have hc44 : (!inB (m.Ops.getD (IntKind.i64.wrap (op - 1)).toNat default).Kind 1 4) = true := by rw [eo]; exact h3
    have e : findE m op = 81 := by simp [findE, h1, h2, h3]
    --@@3
    skip
    refine fn_ok Tb_ok (fn := Try.f18) Try.func18 rfl rfl (e := [(0, _), (1, _), (2, _)]) rfl (by decide) rfl ?_
    refine zs ?_
    refine zR ?_
    refine zbx [.int _ _, .int _ _, .int _ _, .int _ _, .int _ _, _, .int _ _] 7 ?_
    refine zal [.int .i64 0, .int .i64 0, .int .i64 0, .int .i64 0, .int .i64 0, .int .i64 0, .int .i64 0, .int .i64 0, .int .i64 0, .int .i64 0, .int .i64 0, .int .i64 0, .nils, .nils, .int .i64 0, .int .i64 0, .int .i64 0, .int .i64 0, .int .i64 0, .int .i64 0, .int .i64 0, .int .i64 0, .int .i64 0, .int .i64 0, .int .i64 0, .int .i64 0, .int .i64 0, .int .i64 0] 28 ?_
    refine zLI ?_
    refine zn ?_
    refine zs ?_
    refine zR ?_
    refine zLG [.int _ _, .int _ _, .int _ _, .int _ _, .int _ _, _, .int _ _] ?_
    refine zLc (ref08_Look m hm) ?_
    refine zLT [_, _, _] ?_
    refine zLO ?_
    refine zLI ?_
    refine zLG [.int _ _, .int _ _, .int _ _] ?_
    refine zal [.int .i64 0, .int .i64 0, .int .i64 0] 3 ?_
    refine zLO ?_
    refine zLI ?_
    refine zst (.agg [.int _ _, .int _ _, .int _ _]) [_, _, _] [[_, _, _]] ?_
    refine zn ?_
    refine zs ?_
    refine zs ?_
    refine zR ?_
    refine zLP ?_
    refine zLI ?_
    refine zLB ?_
    refine zn ?_
    refine W_cond_f (b := _) rfl (by exact hc21) ?_
    refine zk ?_
    refine zs ?_
    refine zs ?_
    refine zR ?_
    refine zLI ?_
    refine zLB ?_
    refine zLB ?_
    refine zgLI ?_
    refine zgLP ?_
    refine zgLO ?_
    refine zgLI ?_
    refine zgLB ?_
    refine zpLB ?_
    refine zn ?_
    refine W_cond_f (b := _) rfl (by exact hc33) ?_
    refine zk ?_
    refine zs ?_
    refine zR ?_
    refine zLP ?_
    refine zLO ?_
    refine zLI ?_
    refine zLI ?_
    (refine L_v Tb_ok (v := _) (ave_index_ro rfl rfl rfl (fun _ => rfl) rfl (by first | exact p1 | exact p2) (by first | exact p1 | exact p2) trivial) rfl ?_)
    refine zLG [.int _ _, .int _ _, .int _ _, .int _ _, .int _ _, .int _ _, .int _ _, .int _ _, .int _ _, .int _ _, .int _ _, .int _ _, _, _, .int _ _, .int _ _, .int _ _, .int _ _, .int _ _, .int _ _, .int _ _, .int _ _] ?_
    refine zal [.int .i64 0, .int .i64 0, .int .i64 0, .int .i64 0, .int .i64 0, .int .i64 0, .int .i64 0, .int .i64 0, .int .i64 0, .int .i64 0, .int .i64 0, .int .i64 0, .nils, .nils, .int .i64 0, .int .i64 0, .int .i64 0, .int .i64 0, .int .i64 0, .int .i64 0, .int .i64 0, .int .i64 0] 22 ?_
    refine zst (.agg [.int _ _, .int _ _, .int _ _, .int _ _, .int _ _, .int _ _, .int _ _, .int _ _, .int _ _, .int _ _, .int _ _, .int _ _, _, _, .int _ _, .int _ _, .int _ _, .int _ _, .int _ _, .int _ _, .int _ _, .int _ _]) [_, _, _, _, _, _, _, _, _, _, _, _, _, _, _, _, _, _, _, _, _, _] [[_, _, _, _, _, _, _, _, _, _, _, _, _, _, _, _, _, _, _, _, _, _]] ?_
    refine zn ?_
    refine zs ?_
    refine zs ?_
    refine zR ?_
    refine zLP ?_
    refine zLI ?_
    refine zLc (ref08_Reduces _) ?_
    refine zLB ?_
    refine zn ?_
    refine W_cond_t (b := _) rfl (by exact hc44) ?_
    refine zs ?_
    refine zR ?_
    refine zLG [.int _ _, .int _ _, .int _ _, .int _ _, .int _ _, .int _ _, .int _ _, .int _ _, .int _ _, .int _ _, .int _ _, .int _ _, _, _, .int _ _, .int _ _, .int _ _, .int _ _, .int _ _, .int _ _, .int _ _, .int _ _, .int _ _, .int _ _, .int _ _, .int _ _, .int _ _, .int _ _] ?_
    refine zst (.agg [.int _ _, .int _ _, .int _ _, .int _ _, .int _ _, .int _ _, .int _ _, .int _ _, .int _ _, .int _ _, .int _ _, .int _ _, _, _, .int _ _, .int _ _, .int _ _, .int _ _, .int _ _, .int _ _, .int _ _, .int _ _, .int _ _, .int _ _, .int _ _, .int _ _, .int _ _, .int _ _]) [_, _, _, _, _, _, _, _, _, _, _, _, _, _, _, _, _, _, _, _, _, _, _, _, _, _, _, _] [[_, _, _, _, _, _, _, _, _, _, _, _, _, _, _, _, _, _, _, _, _, _, _, _, _, _, _, _]] ?_
    refine zLI ?_
    refine zn ?_
    refine zt ?_
    refine ends (l := [.agg [.int _ _, .int _ _, .int _ _, .int _ _, .int _ _, .int _ _, .int _ _, .int _ _, .int _ _, .int _ _, .int _ _, .int _ _, _, _, .int _ _, .int _ _, .int _ _, .int _ _, .int _ _, .int _ _, .int _ _, .int _ _, .int _ _, .int _ _, .int _ _, .int _ _, .int _ _, .int _ _], .int _ _]) (q := .tup [.agg [.int _ _, .int _ _, .int _ _, .int _ _, .int _ _, .int _ _, .int _ _, .int _ _, .int _ _, .int _ _, .int _ _, .int _ _, _, _, .int _ _, .int _ _, .int _ _, .int _ _, .int _ _, .int _ _, .int _ _, .int _ _, .int _ _, .int _ _, .int _ _, .int _ _, .int _ _, .int _ _], .int _ _]) (.inr rfl) rfl ⟨rfl, trivial, trivial⟩ rfl rfl ?_
    simp [rfE, rfS, e, rsiteC, site0, opC, shapeC, demC]
  | false =>
  have hc44 : (!inB (m.Ops.getD (IntKind.i64.wrap (op - 1)).toNat default).Kind 1 4) = false := by rw [eo]; exact h3
  have e : findE m op = 0 := by simp [findE, h1, h2, h3]
  have eS : findS m op = ⟨opAt m op, aAt m op, (wholeF m).1.getD op.toNat default, lenAt m op⟩ := by simp [findS, h1, h2, h3]
  have q1 : 0 ≤ (m.Ops.getD (IntKind.i64.wrap (op - 1)).toNat default).A := by rw [eo]; exact o5
  have q2 : (m.Ops.getD (IntKind.i64.wrap (op - 1)).toNat default).A < ((wholeF m).1.length : Int) := by rw [eo]; exact o6
  have q3 : 0 ≤ op := by omega
  --@@4
  skip
  refine fn_ok Tb_ok (fn := Try.f18) Try.func18 rfl rfl (e := [(0, _), (1, _), (2, _)]) rfl (by decide) rfl ?_
  refine zs ?_
  refine zR ?_
  refine zbx [.int _ _, .int _ _, .int _ _, .int _ _, .int _ _, _, .int _ _] 7 ?_
  refine zal [.int .i64 0, .int .i64 0, .int .i64 0, .int .i64 0, .int .i64 0, .int .i64 0, .int .i64 0, .int .i64 0, .int .i64 0, .int .i64 0, .int .i64 0, .int .i64 0, .nils, .nils, .int .i64 0, .int .i64 0, .int .i64 0, .int .i64 0, .int .i64 0, .int .i64 0, .int .i64 0, .int .i64 0, .int .i64 0, .int .i64 0, .int .i64 0, .int .i64 0, .int .i64 0, .int .i64 0] 28 ?_
  refine zLI ?_
  refine zn ?_
  refine zs ?_
  refine zR ?_
  refine zLG [.int _ _, .int _ _, .int _ _, .int _ _, .int _ _, _, .int _ _] ?_
  refine zLc (ref08_Look m hm) ?_
  refine zLT [_, _, _] ?_
  refine zLO ?_
  refine zLI ?_
  refine zLG [.int _ _, .int _ _, .int _ _] ?_
  refine zal [.int .i64 0, .int .i64 0, .int .i64 0] 3 ?_
  refine zLO ?_
  refine zLI ?_
  refine zst (.agg [.int _ _, .int _ _, .int _ _]) [_, _, _] [[_, _, _]] ?_
  refine zn ?_
  refine zs ?_
  refine zs ?_
  refine zR ?_
  refine zLP ?_
  refine zLI ?_
  refine zLB ?_
  refine zn ?_
  refine W_cond_f (b := _) rfl (by exact hc21) ?_
  refine zk ?_
  refine zs ?_
  refine zs ?_
  refine zR ?_
  refine zLI ?_
  refine zLB ?_
  refine zLB ?_
  refine zgLI ?_
  refine zgLP ?_
  refine zgLO ?_
  refine zgLI ?_
  refine zgLB ?_
  refine zpLB ?_
  refine zn ?_
  refine W_cond_f (b := _) rfl (by exact hc33) ?_
  refine zk ?_
  refine zs ?_
  refine zR ?_
  refine zLP ?_
  refine zLO ?_
  refine zLI ?_
  refine zLI ?_
  (refine L_v Tb_ok (v := _) (ave_index_ro rfl rfl rfl (fun _ => rfl) rfl (by first | exact p1 | exact p2) (by first | exact p1 | exact p2) trivial) rfl ?_)
  refine zLG [.int _ _, .int _ _, .int _ _, .int _ _, .int _ _, .int _ _, .int _ _, .int _ _, .int _ _, .int _ _, .int _ _, .int _ _, _, _, .int _ _, .int _ _, .int _ _, .int _ _, .int _ _, .int _ _, .int _ _, .int _ _] ?_
  refine zal [.int .i64 0, .int .i64 0, .int .i64 0, .int .i64 0, .int .i64 0, .int .i64 0, .int .i64 0, .int .i64 0, .int .i64 0, .int .i64 0, .int .i64 0, .int .i64 0, .nils, .nils, .int .i64 0, .int .i64 0, .int .i64 0, .int .i64 0, .int .i64 0, .int .i64 0, .int .i64 0, .int .i64 0] 22 ?_
  refine zst (.agg [.int _ _, .int _ _, .int _ _, .int _ _, .int _ _, .int _ _, .int _ _, .int _ _, .int _ _, .int _ _, .int _ _, .int _ _, _, _, .int _ _, .int _ _, .int _ _, .int _ _, .int _ _, .int _ _, .int _ _, .int _ _]) [_, _, _, _, _, _, _, _, _, _, _, _, _, _, _, _, _, _, _, _, _, _] [[_, _, _, _, _, _, _, _, _, _, _, _, _, _, _, _, _, _, _, _, _, _]] ?_
  refine zn ?_
  refine zs ?_
  refine zs ?_
  refine zR ?_
  refine zLP ?_
  refine zLI ?_
  refine zLc (ref08_Reduces _) ?_
  refine zLB ?_
  refine zn ?_
  refine W_cond_f (b := _) rfl (by exact hc44) ?_
  refine zk ?_
  refine zs ?_
  refine W_drawF (fun e => []) 11 [[11, 12]] Tb_mixed rfl (by decide) (by kernel_rfl) ?_
  refine zSG [.int _ _, .int _ _, .int _ _, .int _ _, .int _ _, .int _ _, .int _ _, .int _ _, .int _ _, .int _ _, .int _ _, .int _ _, _, _, .int _ _, .int _ _, .int _ _, .int _ _, .int _ _, .int _ _, .int _ _, .int _ _] ?_
  refine zSO ?_
  refine zSP ?_
  refine zSI ?_
  (refine S_v Tb_ok (v := _) (ave_index_ro rfl rfl rfl (fun _ => rfl) rfl (by first | exact q1 | exact q2) (by first | exact q1 | exact q2) trivial) rfl ?_)
  refine zSG [.int _ _, .int _ _, .int _ _] ?_
  refine zSO ?_
  refine zSI ?_
  (refine S_v Tb_ok (v := _) (ave_index_ro rfl rfl rfl (fun _ => rfl) rfl (by first | exact q3 | exact o4) (by first | exact q3 | exact o4) trivial) rfl ?_)
  refine zSG [.int _ _, .int _ _, .int _ _] ?_
  refine zSG [.int _ _, .int _ _, .int _ _, .int _ _, .int _ _, .int _ _, .int _ _, .int _ _, .int _ _, .int _ _, .int _ _, .int _ _, _, _, .int _ _, .int _ _, .int _ _, .int _ _, .int _ _, .int _ _, .int _ _, .int _ _, .int _ _, .int _ _, .int _ _, .int _ _, .int _ _, .int _ _] ?_
  refine S_nil ?_
  refine TT_one ?_
  refine TT_alloc Tb_ok (OSub_forget _ _) rfl (z := [.int .i64 0, .int .i64 0, .int .i64 0, .int .i64 0, .int .i64 0, .int .i64 0, .int .i64 0, .int .i64 0, .int .i64 0, .int .i64 0, .int .i64 0, .int .i64 0, .nils, .nils, .int .i64 0, .int .i64 0, .int .i64 0, .int .i64 0, .int .i64 0, .int .i64 0, .int .i64 0, .int .i64 0, .int .i64 0, .int .i64 0, .int .i64 0, .int .i64 0, .int .i64 0, .int .i64 0]) (n := 28) rfl rfl rfl rfl rfl rfl (fun ht1 => ?_)
  refine TT_store Tb_ok ht1 rfl (v := .agg [.int _ _, .int _ _, .int _ _, .int _ _, .int _ _, .int _ _, .int _ _, .int _ _, .int _ _, .int _ _, .int _ _, .int _ _, _, _, .int _ _, .int _ _, .int _ _, .int _ _, .int _ _, .int _ _, .int _ _, .int _ _, .int _ _, .int _ _, .int _ _, .int _ _, .int _ _, .int _ _]) (cs := [_, _, _, _, _, _, _, _, _, _, _, _, _, _, _, _, _, _, _, _, _, _, _, _, _, _, _, _]) (es' := [[_, _, _, _, _, _, _, _, _, _, _, _, _, _, _, _, _, _, _, _, _, _, _, _, _, _, _, _]]) rfl rfl rfl rfl rfl rfl rfl rfl rfl rfl rfl ⟨trivial, trivial⟩ (fun ht2 => ?_)
  refine TT_nil ?_
  clear ht1 ht2
  refine zs ?_
  refine zs ?_
  refine zR ?_
  refine zLI ?_
  refine zLB ?_
  refine zLB ?_
  refine zgLI ?_
  refine zgLP ?_
  refine zgLP ?_
  refine zgLI ?_
  refine zgLB ?_
  refine zpLB ?_
  refine zn ?_
  refine W_cond (b := _) rfl (fun h65 => ?_) (fun h65 => ?_)
  · have hb : (bif decide (ch < 0) then true else decide (ch > (findS m op).Out.C)) = true := by rw [eS]; exact h65
    refine zs ?_
    refine zR ?_
    refine zLG [.int _ _, .int _ _, .int _ _, .int _ _, .int _ _, .int _ _, .int _ _, .int _ _, .int _ _, .int _ _, .int _ _, .int _ _, _, _, .int _ _, .int _ _, .int _ _, .int _ _, .int _ _, .int _ _, .int _ _, .int _ _, .int _ _, .int _ _, .int _ _, .int _ _, .int _ _, .int _ _] ?_
    refine zst (.agg [.int _ _, .int _ _, .int _ _, .int _ _, .int _ _, .int _ _, .int _ _, .int _ _, .int _ _, .int _ _, .int _ _, .int _ _, _, _, .int _ _, .int _ _, .int _ _, .int _ _, .int _ _, .int _ _, .int _ _, .int _ _, .int _ _, .int _ _, .int _ _, .int _ _, .int _ _, .int _ _]) [_, _, _, _, _, _, _, _, _, _, _, _, _, _, _, _, _, _, _, _, _, _, _, _, _, _, _, _] [[_, _, _, _, _, _, _, _, _, _, _, _, _, _, _, _, _, _, _, _, _, _, _, _, _, _, _, _]] ?_
    refine zLI ?_
    refine zn ?_
    refine zt ?_
    refine ends (l := [.agg [.int _ _, .int _ _, .int _ _, .int _ _, .int _ _, .int _ _, .int _ _, .int _ _, .int _ _, .int _ _, .int _ _, .int _ _, _, _, .int _ _, .int _ _, .int _ _, .int _ _, .int _ _, .int _ _, .int _ _, .int _ _, .int _ _, .int _ _, .int _ _, .int _ _, .int _ _, .int _ _], .int _ _]) (q := .tup [.agg [.int _ _, .int _ _, .int _ _, .int _ _, .int _ _, .int _ _, .int _ _, .int _ _, .int _ _, .int _ _, .int _ _, .int _ _, _, _, .int _ _, .int _ _, .int _ _, .int _ _, .int _ _, .int _ _, .int _ _, .int _ _, .int _ _, .int _ _, .int _ _, .int _ _, .int _ _, .int _ _], .int _ _]) (.inr rfl) rfl ⟨rfl, trivial, trivial⟩ rfl rfl ?_
    have r : rfE m op ch = 3 := by simp only [rfE, e, hb, if_true]
    simp [rfS, r, rsiteC, site0, opC, shapeC, demC]
  · have hb : (bif decide (ch < 0) then true else decide (ch > (findS m op).Out.C)) = false := by rw [eS]; exact h65
    refine zk ?_
    refine zs ?_
    refine zR ?_
    refine zLG [.int _ _, .int _ _, .int _ _, .int _ _, .int _ _, .int _ _, .int _ _, .int _ _, .int _ _, .int _ _, .int _ _, .int _ _, _, _, .int _ _, .int _ _, .int _ _, .int _ _, .int _ _, .int _ _, .int _ _, .int _ _, .int _ _, .int _ _, .int _ _, .int _ _, .int _ _, .int _ _] ?_
    refine zst (.agg [.int _ _, .int _ _, .int _ _, .int _ _, .int _ _, .int _ _, .int _ _, .int _ _, .int _ _, .int _ _, .int _ _, .int _ _, _, _, .int _ _, .int _ _, .int _ _, .int _ _, .int _ _, .int _ _, .int _ _, .int _ _, .int _ _, .int _ _, .int _ _, .int _ _, .int _ _, .int _ _]) [_, _, _, _, _, _, _, _, _, _, _, _, _, _, _, _, _, _, _, _, _, _, _, _, _, _, _, _] [[_, _, _, _, _, _, _, _, _, _, _, _, _, _, _, _, _, _, _, _, _, _, _, _, _, _, _, _]] ?_
    refine zLI ?_
    refine zn ?_
    refine zt ?_
    refine ends (l := [.agg [.int _ _, .int _ _, .int _ _, .int _ _, .int _ _, .int _ _, .int _ _, .int _ _, .int _ _, .int _ _, .int _ _, .int _ _, _, _, .int _ _, .int _ _, .int _ _, .int _ _, .int _ _, .int _ _, .int _ _, .int _ _, .int _ _, .int _ _, .int _ _, .int _ _, .int _ _, .int _ _], .int _ _]) (q := .tup [.agg [.int _ _, .int _ _, .int _ _, .int _ _, .int _ _, .int _ _, .int _ _, .int _ _, .int _ _, .int _ _, .int _ _, .int _ _, _, _, .int _ _, .int _ _, .int _ _, .int _ _, .int _ _, .int _ _, .int _ _, .int _ _, .int _ _, .int _ _, .int _ _, .int _ _, .int _ _, .int _ _], .int _ _]) (.inr rfl) rfl ⟨rfl, trivial, trivial⟩ rfl rfl ?_
    have r : rfE m op ch = 0 := by simp [rfE, e, hb]
    have eS2 : findS m op = ⟨m.Ops.getD (IntKind.i64.wrap (op - 1)).toNat default, (wholeF m).1.getD (m.Ops.getD (IntKind.i64.wrap (op - 1)).toNat default).A.toNat default, (wholeF m).1.getD op.toNat default, lenAt m op⟩ := by rw [eS, eo]; rfl
    simp only [rfS, r, if_true, eS2]; rfl
def rcE (m : Model) (op ch : Int) : Int := if (rfE m op ch == 0 && ch == 0) then 3 else rfE m op ch
def rcS (m : Model) (op ch : Int) : Site := if (rfE m op ch == 0 && ch == 0) then site0 else rfS m op ch
theorem ref10_FindChan (m : Model) (hm : m.Wf) (op ch : Int) : Ok Try.prog 12 [.agg (modelC m), .int .i64 op, .int .i64 ch] (.tup [.agg (rsiteC (rcS m op ch)), .int .i64 (rcE m op ch)]) := by
  refine fn_ok Tb_ok (fn := Try.f12) Try.func12 rfl rfl (e := [(0, _), (1, _), (2, _)]) rfl (by decide) rfl ?_
  refine zs ?_
  refine zR ?_
  refine zbx [.int _ _, .int _ _, .int _ _, .int _ _, .int _ _, _, .int _ _] 7 ?_
  refine zal [.int .i64 0, .int .i64 0, .int .i64 0, .int .i64 0, .int .i64 0, .int .i64 0, .int .i64 0, .int .i64 0, .int .i64 0, .int .i64 0, .int .i64 0, .int .i64 0, .nils, .nils, .int .i64 0, .int .i64 0, .int .i64 0, .int .i64 0, .int .i64 0, .int .i64 0, .int .i64 0, .int .i64 0, .int .i64 0, .int .i64 0, .int .i64 0, .int .i64 0, .int .i64 0, .int .i64 0] 28 ?_
  refine zLI ?_
  refine zn ?_
  refine zs ?_
  refine zR ?_
  refine zLG [.int _ _, .int _ _, .int _ _, .int _ _, .int _ _, _, .int _ _] ?_
  refine zLI ?_
  refine zLI ?_
  refine zLc (ref10_Find m hm op ch) ?_
  refine zLT [_, _] ?_
  refine zLG [.int _ _, .int _ _, .int _ _, .int _ _, .int _ _, .int _ _, .int _ _, .int _ _, .int _ _, .int _ _, .int _ _, .int _ _, _, _, .int _ _, .int _ _, .int _ _, .int _ _, .int _ _, .int _ _, .int _ _, .int _ _, .int _ _, .int _ _, .int _ _, .int _ _, .int _ _, .int _ _] ?_
  refine zLI ?_
  refine zal [.int .i64 0, .int .i64 0, .int .i64 0, .int .i64 0, .int .i64 0, .int .i64 0, .int .i64 0, .int .i64 0, .int .i64 0, .int .i64 0, .int .i64 0, .int .i64 0, .nils, .nils, .int .i64 0, .int .i64 0, .int .i64 0, .int .i64 0, .int .i64 0, .int .i64 0, .int .i64 0, .int .i64 0, .int .i64 0, .int .i64 0, .int .i64 0, .int .i64 0, .int .i64 0, .int .i64 0] 28 ?_
  refine zst (.agg [.int _ _, .int _ _, .int _ _, .int _ _, .int _ _, .int _ _, .int _ _, .int _ _, .int _ _, .int _ _, .int _ _, .int _ _, _, _, .int _ _, .int _ _, .int _ _, .int _ _, .int _ _, .int _ _, .int _ _, .int _ _, .int _ _, .int _ _, .int _ _, .int _ _, .int _ _, .int _ _]) [_, _, _, _, _, _, _, _, _, _, _, _, _, _, _, _, _, _, _, _, _, _, _, _, _, _, _, _] [[_, _, _, _, _, _, _, _, _, _, _, _, _, _, _, _, _, _, _, _, _, _, _, _, _, _, _, _]] ?_
  refine zLI ?_
  refine zn ?_
  refine zs ?_
  refine zs ?_
  refine zR ?_
  refine zLI ?_
  refine zLB ?_
  refine zLB ?_
  refine zgLI ?_
  refine zgLB ?_
  refine zpLB ?_
  refine zn ?_
  refine W_cond (b := _) rfl (fun h22 => ?_) (fun h22 => ?_)
  · have hb : (rfE m op ch == 0 && ch == 0) = true := by rw [← cond_x]; exact h22
    refine zs ?_
    refine zR ?_
    refine zLG [.int _ _, .int _ _, .int _ _, .int _ _, .int _ _, .int _ _, .int _ _, .int _ _, .int _ _, .int _ _, .int _ _, .int _ _, _, _, .int _ _, .int _ _, .int _ _, .int _ _, .int _ _, .int _ _, .int _ _, .int _ _, .int _ _, .int _ _, .int _ _, .int _ _, .int _ _, .int _ _] ?_
    refine zst (.agg [.int _ _, .int _ _, .int _ _, .int _ _, .int _ _, .int _ _, .int _ _, .int _ _, .int _ _, .int _ _, .int _ _, .int _ _, _, _, .int _ _, .int _ _, .int _ _, .int _ _, .int _ _, .int _ _, .int _ _, .int _ _, .int _ _, .int _ _, .int _ _, .int _ _, .int _ _, .int _ _]) [_, _, _, _, _, _, _, _, _, _, _, _, _, _, _, _, _, _, _, _, _, _, _, _, _, _, _, _] [[_, _, _, _, _, _, _, _, _, _, _, _, _, _, _, _, _, _, _, _, _, _, _, _, _, _, _, _]] ?_
    refine zLI ?_
    refine zn ?_
    refine zt ?_
    refine ends (l := [.agg [.int _ _, .int _ _, .int _ _, .int _ _, .int _ _, .int _ _, .int _ _, .int _ _, .int _ _, .int _ _, .int _ _, .int _ _, _, _, .int _ _, .int _ _, .int _ _, .int _ _, .int _ _, .int _ _, .int _ _, .int _ _, .int _ _, .int _ _, .int _ _, .int _ _, .int _ _, .int _ _], .int _ _]) (q := .tup [.agg [.int _ _, .int _ _, .int _ _, .int _ _, .int _ _, .int _ _, .int _ _, .int _ _, .int _ _, .int _ _, .int _ _, .int _ _, _, _, .int _ _, .int _ _, .int _ _, .int _ _, .int _ _, .int _ _, .int _ _, .int _ _, .int _ _, .int _ _, .int _ _, .int _ _, .int _ _, .int _ _], .int _ _]) (.inr rfl) rfl ⟨rfl, trivial, trivial⟩ rfl rfl ?_
    simp only [rcE, rcS, hb, if_true]; rfl
  · have hb : (rfE m op ch == 0 && ch == 0) = false := by rw [← cond_x]; exact h22
    refine zk ?_
    refine zs ?_
    refine zR ?_
    refine zLG [.int _ _, .int _ _, .int _ _, .int _ _, .int _ _, .int _ _, .int _ _, .int _ _, .int _ _, .int _ _, .int _ _, .int _ _, _, _, .int _ _, .int _ _, .int _ _, .int _ _, .int _ _, .int _ _, .int _ _, .int _ _, .int _ _, .int _ _, .int _ _, .int _ _, .int _ _, .int _ _] ?_
    refine zLI ?_
    refine zst (.agg [.int _ _, .int _ _, .int _ _, .int _ _, .int _ _, .int _ _, .int _ _, .int _ _, .int _ _, .int _ _, .int _ _, .int _ _, _, _, .int _ _, .int _ _, .int _ _, .int _ _, .int _ _, .int _ _, .int _ _, .int _ _, .int _ _, .int _ _, .int _ _, .int _ _, .int _ _, .int _ _]) [_, _, _, _, _, _, _, _, _, _, _, _, _, _, _, _, _, _, _, _, _, _, _, _, _, _, _, _] [[_, _, _, _, _, _, _, _, _, _, _, _, _, _, _, _, _, _, _, _, _, _, _, _, _, _, _, _]] ?_
    refine zLI ?_
    refine zn ?_
    refine zt ?_
    refine ends (l := [.agg [.int _ _, .int _ _, .int _ _, .int _ _, .int _ _, .int _ _, .int _ _, .int _ _, .int _ _, .int _ _, .int _ _, .int _ _, _, _, .int _ _, .int _ _, .int _ _, .int _ _, .int _ _, .int _ _, .int _ _, .int _ _, .int _ _, .int _ _, .int _ _, .int _ _, .int _ _, .int _ _], .int _ _]) (q := .tup [.agg [.int _ _, .int _ _, .int _ _, .int _ _, .int _ _, .int _ _, .int _ _, .int _ _, .int _ _, .int _ _, .int _ _, .int _ _, _, _, .int _ _, .int _ _, .int _ _, .int _ _, .int _ _, .int _ _, .int _ _, .int _ _, .int _ _, .int _ _, .int _ _, .int _ _, .int _ _, .int _ _], .int _ _]) (.inr rfl) rfl ⟨rfl, trivial, trivial⟩ rfl rfl ?_
    simp only [rcE, rcS, hb, Bool.false_eq_true, if_false]; rfl
theorem ref10_Positions (s : Site) : Ok Try.prog 13 [.agg (rsiteC s)] (.int .i64 (w64 (s.Out.H * s.Out.W))) := by
  refine fn_ok Tb_ok (fn := Try.f13) Try.func13 rfl rfl (e := [(0, _)]) rfl (by decide) rfl ?_
  refine zs ?_
  refine zR ?_
  refine zbx [.int _ _, .int _ _, .int _ _, .int _ _, .int _ _, .int _ _, .int _ _, .int _ _, .int _ _, .int _ _, .int _ _, .int _ _, _, _, .int _ _, .int _ _, .int _ _, .int _ _, .int _ _, .int _ _, .int _ _, .int _ _, .int _ _, .int _ _, .int _ _, .int _ _, .int _ _, .int _ _] 28 ?_
  refine zLI ?_
  refine zn ?_
  refine zs ?_
  refine zR ?_
  refine zLP ?_
  refine zLP ?_
  refine zLI ?_
  refine zLP ?_
  refine zLP ?_
  refine zLI ?_
  refine zLI ?_
  refine zLI ?_
  refine zn ?_
  refine zt ?_
  refine ends (l := [.int _ _]) (q := .int _ _) (.inr rfl) rfl ⟨trivial, trivial⟩ rfl rfl ?_
  rfl
theorem ref10_Length (s : Site) : Ok Try.prog 22 [.agg (rsiteC s)] (.int .i64 (lenF s.Op s.In)) := by
  refine fn_ok Tb_ok (fn := Try.f22) Try.func22 rfl rfl (e := [(0, _)]) rfl (by decide) rfl ?_
  refine zs ?_
  refine zR ?_
  refine zbx [.int _ _, .int _ _, .int _ _, .int _ _, .int _ _, .int _ _, .int _ _, .int _ _, .int _ _, .int _ _, .int _ _, .int _ _, _, _, .int _ _, .int _ _, .int _ _, .int _ _, .int _ _, .int _ _, .int _ _, .int _ _, .int _ _, .int _ _, .int _ _, .int _ _, .int _ _, .int _ _] 28 ?_
  refine zLI ?_
  refine zn ?_
  refine zs ?_
  refine zR ?_
  refine zLP ?_
  refine zLG [.int _ _, .int _ _, .int _ _, .int _ _, .int _ _, .int _ _, .int _ _, .int _ _, .int _ _, .int _ _, .int _ _, .int _ _, _, _, .int _ _, .int _ _, .int _ _, .int _ _, .int _ _, .int _ _, .int _ _, .int _ _] ?_
  refine zLP ?_
  refine zLG [.int _ _, .int _ _, .int _ _] ?_
  refine zLc (ref08_Length s.Op s.In) ?_
  refine zLI ?_
  refine zn ?_
  refine zt ?_
  refine ends (l := [.int _ _]) (q := .int _ _) (.inr rfl) rfl ⟨trivial, trivial⟩ rfl rfl ?_
  rfl
theorem ref10_Bias (s : Site) (ch : Int) (h : s.Op.Kind ≠ 4 → 0 ≤ w64 (ch - 1) ∧ w64 (ch - 1) < s.Op.Bias.length) : Ok Try.prog 17 [.agg (rsiteC s), .int .i64 ch] (.int .i64 (if s.Op.Kind = 4 then 0 else w64 (s.Op.Bias.getD (w64 (ch - 1)).toNat default))) := by
  refine fn_ok Tb_ok (fn := Try.f17) Try.func17 rfl rfl (e := [(0, _), (1, _)]) rfl (by decide) rfl ?_
  refine zs ?_
  refine zR ?_
  refine zbx [.int _ _, .int _ _, .int _ _, .int _ _, .int _ _, .int _ _, .int _ _, .int _ _, .int _ _, .int _ _, .int _ _, .int _ _, _, _, .int _ _, .int _ _, .int _ _, .int _ _, .int _ _, .int _ _, .int _ _, .int _ _, .int _ _, .int _ _, .int _ _, .int _ _, .int _ _, .int _ _] 28 ?_
  refine zLI ?_
  refine zn ?_
  refine zs ?_
  refine zs ?_
  refine zR ?_
  refine zLP ?_
  refine zLP ?_
  refine zLI ?_
  refine zLB ?_
  refine zn ?_
  refine W_cond (b := _) rfl (fun h8 => ?_) (fun h8 => ?_)
  · refine zs ?_
    refine zR ?_
    refine zLI ?_
    refine zn ?_
    refine zt ?_
    refine ends (l := [.int _ _]) (q := .int _ _) (.inr rfl) rfl ⟨trivial, trivial⟩ rfl rfl ?_
    have hk : s.Op.Kind = 4 := by simpa using h8
    simp [hk]
  · have hk : s.Op.Kind ≠ 4 := by simpa using h8
    obtain ⟨b0, b1⟩ := h hk
    refine zk ?_
    refine zs ?_
    refine zR ?_
    refine zLP ?_
    refine zLP ?_
    refine zLO ?_
    refine zLI ?_
    refine zLI ?_
    (refine L_v Tb_ok (v := _) (ave_index_ro rfl rfl rfl (fun _ => rfl) rfl (by first | exact b0 | exact b1) (by first | exact b0 | exact b1) trivial) rfl ?_)
    refine zLI ?_
    refine zLI ?_
    refine zLI ?_
    refine zn ?_
    refine zt ?_
    refine ends (l := [.int _ _]) (q := .int _ _) (.inr rfl) rfl ⟨trivial, trivial⟩ rfl rfl ?_
    rw [if_neg hk]; rfl
theorem lenF_site {m : Model} {op : Int} (h : findE m op = 0) : lenF (findS m op).Op (findS m op).In = (findS m op).Len := by
  obtain ⟨hS, _, _, _, e⟩ := site_ok h
  have hk := hS.kind
  rw [e] at hk ⊢
  dsimp only at hk ⊢
  unfold lenF lenAt
  by_cases k1 : (opAt m op).Kind = 1
  · simp [k1]
  · have z1 : ((opAt m op).Kind == 1) = false := by simpa using k1
    by_cases k2 : (opAt m op).Kind = 2
    · simp [k2]
    · have z2 : ((opAt m op).Kind == 2) = false := by simpa using k2
      rw [z1, z2, if_neg k1, if_neg k2]; rfl
end Go.AM
end
section
open Go Go.AM Go.Proofs
set_option maxRecDepth 10000
set_option linter.unusedVariables false
set_option linter.unusedSimpArgs false
namespace Go.AM
def tapL (s : Shape) (w : Window) (top left : Int) : List Int := (List.range (tapN w)).map fun (k : Nat) => tapPlace s w top left k
theorem take_snoc {l : List Int} {k : Nat} {v : Int} (h : k < l.length) (hv : l.getD k 0 = v) : l.take k ++ [v] = l.take (k + 1) := by
  rw [List.take_add_one, ← hv]; simp [List.getD_eq_getElem?_getD, h]
theorem tapL_get {s : Shape} {w : Window} {top left : Int} {k : Nat} (h : k < tapN w) : (tapL s w top left).getD k 0 = tapPlace s w top left k := by
  simp [tapL, List.getD_eq_getElem?_getD, h]
theorem w64_addr (a b : Int) : w64 (a + w64 b) = w64 (a + b) := by obtain ⟨q, hq⟩ := w64_form b; rw [hq, ← Int.add_assoc]; exact w64_add _ _
theorem tap_yx {s : Shape} {w : Window} {top left : Int} {ky kx : Nat} (hW : 1 ≤ w.KW) (hs : shapeB s = true) (hkx : (kx : Int) < w.KW) :
    tapPlace s w top left ((ky * w.KW.toNat + kx : Nat) : Int) = bif (bif (bif (bif decide (w64 (top + ky) < 0) then true else decide (w64 (top + ky) ≥ s.H)) then true else decide (w64 (left + kx) < 0)) then true else decide (w64 (left + kx) ≥ s.W)) then -1 else w64 (w64 (w64 (top + ky) * s.W) + w64 (left + kx)) := by
  have B := shapeB_iff.1 hs
  have e0 : ((ky * w.KW.toNat + kx : Nat) : Int) = (kx : Int) + w.KW * ky := by
    have : ((w.KW.toNat : Nat) : Int) = w.KW := by omega
    rw [Int.natCast_add, Int.natCast_mul, this, Int.mul_comm]; omega
  have e1 : ((ky * w.KW.toNat + kx : Nat) : Int).tdiv w.KW = ky := by
    rw [Int.tdiv_eq_ediv_of_nonneg (by omega), e0, Int.add_mul_ediv_left _ _ (by omega), Int.ediv_eq_zero_of_lt (by omega) hkx]; omega
  have e2 : ((ky * w.KW.toNat + kx : Nat) : Int).tmod w.KW = kx := by
    rw [Int.tmod_eq_emod_of_nonneg (by omega), e0, Int.add_mul_emod_self_left, Int.emod_eq_of_lt (by omega) hkx]
  unfold tapPlace
  rw [e1, e2]
  simp only [w64_addr]
  rw [show w64 (s.H - 1) = s.H - 1 from w64_id (by omega), show w64 (s.W - 1) = s.W - 1 from w64_id (by omega)]
  generalize w64 (top + (ky : Int)) = y
  generalize w64 (left + (kx : Int)) = x
  unfold inB
  have d1 : decide (0 ≤ y) = !decide (y < 0) := by by_cases h : y < 0 <;> simp [h] <;> omega
  have d2 : decide (y ≤ s.H - 1) = !decide (y ≥ s.H) := by by_cases h : y ≥ s.H <;> simp [h] <;> omega
  have d3 : decide (0 ≤ x) = !decide (x < 0) := by by_cases h : x < 0 <;> simp [h] <;> omega
  have d4 : decide (x ≤ s.W - 1) = !decide (x ≥ s.W) := by by_cases h : x ≥ s.W <;> simp [h] <;> omega
  rw [d1, d2, d3, d4]
  cases decide (y < 0) <;> cases decide (y ≥ s.H) <;> cases decide (x < 0) <;> cases decide (x ≥ s.W) <;> rfl
theorem mul_lt_two {a b A B : Nat} (ha : a < A) (hb : b < B) : a * B + b < A * B := by
  have : (a + 1) * B ≤ A * B := Nat.mul_le_mul_right _ ha
  rw [Nat.add_mul, Nat.one_mul] at this; omega
theorem ref06_Taps (s : Shape) (w : Window) (at_ : Int) (hbad : tapsBad s w at_ = false) : Ok Try.prog 35 [.agg (shapeC s), .agg (windowC w), .int .i64 at_] (.ro ((tapL s w (tapsTop s w at_) (tapsLeft s w at_)).map intC)) := by
  have hE : outE s w = 0 := by
    unfold tapsBad at hbad
    cases hq : outE s w != 0 with
    | true => rw [hq] at hbad; simp at hbad
    | false => simpa using hq
  obtain ⟨hs, hw, _, _⟩ := outE_zero hE
  have W := windowB_iff hw
  have hne := taps_ne hbad
  have hKH : ((w.KH.toNat : Nat) : Int) = w.KH := by omega
  have hKW : ((w.KW.toNat : Nat) : Int) = w.KW := by omega
  have hN : tapN w = w.KH.toNat * w.KW.toNat := by
    unfold tapN
    have a0 := Int.mul_le_mul W.1.1 W.2.1.1 (by omega) (by omega)
    have a2 : w.KH * w.KW ≤ 32 * 32 := Int.mul_le_mul W.1.2 W.2.1.2 (by omega) (by omega)
    rw [show w64 (w.KH * w.KW) = w.KH * w.KW from w64_id (by omega), Int.toNat_mul (by omega) (by omega)]
  have hN2 : w.KH.toNat * w.KW.toNat ≤ 32 * 32 := Nat.mul_le_mul (by omega) (by omega)
  have hLl : (tapL s w (tapsTop s w at_) (tapsLeft s w at_)).length = w.KH.toNat * w.KW.toNat := by simp [tapL, hN]
  have hget : ∀ ky kx, ky < w.KH.toNat → kx < w.KW.toNat → (tapL s w (tapsTop s w at_) (tapsLeft s w at_)).getD (ky * w.KW.toNat + kx) 0 = tapPlace s w (tapsTop s w at_) (tapsLeft s w at_) ((ky * w.KW.toNat + kx : Nat) : Int) := fun ky kx h1 h2 => tapL_get (by rw [hN]; exact mul_lt_two h1 h2)
  generalize hL : tapL s w (tapsTop s w at_) (tapsLeft s w at_) = L at *
  refine fn_ok Tb_ok (fn := Try.f35) Try.func35 rfl rfl (e := [(0, _), (1, _), (2, _)]) rfl (by decide) rfl ?_
  refine zs ?_
  refine zR ?_
  refine zbx [.int _ _, .int _ _, .int _ _] 3 ?_
  refine zbx [.int _ _, .int _ _, .int _ _, .int _ _, .int _ _, .int _ _, .int _ _, .int _ _] 8 ?_
  refine zLN ?_
  refine zn ?_
  refine zs ?_
  refine zR ?_
  refine zLG [.int _ _, .int _ _, .int _ _] ?_
  refine zLG [.int _ _, .int _ _, .int _ _, .int _ _, .int _ _, .int _ _, .int _ _, .int _ _] ?_
  refine zLc (ref06_Out s w) ?_
  refine zLT [_, _, _] ?_
  refine zLI ?_
  refine zLI ?_
  refine zLI ?_
  refine zLI ?_
  refine zLI ?_
  refine zLI ?_
  refine zn ?_
  refine zs ?_
  refine W_draw 8 Tb_mixed rfl (by decide) (by kernel_rfl) (by kernel_rfl) ?_
  refine zEI ?_
  refine zEI ?_
  refine E_v Tb_ok (v := .int _ _) (av rfl ⟨trivial, (by exact hne)⟩) rfl ?_
  refine zEI ?_
  refine zEI ?_
  refine E_v Tb_ok (v := .int _ _) (av rfl ⟨trivial, (by exact hne)⟩) rfl ?_
  refine zEI ?_
  refine zEI ?_
  refine LexE_nil ?_
  refine zn ?_
  refine zs ?_
  refine zR ?_
  refine zLN ?_
  refine zn ?_
  refine zs ?_
  refine zs ?_
  refine zR ?_
  refine zLI ?_
  refine zn ?_
  refine W_block ?_
  refine W_nils (t := 12) 3 1 rfl rfl ?_
  refine W_for w.KH.toNat (fun ky => ⟨[(3, .ptr 0 0 0), (4, .ptr 1 0 0), (10, .int .i64 (w64 (at_.tdiv (outW s w)))), (11, .int .i64 (at_.tmod (outW s w))), (12, .app 2 ((L.take (ky * w.KW.toNat)).map intC)), (13, .int .i64 (ky : Int))], [(0, some ⟨23, 3, 0, [shapeC s]⟩), (1, some ⟨34, 8, 0, [windowC w]⟩)], [(2, some (3, 1, (L.take (ky * w.KW.toNat)).length))], 3⟩) (le_fit ⟨rfl, rfl, rfl, rfl, by rw [Nat.zero_mul]; rfl, rfl, trivial⟩ ⟨.inr rfl, .inr rfl, trivial⟩ ⟨.inr (by rw [Nat.zero_mul]; rfl), trivial⟩ rfl rfl rfl rfl rfl) ?_
  intro ky hky
  refine zs ?_
  refine zs ?_
  refine zR ?_
  refine zLI ?_
  refine zLP ?_
  refine zLI ?_
  refine zLB ?_
  refine zn ?_
  refine W_cond (b := _) rfl (fun h33 => ?_) (fun h33 => ?_)
  · have hlt : ky < w.KH.toNat := by have := of_decide_eq_true h33; omega
    refine zk ?_
    refine zs ?_
    refine W_block ?_
    refine zs ?_
    refine zR ?_
    refine zLI ?_
    refine zn ?_
    refine W_block ?_
    refine W_for w.KW.toNat (fun kx => ⟨[(3, .ptr 0 0 0), (4, .ptr 1 0 0), (10, .int .i64 (w64 (at_.tdiv (outW s w)))), (11, .int .i64 (at_.tmod (outW s w))), (12, .app 2 ((L.take (ky * w.KW.toNat + kx)).map intC)), (13, .int .i64 (ky : Int)), (14, .int .i64 (kx : Int))], [(0, some ⟨23, 3, 0, [shapeC s]⟩), (1, some ⟨34, 8, 0, [windowC w]⟩)], [(2, some (3, 1, (L.take (ky * w.KW.toNat + kx)).length))], 3⟩) (le_fit ⟨rfl, rfl, rfl, rfl, rfl, rfl, rfl, trivial⟩ ⟨.inr rfl, .inr rfl, trivial⟩ ⟨.inr rfl, trivial⟩ rfl rfl rfl rfl rfl) ?_
    intro kx hkx
    have hlen : (L.take (ky * w.KW.toNat + kx)).length ≤ 4096 := by rw [List.length_take, hLl]; omega
    refine zs ?_
    refine zs ?_
    refine zR ?_
    refine zLI ?_
    refine zLP ?_
    refine zLI ?_
    refine zLB ?_
    refine zn ?_
    refine W_cond (b := _) rfl (fun h39 => ?_) (fun h39 => ?_)
    · have hlx : kx < w.KW.toNat := by have := of_decide_eq_true h39; omega
      have hg := (hget ky kx hlt hlx).trans (tap_yx (ky := ky) (kx := kx) W.2.1.1 hs (by omega))
      refine zk ?_
      refine zs ?_
      refine W_block ?_
      refine zs ?_
      refine zR ?_
      refine zLI ?_
      refine zLP ?_
      refine zLI ?_
      refine zLI ?_
      refine zLP ?_
      refine zLI ?_
      refine zLI ?_
      refine zLI ?_
      refine zLI ?_
      refine zLI ?_
      refine zn ?_
      refine zs ?_
      refine zR ?_
      refine zLI ?_
      refine zLP ?_
      refine zLI ?_
      refine zLI ?_
      refine zLP ?_
      refine zLI ?_
      refine zLI ?_
      refine zLI ?_
      refine zLI ?_
      refine zLI ?_
      refine zn ?_
      refine zs ?_
      refine zR ?_
      refine zLI ?_
      refine zLB ?_
      refine zLB ?_
      refine zgLI ?_
      refine zgLP ?_
      refine zgLI ?_
      refine zgLB ?_
      refine zpLB ?_
      refine zLB ?_
      refine zgLI ?_
      refine zgLB ?_
      refine zpLB ?_
      refine zLB ?_
      refine zgLI ?_
      refine zgLP ?_
      refine zgLI ?_
      refine zgLB ?_
      refine zpLB ?_
      refine zn ?_
      refine W_cond (b := _) rfl (fun h77 => ?_) (fun h77 => ?_)
      · have hap := take_snoc (by rw [hLl]; exact mul_lt_two hlt hlx) (hg.trans (congrArg (fun b => bif b then -1 else w64 (w64 (w64 (tapsTop s w at_ + ky) * s.W) + w64 (tapsLeft s w at_ + kx))) h77))
        refine zR ?_
        refine zLA ?_
        refine L_build Tb_ok (t := 56) (len := 1) (el := 3) (sz := 1) (es := [[_]]) (z := [.int .i64 0]) rfl rfl rfl rfl rfl (by decide) trivial rfl rfl rfl rfl rfl ?_
        refine L_app1 Tb_ok (f := intC) (v := -1) (tok := 2) (el := 3) (sz := 1) rfl rfl rfl rfl rfl ⟨trivial, trivial⟩ (fun _ => ⟨rfl, rfl⟩) (by rw [show (Tb.at 3).bytes = 8 from rfl]; omega) rfl ?_
        refine zLA ?_
        refine zn ?_
        refine zR ?_
        refine zLI ?_
        refine zLI ?_
        refine zLI ?_
        refine zn ?_
        refine for_end hlx (le_fit ⟨rfl, rfl, rfl, rfl, congrArg (fun z => AV.app 2 (List.map intC z)) hap, rfl, congrArg _ (w_succ hlx (by omega)), trivial⟩ ⟨.inr rfl, .inr rfl, trivial⟩ ⟨.inr (congrArg (fun z => some (3, 1, List.length z)) hap), trivial⟩ rfl rfl rfl rfl rfl)
      · have hap := take_snoc (by rw [hLl]; exact mul_lt_two hlt hlx) (hg.trans (congrArg (fun b => bif b then -1 else w64 (w64 (w64 (tapsTop s w at_ + ky) * s.W) + w64 (tapsLeft s w at_ + kx))) h77))
        refine zR ?_
        refine zLA ?_
        refine zLI ?_
        refine zLP ?_
        refine zLI ?_
        refine zLI ?_
        refine zLI ?_
        refine zLI ?_
        refine L_build Tb_ok (t := 56) (len := 1) (el := 3) (sz := 1) (es := [[_]]) (z := [.int .i64 0]) rfl rfl rfl rfl rfl (by decide) trivial rfl rfl rfl rfl rfl ?_
        refine L_app1 Tb_ok (f := intC) (v := w64 (w64 (w64 (tapsTop s w at_ + ky) * s.W) + w64 (tapsLeft s w at_ + kx))) (tok := 2) (el := 3) (sz := 1) rfl rfl rfl rfl rfl ⟨trivial, trivial⟩ (fun _ => ⟨rfl, rfl⟩) (by rw [show (Tb.at 3).bytes = 8 from rfl]; omega) rfl ?_
        refine zLA ?_
        refine zn ?_
        refine zR ?_
        refine zLI ?_
        refine zLI ?_
        refine zLI ?_
        refine zn ?_
        refine for_end hlx (le_fit ⟨rfl, rfl, rfl, rfl, congrArg (fun z => AV.app 2 (List.map intC z)) hap, rfl, congrArg _ (w_succ hlx (by omega)), trivial⟩ ⟨.inr rfl, .inr rfl, trivial⟩ ⟨.inr (congrArg (fun z => some (3, 1, List.length z)) hap), trivial⟩ rfl rfl rfl rfl rfl)
    · have hje : kx = w.KW.toNat := by have := of_decide_eq_false h39; omega
      refine W_exit ?_
      repeat (first | refine pass_then ?_ | refine pass_for ?_)
      refine blockQ_hit ?_
      refine zR ?_
      refine zLI ?_
      refine zLI ?_
      refine zLI ?_
      refine zn ?_
      refine for_end hlt (le_fit ⟨rfl, rfl, rfl, rfl, by rw [hje, ← Nat.succ_mul]; rfl, congrArg _ (w_succ hlt (by omega)), trivial⟩ ⟨.inr rfl, .inr rfl, trivial⟩ ⟨.inr (by rw [hje, ← Nat.succ_mul]; rfl), trivial⟩ rfl rfl rfl rfl rfl)
  · have hke : ky = w.KH.toNat := by have := of_decide_eq_false h33; omega
    refine W_exit ?_
    repeat (first | refine pass_then ?_ | refine pass_for ?_)
    refine blockQ_hit ?_
    refine zs ?_
    refine zR ?_
    refine zLA ?_
    refine zLA ?_
    refine zn ?_
    refine zt ?_
    (refine ends (l := [.app _ _]) (q := .ro _) (.inr rfl) rfl ⟨trivial, trivial⟩ rfl rfl ?_)
    rw [hke, ← hLl, List.take_length]
end Go.AM
end
section
open Go Go.AM Go.Proofs
set_option maxRecDepth 10000
set_option linter.unusedVariables false
set_option linter.unusedSimpArgs false
namespace Go.AM
theorem take_snoc' {α : Type} [Inhabited α] {l : List α} {k : Nat} {v : α} (h : k < l.length) (hv : l.getD k default = v) : l.take k ++ [v] = l.take (k + 1) := by
  rw [List.take_add_one, ← hv]; simp [List.getD_eq_getElem?_getD, h]
theorem ref10_weight {s : Site} (hS : SiteOk s) (hln : lenF s.Op s.In = s.Len) {ch : Int} (hch : 1 ≤ ch ∧ ch ≤ s.Out.C) {i : Nat} (hi : i < s.Len.toNat) : Ok Try.prog 34 [.agg (rsiteC s), .int .i64 ch, .int .i64 (i : Int)] (.int .i64 (wtF s ch i)) := by
  have hl := hS.len
  have O := shapeB_iff.1 hS.outB
  have b2 : ch * s.Len ≤ 1024 * 512 := Int.mul_le_mul (by omega) hl.2 (by omega) (by omega)
  have hb : s.Op.Kind ≠ 4 → 0 ≤ w64 (w64 (w64 (ch - 1) * s.Len) + i) ∧ w64 (w64 (w64 (ch - 1) * s.Len) + i) < s.Op.Weights.length := by
    intro k4
    obtain ⟨w1, w2, w3, w4, w5, w6, w7⟩ := of_weights hS k4 hch
    have e : w64 (w64 (w64 (ch - 1) * s.Len) + (i : Int)) = (ch - 1) * s.Len + i := by rw [w1, w2]; exact w64_id (by omega)
    rw [e]; omega
  have hL := ref10_Length s
  rw [hln] at hL
  refine fn_ok Tb_ok (fn := Try.f34) Try.func34 rfl rfl (e := [(0, _), (1, _), (2, _)]) rfl (by decide) rfl ?_
  refine zs ?_
  refine zR ?_
  refine zbx [.int _ _, .int _ _, .int _ _, .int _ _, .int _ _, .int _ _, .int _ _, .int _ _, .int _ _, .int _ _, .int _ _, .int _ _, _, _, .int _ _, .int _ _, .int _ _, .int _ _, .int _ _, .int _ _, .int _ _, .int _ _, .int _ _, .int _ _, .int _ _, .int _ _, .int _ _, .int _ _] 28 ?_
  refine zLI ?_
  refine zn ?_
  refine zs ?_
  refine zs ?_
  refine zR ?_
  refine zLP ?_
  refine zLP ?_
  refine zLI ?_
  refine zLB ?_
  refine zn ?_
  refine W_cond (b := _) rfl (fun h10 => ?_) (fun h10 => ?_)
  · refine zs ?_
    refine zR ?_
    refine zLI ?_
    refine zn ?_
    refine zt ?_
    refine ends (l := [.int _ _]) (q := .int _ _) (.inr rfl) rfl ⟨trivial, trivial⟩ rfl rfl ?_
    have hk : s.Op.Kind = 4 := by simpa using h10
    simp [wtF, hk]
  · have hk : s.Op.Kind ≠ 4 := by simpa using h10
    obtain ⟨b0, b1⟩ := hb hk
    refine zk ?_
    refine zs ?_
    refine W_draw 14 Tb_mixed rfl (by decide) (by kernel_rfl) (by kernel_rfl) ?_
    refine zEP ?_
    refine zEP ?_
    refine zEO ?_
    refine zEI ?_
    refine zEI ?_
    refine zEG [.int _ _, .int _ _, .int _ _, .int _ _, .int _ _, .int _ _, .int _ _, .int _ _, .int _ _, .int _ _, .int _ _, .int _ _, _, _, .int _ _, .int _ _, .int _ _, .int _ _, .int _ _, .int _ _, .int _ _, .int _ _, .int _ _, .int _ _, .int _ _, .int _ _, .int _ _, .int _ _] ?_
    refine zEc (hL) ?_
    refine zEI ?_
    refine zEI ?_
    refine zEI ?_
    (refine E_v Tb_ok (v := _) (ave_index_ro rfl rfl rfl (fun _ => rfl) rfl (by first | exact b0 | exact b1) (by first | exact b0 | exact b1) trivial) rfl ?_)
    refine zEI ?_
    refine zEI ?_
    refine zEI ?_
    refine LexE_nil ?_
    refine zn ?_
    refine zt ?_
    refine ends (l := [.int _ _]) (q := .int _ _) (.inr rfl) rfl ⟨trivial, trivial⟩ rfl rfl ?_
    simp only [wtF, if_neg hk]; rfl
theorem ref10_Terms_dense {S : Site} (hS : SiteOk S) (hln : lenF S.Op S.In = S.Len) {ch at_ : Int} (hch : 1 ≤ ch ∧ ch ≤ S.Out.C) (k1 : S.Op.Kind = 1) : Ok Try.prog 16 [.agg (rsiteC S), .int .i64 ch, .int .i64 at_] (.ro ((tlF S ch at_).map termC)) := by
  have hc20 : (S.Op.Kind == 1) = true := by simp [k1]
  have hl := hS.len
  have hLl := tlF_len hS ch at_
  have hg : ∀ i, i < S.Len.toNat → (tlF S ch at_).getD i default = ⟨wtF S ch i, i⟩ := fun i hi => by rw [tlF_get hS hch at_ hi]; simp [atF, k1]
  have hL := ref10_Length S
  rw [hln] at hL
  generalize tlF S ch at_ = L at *
  refine fn_ok Tb_ok (fn := Try.f16) Try.func16 rfl rfl (e := [(0, _), (1, _), (2, _)]) rfl (by decide) rfl ?_
  refine zs ?_
  refine zR ?_
  refine zbx [.int _ _, .int _ _, .int _ _, .int _ _, .int _ _, .int _ _, .int _ _, .int _ _, .int _ _, .int _ _, .int _ _, .int _ _, _, _, .int _ _, .int _ _, .int _ _, .int _ _, .int _ _, .int _ _, .int _ _, .int _ _, .int _ _, .int _ _, .int _ _, .int _ _, .int _ _, .int _ _] 28 ?_
  refine zLN ?_
  refine zn ?_
  refine zs ?_
  refine zR ?_
  refine zLN ?_
  refine zn ?_
  refine zs ?_
  refine zR ?_
  refine zLG [.int _ _, .int _ _, .int _ _, .int _ _, .int _ _, .int _ _, .int _ _, .int _ _, .int _ _, .int _ _, .int _ _, .int _ _, _, _, .int _ _, .int _ _, .int _ _, .int _ _, .int _ _, .int _ _, .int _ _, .int _ _, .int _ _, .int _ _, .int _ _, .int _ _, .int _ _, .int _ _] ?_
  refine zLc (hL) ?_
  refine zLI ?_
  refine zn ?_
  refine zs ?_
  refine zs ?_
  refine zR ?_
  refine zLP ?_
  refine zLP ?_
  refine zLI ?_
  refine zLB ?_
  refine zn ?_
  refine W_cond_t (b := _) rfl (by exact hc20) ?_
  refine zs ?_
  refine zs ?_
  refine zR ?_
  refine zLI ?_
  refine zn ?_
  refine W_block ?_
  refine W_nils (t := 7) 52 2 rfl rfl ?_
  refine W_for S.Len.toNat (fun i => ⟨[(1, .int .i64 ch), (3, .ptr 0 0 0), (7, .app 1 ((L.take i).map termC)), (8, .int .i64 S.Len), (9, .int .i64 (i : Int))], [(0, some ⟨42, 28, 0, [rsiteC S]⟩)], [(1, some (52, 2, (L.take i).length))], 2⟩) (le_fit ⟨rfl, rfl, rfl, rfl, rfl, trivial⟩ ⟨.inr rfl, trivial⟩ ⟨.inr rfl, trivial⟩ rfl rfl rfl rfl rfl) ?_
  intro i hi
  have hlen : (L.take i).length ≤ 512 := by rw [List.length_take, hLl]; omega
  refine zs ?_
  refine zs ?_
  refine zR ?_
  refine zLI ?_
  refine zLI ?_
  refine zLB ?_
  refine zn ?_
  refine W_cond (b := _) rfl (fun h23 => ?_) (fun h23 => ?_)
  · have hlt : i < S.Len.toNat := by have := of_decide_eq_true h23; omega
    have hap := take_snoc' (by rw [hLl]; exact hlt) (hg i hlt)
    refine zk ?_
    refine zs ?_
    refine W_block ?_
    refine zR ?_
    refine zLA ?_
    refine zLG [.int _ _, .int _ _, .int _ _, .int _ _, .int _ _, .int _ _, .int _ _, .int _ _, .int _ _, .int _ _, .int _ _, .int _ _, _, _, .int _ _, .int _ _, .int _ _, .int _ _, .int _ _, .int _ _, .int _ _, .int _ _, .int _ _, .int _ _, .int _ _, .int _ _, .int _ _, .int _ _] ?_
    refine zLI ?_
    refine zLI ?_
    refine zLc (ref10_weight hS hln hch (i := i) hlt) ?_
    refine zLI ?_
    refine zLG [.int _ _, .int _ _] ?_
    refine L_build Tb_ok (t := 29) (len := 1) (el := 52) (sz := 2) (es := [[_, _]]) (z := [.int .i64 0, .int .i64 0]) rfl rfl rfl rfl rfl (by decide) trivial rfl rfl rfl rfl rfl ?_
    refine L_app1 Tb_ok (f := termC) (v := ⟨wtF S ch i, i⟩) (tok := 1) (el := 52) (sz := 2) rfl rfl rfl rfl rfl ⟨trivial, trivial⟩ (fun _ => ⟨rfl, rfl⟩) (by rw [show (Tb.at 52).bytes = 16 from rfl]; omega) rfl ?_
    refine zLA ?_
    refine zn ?_
    refine zR ?_
    refine zLI ?_
    refine zLI ?_
    refine zLI ?_
    refine zn ?_
    refine for_end hlt (le_fit ⟨rfl, rfl, congrArg (fun z => AV.app 1 (List.map termC z)) hap, rfl, congrArg _ (w_succ hlt (by omega)), trivial⟩ ⟨.inr rfl, trivial⟩ ⟨.inr (congrArg (fun z => some (52, 2, List.length z)) hap), trivial⟩ rfl rfl rfl rfl rfl)
  · have hke : i = S.Len.toNat := by have := of_decide_eq_false h23; omega
    refine W_exit ?_
    repeat (first | refine pass_then ?_ | refine pass_for ?_)
    refine blockQ_hit ?_
    refine zs ?_
    refine zR ?_
    refine zLA ?_
    refine zLA ?_
    refine zn ?_
    refine zt ?_
    (refine ends (l := [.app _ _]) (q := .ro _) (.inr rfl) rfl ⟨trivial, trivial⟩ rfl rfl ?_)
    rw [hke, ← hLl, List.take_length]
theorem ref10_Terms_conv {S : Site} (hS : SiteOk S) (hln : lenF S.Op S.In = S.Len) {ch at_ : Int} (hch : 1 ≤ ch ∧ ch ≤ S.Out.C) (hat : 0 ≤ at_ ∧ at_ < S.Out.H * S.Out.W) (k2 : S.Op.Kind = 2) : Ok Try.prog 16 [.agg (rsiteC S), .int .i64 ch, .int .i64 at_] (.ro ((tlF S ch at_).map termC)) := by
  have hc20 : (S.Op.Kind == 1) = false := by simp [k2]
  have hc54 : (S.Op.Kind == 2) = true := by simp [k2]
  have hl := hS.len
  have B := shapeB_iff.1 hS.inB
  have hCne : S.In.C ≠ 0 := by omega
  have hLl := tlF_len hS ch at_
  have hT := ref06_Taps S.In S.Op.Win at_ (taps_good hS (by omega) hat.1 hat.2)
  have hTn : tapN S.Op.Win * S.In.C.toNat = S.Len.toNat := by
    obtain ⟨h1, h2, h3⟩ := taps_win hS (by omega)
    unfold tapN
    rw [h1, hS.len2 k2, ← Int.toNat_mul (by omega) (by omega)]
  have hTl : (tapL S.In S.Op.Win (tapsTop S.In S.Op.Win at_) (tapsLeft S.In S.Op.Win at_)).length = tapN S.Op.Win := by simp [tapL]
  have hk : ∀ i, i < S.Len.toNat → i / S.In.C.toNat < tapN S.Op.Win := fun i hi => by rw [Nat.div_lt_iff_lt_mul (by omega), hTn]; exact hi
  have hq : ∀ i : Nat, i < S.Len.toNat → IntKind.i64.wrap ((i : Int).tdiv S.In.C) = ((i / S.In.C.toNat : Nat) : Int) := fun i hi => by
    have e : (i : Int).tdiv S.In.C = ((i / S.In.C.toNat : Nat) : Int) := by
      rw [Int.tdiv_eq_ediv_of_nonneg (by omega), Int.natCast_ediv]; congr 1; omega
    rw [e, w64_id]
    have : i / S.In.C.toNat ≤ i := Nat.div_le_self _ _
    generalize i / S.In.C.toNat = q at this ⊢
    omega
  have hr : ∀ i : Nat, (i : Int).tmod S.In.C = ((i % S.In.C.toNat : Nat) : Int) := fun i => by
    rw [Int.tmod_eq_emod_of_nonneg (by omega), Int.natCast_emod]; congr 1; omega
  have hTg : ∀ i, i < S.Len.toNat → (tapL S.In S.Op.Win (tapsTop S.In S.Op.Win at_) (tapsLeft S.In S.Op.Win at_)).getD (i / S.In.C.toNat) 0 = tapAt S at_ (i / S.In.C.toNat) := fun i hi => tapL_get (hk i hi)
  have hg : ∀ i, i < S.Len.toNat → (tlF S ch at_).getD i default = ⟨wtF S ch i, if tapAt S at_ (i / S.In.C.toNat) < 0 then -1 else w64 (w64 (tapAt S at_ (i / S.In.C.toNat) * S.In.C) + ((i % S.In.C.toNat : Nat) : Int))⟩ := fun i hi => by rw [tlF_get hS hch at_ hi]; simp [atF, k2]
  have hL := ref10_Length S
  rw [hln] at hL
  generalize tlF S ch at_ = L at *
  generalize tapL S.In S.Op.Win (tapsTop S.In S.Op.Win at_) (tapsLeft S.In S.Op.Win at_) = T at *
  refine fn_ok Tb_ok (fn := Try.f16) Try.func16 rfl rfl (e := [(0, _), (1, _), (2, _)]) rfl (by decide) rfl ?_
  refine zs ?_
  refine zR ?_
  refine zbx [.int _ _, .int _ _, .int _ _, .int _ _, .int _ _, .int _ _, .int _ _, .int _ _, .int _ _, .int _ _, .int _ _, .int _ _, _, _, .int _ _, .int _ _, .int _ _, .int _ _, .int _ _, .int _ _, .int _ _, .int _ _, .int _ _, .int _ _, .int _ _, .int _ _, .int _ _, .int _ _] 28 ?_
  refine zLN ?_
  refine zn ?_
  refine zs ?_
  refine zR ?_
  refine zLN ?_
  refine zn ?_
  refine zs ?_
  refine zR ?_
  refine zLG [.int _ _, .int _ _, .int _ _, .int _ _, .int _ _, .int _ _, .int _ _, .int _ _, .int _ _, .int _ _, .int _ _, .int _ _, _, _, .int _ _, .int _ _, .int _ _, .int _ _, .int _ _, .int _ _, .int _ _, .int _ _, .int _ _, .int _ _, .int _ _, .int _ _, .int _ _, .int _ _] ?_
  refine zLc (hL) ?_
  refine zLI ?_
  refine zn ?_
  refine zs ?_
  refine zs ?_
  refine zR ?_
  refine zLP ?_
  refine zLP ?_
  refine zLI ?_
  refine zLB ?_
  refine zn ?_
  refine W_cond_f (b := _) rfl (by exact hc20) ?_
  refine zk ?_
  refine zs ?_
  refine zR ?_
  refine zLP ?_
  refine zLG [.int _ _, .int _ _, .int _ _] ?_
  refine zLP ?_
  refine zLP ?_
  refine zLG [.int _ _, .int _ _, .int _ _, .int _ _, .int _ _, .int _ _, .int _ _, .int _ _] ?_
  refine zLI ?_
  refine zLc (hT) ?_
  refine zLO ?_
  refine zn ?_
  refine zs ?_
  refine zs ?_
  refine zR ?_
  refine zLI ?_
  refine zn ?_
  refine W_block ?_
  refine W_nils (t := 7) 52 2 rfl rfl ?_
  refine W_for S.Len.toNat (fun i => ⟨[(1, .int .i64 ch), (3, .ptr 0 0 0), (7, .app 1 ((L.take i).map termC)), (8, .int .i64 S.Len), (10, .ro (T.map intC)), (11, .int .i64 (i : Int))], [(0, some ⟨42, 28, 0, [rsiteC S]⟩)], [(1, some (52, 2, (L.take i).length))], 2⟩) (le_fit ⟨rfl, rfl, rfl, rfl, rfl, rfl, trivial⟩ ⟨.inr rfl, trivial⟩ ⟨.inr rfl, trivial⟩ rfl rfl rfl rfl rfl) ?_
  intro i hi
  have hlen : (L.take i).length ≤ 512 := by rw [List.length_take, hLl]; omega
  refine zs ?_
  refine zs ?_
  refine zR ?_
  refine zLI ?_
  refine zLI ?_
  refine zLB ?_
  refine zn ?_
  refine W_cond (b := _) rfl (fun h45 => ?_) (fun h45 => ?_)
  · have hlt : i < S.Len.toNat := by have := of_decide_eq_true h45; omega
    have hqi := hq i hlt
    have hgi := hg i hlt
    have ia0 : 0 ≤ IntKind.i64.wrap ((i : Int).tdiv S.In.C) := by rw [hqi]; exact Int.natCast_nonneg _
    have ia1 : IntKind.i64.wrap ((i : Int).tdiv S.In.C) < (T.length : Int) := by rw [hqi, hTl]; exact Int.ofNat_lt.2 (hk i hlt)
    have hTi : T.getD (IntKind.i64.wrap ((i : Int).tdiv S.In.C)).toNat 0 = tapAt S at_ (i / S.In.C.toNat) := by rw [hqi, Int.toNat_natCast]; exact hTg i hlt
    refine zk ?_
    refine zs ?_
    refine W_block ?_
    refine zs ?_
    refine zR ?_
    refine zLI ?_
    refine zLI ?_
    refine zLI ?_
    refine zLI ?_
    refine zLI ?_
    refine zn ?_
    refine zs ?_
    refine zs ?_
    refine zR ?_
    refine zLP ?_
    refine zLP ?_
    refine zLI ?_
    refine zLB ?_
    refine zn ?_
    refine W_cond_t (b := _) rfl (by exact hc54) ?_
    refine W_draw 12 Tb_mixed rfl (by decide) (by kernel_rfl) (by kernel_rfl) ?_
    refine zEI ?_
    refine zEP ?_
    refine zEP ?_
    refine zEI ?_
    refine E_v Tb_ok (v := .int _ _) (av rfl ⟨trivial, (by exact hCne)⟩) rfl ?_
    refine zEI ?_
    refine zEP ?_
    refine zEP ?_
    refine zEI ?_
    refine E_v Tb_ok (v := .int _ _) (av rfl ⟨trivial, (by exact hCne)⟩) rfl ?_
    refine zEI ?_
    refine zEI ?_
    refine LexE_nil ?_
    refine zn ?_
    refine zs ?_
    refine zR ?_
    refine zLG [.int _ _, .int _ _, .int _ _, .int _ _, .int _ _, .int _ _, .int _ _, .int _ _, .int _ _, .int _ _, .int _ _, .int _ _, _, _, .int _ _, .int _ _, .int _ _, .int _ _, .int _ _, .int _ _, .int _ _, .int _ _, .int _ _, .int _ _, .int _ _, .int _ _, .int _ _, .int _ _] ?_
    refine zLI ?_
    refine zLI ?_
    refine zLc (ref10_weight hS hln hch (i := i) hlt) ?_
    refine zLG [.int _ _, .int _ _] ?_
    refine zal [.int .i64 0, .int .i64 0] 2 ?_
    refine zst (.agg [.int _ _, .int _ _]) [_, _] [[_, _]] ?_
    refine zn ?_
    refine zs ?_
    refine zs ?_
    refine zR ?_
    refine zLO ?_
    refine zLI ?_
    (refine L_v Tb_ok (v := _) (ave_index_ro rfl rfl rfl (fun _ => rfl) rfl (by first | exact ia0 | exact ia1 | (rw [List.length_map]; exact ia1)) (by first | exact ia0 | exact ia1 | (rw [List.length_map]; exact ia1)) trivial) rfl ?_)
    refine zLI ?_
    refine zLB ?_
    refine zn ?_
    refine W_cond (b := _) rfl (fun h74 => ?_) (fun h74 => ?_)
    · have h0 : ¬ tapAt S at_ (i / S.In.C.toNat) < 0 := by have := of_decide_eq_true h74; rw [← hTi]; exact Int.not_lt.2 this
      have hap := take_snoc' (v := (⟨wtF S ch i, w64 (w64 (T.getD (IntKind.i64.wrap ((i : Int).tdiv S.In.C)).toNat 0 * S.In.C) + (i : Int).tmod S.In.C)⟩ : Term)) (by rw [hLl]; exact hlt) (by rw [hgi, if_neg h0, hTi, hr])
      refine W_draw 11 Tb_mixed rfl (by decide) (by kernel_rfl) (by kernel_rfl) ?_
      refine zEO ?_
      refine zEI ?_
      (refine E_v Tb_ok (v := _) (ave_index_ro rfl rfl rfl (fun _ => rfl) rfl (by first | exact ia0 | exact ia1 | (rw [List.length_map]; exact ia1)) (by first | exact ia0 | exact ia1 | (rw [List.length_map]; exact ia1)) trivial) rfl ?_)
      refine zEI ?_
      refine zEP ?_
      refine zEP ?_
      refine zEI ?_
      refine zEI ?_
      refine zEI ?_
      refine zEI ?_
      refine zEP ?_
      refine LexE_nil ?_
      refine zst (.int _ _) [_] [[_, _]] ?_
      refine zn ?_
      refine zR ?_
      refine zLA ?_
      refine zLG [.int _ _, .int _ _] ?_
      refine L_build Tb_ok (t := 29) (len := 1) (el := 52) (sz := 2) (es := [[_, _]]) (z := [.int .i64 0, .int .i64 0]) rfl rfl rfl rfl rfl (by decide) trivial rfl rfl rfl rfl rfl ?_
      refine L_app1 Tb_ok (f := termC) (v := ⟨wtF S ch i, w64 (w64 (T.getD (IntKind.i64.wrap ((i : Int).tdiv S.In.C)).toNat 0 * S.In.C) + (i : Int).tmod S.In.C)⟩) (tok := 1) (el := 52) (sz := 2) rfl rfl rfl rfl rfl ⟨trivial, trivial⟩ (fun _ => ⟨rfl, rfl⟩) (by rw [show (Tb.at 52).bytes = 16 from rfl]; omega) rfl ?_
      refine zLA ?_
      refine zn ?_
      refine zR ?_
      refine zLI ?_
      refine zLI ?_
      refine zLI ?_
      refine zn ?_
      refine for_end hlt (le_fit ⟨rfl, rfl, congrArg (fun z => AV.app 1 (List.map termC z)) hap, rfl, rfl, congrArg _ (w_succ hlt (by omega)), trivial⟩ ⟨.inr rfl, trivial⟩ ⟨.inr (congrArg (fun z => some (52, 2, List.length z)) hap), trivial⟩ rfl rfl rfl rfl rfl)
    · have h0 : tapAt S at_ (i / S.In.C.toNat) < 0 := by have := of_decide_eq_false h74; rw [← hTi]; exact Int.not_le.1 this
      have hap := take_snoc' (v := (⟨wtF S ch i, -1⟩ : Term)) (by rw [hLl]; exact hlt) (by rw [hgi, if_pos h0])
      refine zk ?_
      refine zR ?_
      refine zLA ?_
      refine zLG [.int _ _, .int _ _] ?_
      refine L_build Tb_ok (t := 29) (len := 1) (el := 52) (sz := 2) (es := [[_, _]]) (z := [.int .i64 0, .int .i64 0]) rfl rfl rfl rfl rfl (by decide) trivial rfl rfl rfl rfl rfl ?_
      refine L_app1 Tb_ok (f := termC) (v := ⟨wtF S ch i, -1⟩) (tok := 1) (el := 52) (sz := 2) rfl rfl rfl rfl rfl ⟨trivial, trivial⟩ (fun _ => ⟨rfl, rfl⟩) (by rw [show (Tb.at 52).bytes = 16 from rfl]; omega) rfl ?_
      refine zLA ?_
      refine zn ?_
      refine zR ?_
      refine zLI ?_
      refine zLI ?_
      refine zLI ?_
      refine zn ?_
      refine for_end hlt (le_fit ⟨rfl, rfl, congrArg (fun z => AV.app 1 (List.map termC z)) hap, rfl, rfl, congrArg _ (w_succ hlt (by omega)), trivial⟩ ⟨.inr rfl, trivial⟩ ⟨.inr (congrArg (fun z => some (52, 2, List.length z)) hap), trivial⟩ rfl rfl rfl rfl rfl)
  · have hke : i = S.Len.toNat := by have := of_decide_eq_false h45; omega
    refine W_exit ?_
    repeat (first | refine pass_then ?_ | refine pass_for ?_)
    refine blockQ_hit ?_
    refine zs ?_
    refine zR ?_
    refine zLA ?_
    refine zLA ?_
    refine zn ?_
    refine zt ?_
    (refine ends (l := [.app _ _]) (q := .ro _) (.inr rfl) rfl ⟨trivial, trivial⟩ rfl rfl ?_)
    rw [hke, ← hLl, List.take_length]
theorem ref10_Terms_rest {S : Site} (hS : SiteOk S) (hln : lenF S.Op S.In = S.Len) {ch at_ : Int} (hch : 1 ≤ ch ∧ ch ≤ S.Out.C) (hat : 0 ≤ at_ ∧ at_ < S.Out.H * S.Out.W) (k1 : S.Op.Kind ≠ 1) (k2 : S.Op.Kind ≠ 2) : Ok Try.prog 16 [.agg (rsiteC S), .int .i64 ch, .int .i64 at_] (.ro ((tlF S ch at_).map termC)) := by
  have hc20 : (S.Op.Kind == 1) = false := by simp [k1]
  have hc54 : (S.Op.Kind == 2) = false := by simp [k2]
  have hl := hS.len
  have B := shapeB_iff.1 hS.inB
  have hCne : S.In.C ≠ 0 := by omega
  have hLl := tlF_len hS ch at_
  have hT := ref06_Taps S.In S.Op.Win at_ (taps_good hS k1 hat.1 hat.2)
  have hTn : tapN S.Op.Win = S.Len.toNat := by
    obtain ⟨h1, h2, h3⟩ := taps_win hS k1
    unfold tapN
    rw [h1, hS.len3 (by have := hS.kind; omega)]
  have hTl : (tapL S.In S.Op.Win (tapsTop S.In S.Op.Win at_) (tapsLeft S.In S.Op.Win at_)).length = tapN S.Op.Win := by simp [tapL]
  have hTg : ∀ i, i < S.Len.toNat → (tapL S.In S.Op.Win (tapsTop S.In S.Op.Win at_) (tapsLeft S.In S.Op.Win at_)).getD i 0 = tapAt S at_ i := fun i hi => tapL_get (by omega)
  have hg : ∀ i, i < S.Len.toNat → (tlF S ch at_).getD i default = ⟨wtF S ch i, if tapAt S at_ i < 0 then -1 else w64 (w64 (tapAt S at_ i * S.In.C) + (ch - 1))⟩ := fun i hi => by rw [tlF_get hS hch at_ hi]; simp [atF, k1, k2]
  have hcw : w64 (ch - 1) = ch - 1 := by have O := shapeB_iff.1 hS.outB; exact w64_id (by omega)
  have hL := ref10_Length S
  rw [hln] at hL
  generalize tlF S ch at_ = L at *
  generalize tapL S.In S.Op.Win (tapsTop S.In S.Op.Win at_) (tapsLeft S.In S.Op.Win at_) = T at *
  refine fn_ok Tb_ok (fn := Try.f16) Try.func16 rfl rfl (e := [(0, _), (1, _), (2, _)]) rfl (by decide) rfl ?_
  refine zs ?_
  refine zR ?_
  refine zbx [.int _ _, .int _ _, .int _ _, .int _ _, .int _ _, .int _ _, .int _ _, .int _ _, .int _ _, .int _ _, .int _ _, .int _ _, _, _, .int _ _, .int _ _, .int _ _, .int _ _, .int _ _, .int _ _, .int _ _, .int _ _, .int _ _, .int _ _, .int _ _, .int _ _, .int _ _, .int _ _] 28 ?_
  refine zLN ?_
  refine zn ?_
  refine zs ?_
  refine zR ?_
  refine zLN ?_
  refine zn ?_
  refine zs ?_
  refine zR ?_
  refine zLG [.int _ _, .int _ _, .int _ _, .int _ _, .int _ _, .int _ _, .int _ _, .int _ _, .int _ _, .int _ _, .int _ _, .int _ _, _, _, .int _ _, .int _ _, .int _ _, .int _ _, .int _ _, .int _ _, .int _ _, .int _ _, .int _ _, .int _ _, .int _ _, .int _ _, .int _ _, .int _ _] ?_
  refine zLc (hL) ?_
  refine zLI ?_
  refine zn ?_
  refine zs ?_
  refine zs ?_
  refine zR ?_
  refine zLP ?_
  refine zLP ?_
  refine zLI ?_
  refine zLB ?_
  refine zn ?_
  refine W_cond_f (b := _) rfl (by exact hc20) ?_
  refine zk ?_
  refine zs ?_
  refine zR ?_
  refine zLP ?_
  refine zLG [.int _ _, .int _ _, .int _ _] ?_
  refine zLP ?_
  refine zLP ?_
  refine zLG [.int _ _, .int _ _, .int _ _, .int _ _, .int _ _, .int _ _, .int _ _, .int _ _] ?_
  refine zLI ?_
  refine zLc (hT) ?_
  refine zLO ?_
  refine zn ?_
  refine zs ?_
  refine zs ?_
  refine zR ?_
  refine zLI ?_
  refine zn ?_
  refine W_block ?_
  refine W_nils (t := 7) 52 2 rfl rfl ?_
  refine W_for S.Len.toNat (fun i => ⟨[(1, .int .i64 ch), (3, .ptr 0 0 0), (7, .app 1 ((L.take i).map termC)), (8, .int .i64 S.Len), (10, .ro (T.map intC)), (11, .int .i64 (i : Int))], [(0, some ⟨42, 28, 0, [rsiteC S]⟩)], [(1, some (52, 2, (L.take i).length))], 2⟩) (le_fit ⟨rfl, rfl, rfl, rfl, rfl, rfl, trivial⟩ ⟨.inr rfl, trivial⟩ ⟨.inr rfl, trivial⟩ rfl rfl rfl rfl rfl) ?_
  intro i hi
  have hlen : (L.take i).length ≤ 512 := by rw [List.length_take, hLl]; omega
  refine zs ?_
  refine zs ?_
  refine zR ?_
  refine zLI ?_
  refine zLI ?_
  refine zLB ?_
  refine zn ?_
  refine W_cond (b := _) rfl (fun h45 => ?_) (fun h45 => ?_)
  · have hlt : i < S.Len.toNat := by have := of_decide_eq_true h45; omega
    have hgi := hg i hlt
    have ia0 : 0 ≤ ((i : Nat) : Int) := Int.natCast_nonneg _
    have ia1 : ((i : Nat) : Int) < (T.length : Int) := by rw [hTl, hTn]; exact Int.ofNat_lt.2 hlt
    have hTi : T.getD ((i : Nat) : Int).toNat 0 = tapAt S at_ i := by rw [Int.toNat_natCast]; exact hTg i hlt
    refine zk ?_
    refine zs ?_
    refine W_block ?_
    refine zs ?_
    refine zR ?_
    refine zLI ?_
    refine zLI ?_
    refine zLI ?_
    refine zLI ?_
    refine zLI ?_
    refine zn ?_
    refine zs ?_
    refine zs ?_
    refine zR ?_
    refine zLP ?_
    refine zLP ?_
    refine zLI ?_
    refine zLB ?_
    refine zn ?_
    refine W_cond_f (b := _) rfl (by exact hc54) ?_
    refine zk ?_
    refine zs ?_
    refine zR ?_
    refine zLG [.int _ _, .int _ _, .int _ _, .int _ _, .int _ _, .int _ _, .int _ _, .int _ _, .int _ _, .int _ _, .int _ _, .int _ _, _, _, .int _ _, .int _ _, .int _ _, .int _ _, .int _ _, .int _ _, .int _ _, .int _ _, .int _ _, .int _ _, .int _ _, .int _ _, .int _ _, .int _ _] ?_
    refine zLI ?_
    refine zLI ?_
    refine zLc (ref10_weight hS hln hch (i := i) hlt) ?_
    refine zLG [.int _ _, .int _ _] ?_
    refine zal [.int .i64 0, .int .i64 0] 2 ?_
    refine zst (.agg [.int _ _, .int _ _]) [_, _] [[_, _]] ?_
    refine zn ?_
    refine zs ?_
    refine zs ?_
    refine zR ?_
    refine zLO ?_
    refine zLI ?_
    (refine L_v Tb_ok (v := _) (ave_index_ro rfl rfl rfl (fun _ => rfl) rfl (by first | exact ia0 | exact ia1 | (rw [List.length_map]; exact ia1)) (by first | exact ia0 | exact ia1 | (rw [List.length_map]; exact ia1)) trivial) rfl ?_)
    refine zLI ?_
    refine zLB ?_
    refine zn ?_
    refine W_cond (b := _) rfl (fun h74 => ?_) (fun h74 => ?_)
    · have h0 : ¬ tapAt S at_ i < 0 := by have := of_decide_eq_true h74; rw [← hTi]; exact Int.not_lt.2 this
      have hap := take_snoc' (v := (⟨wtF S ch i, w64 (w64 (T.getD ((i : Nat) : Int).toNat 0 * S.In.C) + w64 (ch - 1))⟩ : Term)) (by rw [hLl]; exact hlt) (by rw [hgi, if_neg h0, hTi, hcw])
      refine W_draw 11 Tb_mixed rfl (by decide) (by kernel_rfl) (by kernel_rfl) ?_
      refine zEO ?_
      refine zEI ?_
      (refine E_v Tb_ok (v := _) (ave_index_ro rfl rfl rfl (fun _ => rfl) rfl (by first | exact ia0 | exact ia1 | (rw [List.length_map]; exact ia1)) (by first | exact ia0 | exact ia1 | (rw [List.length_map]; exact ia1)) trivial) rfl ?_)
      refine zEI ?_
      refine zEP ?_
      refine zEP ?_
      refine zEI ?_
      refine zEI ?_
      refine zEI ?_
      refine zEI ?_
      refine zEP ?_
      refine LexE_nil ?_
      refine zst (.int _ _) [_] [[_, _]] ?_
      refine zn ?_
      refine zR ?_
      refine zLA ?_
      refine zLG [.int _ _, .int _ _] ?_
      refine L_build Tb_ok (t := 29) (len := 1) (el := 52) (sz := 2) (es := [[_, _]]) (z := [.int .i64 0, .int .i64 0]) rfl rfl rfl rfl rfl (by decide) trivial rfl rfl rfl rfl rfl ?_
      refine L_app1 Tb_ok (f := termC) (v := ⟨wtF S ch i, w64 (w64 (T.getD ((i : Nat) : Int).toNat 0 * S.In.C) + w64 (ch - 1))⟩) (tok := 1) (el := 52) (sz := 2) rfl rfl rfl rfl rfl ⟨trivial, trivial⟩ (fun _ => ⟨rfl, rfl⟩) (by rw [show (Tb.at 52).bytes = 16 from rfl]; omega) rfl ?_
      refine zLA ?_
      refine zn ?_
      refine zR ?_
      refine zLI ?_
      refine zLI ?_
      refine zLI ?_
      refine zn ?_
      refine for_end hlt (le_fit ⟨rfl, rfl, congrArg (fun z => AV.app 1 (List.map termC z)) hap, rfl, rfl, congrArg _ (w_succ hlt (by omega)), trivial⟩ ⟨.inr rfl, trivial⟩ ⟨.inr (congrArg (fun z => some (52, 2, List.length z)) hap), trivial⟩ rfl rfl rfl rfl rfl)
    · have h0 : tapAt S at_ i < 0 := by have := of_decide_eq_false h74; rw [← hTi]; exact Int.not_le.1 this
      have hap := take_snoc' (v := (⟨wtF S ch i, -1⟩ : Term)) (by rw [hLl]; exact hlt) (by rw [hgi, if_pos h0])
      refine zk ?_
      refine zR ?_
      refine zLA ?_
      refine zLG [.int _ _, .int _ _] ?_
      refine L_build Tb_ok (t := 29) (len := 1) (el := 52) (sz := 2) (es := [[_, _]]) (z := [.int .i64 0, .int .i64 0]) rfl rfl rfl rfl rfl (by decide) trivial rfl rfl rfl rfl rfl ?_
      refine L_app1 Tb_ok (f := termC) (v := ⟨wtF S ch i, -1⟩) (tok := 1) (el := 52) (sz := 2) rfl rfl rfl rfl rfl ⟨trivial, trivial⟩ (fun _ => ⟨rfl, rfl⟩) (by rw [show (Tb.at 52).bytes = 16 from rfl]; omega) rfl ?_
      refine zLA ?_
      refine zn ?_
      refine zR ?_
      refine zLI ?_
      refine zLI ?_
      refine zLI ?_
      refine zn ?_
      refine for_end hlt (le_fit ⟨rfl, rfl, congrArg (fun z => AV.app 1 (List.map termC z)) hap, rfl, rfl, congrArg _ (w_succ hlt (by omega)), trivial⟩ ⟨.inr rfl, trivial⟩ ⟨.inr (congrArg (fun z => some (52, 2, List.length z)) hap), trivial⟩ rfl rfl rfl rfl rfl)
  · have hke : i = S.Len.toNat := by have := of_decide_eq_false h45; omega
    refine W_exit ?_
    repeat (first | refine pass_then ?_ | refine pass_for ?_)
    refine blockQ_hit ?_
    refine zs ?_
    refine zR ?_
    refine zLA ?_
    refine zLA ?_
    refine zn ?_
    refine zt ?_
    (refine ends (l := [.app _ _]) (q := .ro _) (.inr rfl) rfl ⟨trivial, trivial⟩ rfl rfl ?_)
    rw [hke, ← hLl, List.take_length]
theorem ref10_Terms {S : Site} (hS : SiteOk S) (hln : lenF S.Op S.In = S.Len) {ch at_ : Int} (hch : 1 ≤ ch ∧ ch ≤ S.Out.C) (hat : 0 ≤ at_ ∧ at_ < S.Out.H * S.Out.W) : Ok Try.prog 16 [.agg (rsiteC S), .int .i64 ch, .int .i64 at_] (.ro ((tlF S ch at_).map termC)) := by
  by_cases k1 : S.Op.Kind = 1
  · exact ref10_Terms_dense hS hln hch k1
  · by_cases k2 : S.Op.Kind = 2
    · exact ref10_Terms_conv hS hln hch hat k2
    · exact ref10_Terms_rest hS hln hch hat k1 k2
end Go.AM
end
section
open Go Go.AM
set_option linter.unusedVariables false
set_option linter.unusedSimpArgs false
namespace Go.AM
theorem rfE_bad {m : Model} {op ch : Int} (h : findE m op ≠ 0) : rfE m op ch = findE m op := by unfold rfE; rw [if_neg h]
theorem rcE_bad {m : Model} {op ch : Int} (h : findE m op ≠ 0) : rcE m op ch = findE m op := by
  unfold rcE
  rw [rfE_bad h]
  have : (findE m op == 0) = false := by simpa using h
  rw [this]; rfl
theorem rc_ok {m : Model} {op ch : Int} (h : findE m op = 0) : (1 ≤ ch ∧ ch ≤ (findS m op).Out.C → rcE m op ch = 0 ∧ rcS m op ch = findS m op) ∧ (¬ (1 ≤ ch ∧ ch ≤ (findS m op).Out.C) → rcE m op ch = 3) := by
  obtain ⟨hS, _⟩ := site_ok h
  have O := shapeB_iff.1 hS.outB
  constructor
  · rintro ⟨h1, h2⟩
    have c1 : ¬ ch < 0 := by omega
    have c2 : ¬ ch > (findS m op).Out.C := by omega
    have e : rfE m op ch = 0 := by simp [rfE, h, c1, c2]
    have z : (ch == 0) = false := by simp; omega
    simp [rcE, rcS, e, z, rfS]
  · intro hn
    by_cases h0 : ch = 0
    · subst h0
      have c2 : ¬ (0 : Int) > (findS m op).Out.C := by omega
      have e : rfE m op 0 = 0 := by simp [rfE, h, c2]
      simp [rcE, e]
    · have z : (ch == 0) = false := by simpa using h0
      have e : rfE m op ch = 3 := by
        by_cases c1 : ch < 0
        · simp [rfE, h, c1]
        · have c2 : ch > (findS m op).Out.C := by omega
          simp [rfE, h, c2]
      simp [rcE, e]
theorem rcE_zero {m : Model} {op ch : Int} (h : rcE m op ch = 0) : findE m op = 0 ∧ (1 ≤ ch ∧ ch ≤ (findS m op).Out.C) ∧ rcS m op ch = findS m op := by
  by_cases h0 : findE m op = 0
  · by_cases hc : 1 ≤ ch ∧ ch ≤ (findS m op).Out.C
    · exact ⟨h0, hc, ((rc_ok h0).1 hc).2⟩
    · rw [(rc_ok h0).2 hc] at h; omega
  · rw [rcE_bad h0] at h; exact absurd h h0
theorem ofE_rc {m : Model} {op ch at_ : Int} : ofE m op ch at_ = (bif (bif rcE m op ch == 0 then bif decide (at_ < 0) then true else decide (at_ ≥ w64 ((rcS m op ch).Out.H * (rcS m op ch).Out.W)) else false) then 3 else rcE m op ch) := by
  by_cases h0 : findE m op = 0
  · obtain ⟨hS, _⟩ := site_ok h0
    unfold ofE
    rw [if_pos h0]
    by_cases hc : 1 ≤ ch ∧ ch ≤ (findS m op).Out.C
    · obtain ⟨e1, e2⟩ := (rc_ok h0).1 hc
      rw [e1, e2, (out_pos hS).1]
      cases hb : ofBad (findS m op) ch at_ with
      | true =>
        have : ¬ (0 ≤ at_ ∧ at_ < (findS m op).Out.H * (findS m op).Out.W) := fun h => by
          have := (ofBad_iff hS).2 ⟨hc, h⟩; rw [hb] at this; cases this
        by_cases c1 : at_ < 0
        · simp [c1]
        · have c2 : at_ ≥ (findS m op).Out.H * (findS m op).Out.W := by omega
          simp [c2]
      | false =>
        obtain ⟨_, h1, h2⟩ := (ofBad_iff hS).1 hb
        have c1 : ¬ at_ < 0 := by omega
        have c2 : ¬ at_ ≥ (findS m op).Out.H * (findS m op).Out.W := by omega
        simp [c1, c2]
    · rw [(rc_ok h0).2 hc]
      have : ofBad (findS m op) ch at_ = true := by
        cases hb : ofBad (findS m op) ch at_ with
        | true => rfl
        | false => exact absurd ((ofBad_iff hS).1 hb).1 hc
      simp [this]
  · rw [rcE_bad h0]
    have z : (findE m op == 0) = false := by simpa using h0
    unfold ofE; rw [if_neg h0, z]; rfl
theorem ofE_rc0 {m : Model} {op ch : Int} : ofE m op ch 0 = rcE m op ch := by
  rw [ofE_rc]
  cases hq : rcE m op ch == 0 with
  | false => rfl
  | true =>
    obtain ⟨h0, hc, e⟩ := rcE_zero (by simpa using hq)
    obtain ⟨hS, _⟩ := site_ok h0
    obtain ⟨p1, p2, _⟩ := out_pos hS
    have c2 : ¬ (0 : Int) ≥ (findS m op).Out.H * (findS m op).Out.W := by omega
    rw [e, p1]; simp [c2]
theorem bias_eq {m : Model} {op ch at_ : Int} (h0 : findE m op = 0) (hb : ofBad (findS m op) ch at_ = false) : biasF m op ch at_ = if (findS m op).Op.Kind = 4 then 0 else w64 ((findS m op).Op.Bias.getD (w64 (ch - 1)).toNat default) := by
  simp [biasF, h0, hb]
theorem bias_ix {S : Site} (hS : SiteOk S) {ch : Int} (hch : 1 ≤ ch ∧ ch ≤ S.Out.C) : S.Op.Kind ≠ 4 → 0 ≤ w64 (ch - 1) ∧ w64 (ch - 1) < S.Op.Bias.length := fun k4 => by
  obtain ⟨w1, _, _, _, _, _, w7⟩ := of_weights hS k4 hch
  rw [w1]; omega
end Go.AM
end
section
open Go Go.AM
set_option linter.unusedVariables false
set_option linter.unusedSimpArgs false
namespace Go.AM
theorem yx_inj {y x y' x' W : Int} (hx : 0 ≤ x ∧ x < W) (hx' : 0 ≤ x' ∧ x' < W) (h : y * W + x = y' * W + x') : y = y' ∧ x = x' := by
  have e1 : (y * W + x) / W = y := by rw [Int.add_comm, Int.add_mul_ediv_right _ _ (by omega), Int.ediv_eq_zero_of_lt hx.1 hx.2]; omega
  have e2 : (y' * W + x') / W = y' := by rw [Int.add_comm, Int.add_mul_ediv_right _ _ (by omega), Int.ediv_eq_zero_of_lt hx'.1 hx'.2]; omega
  have : y = y' := by rw [← e1, ← e2, h]
  subst this
  omega
/-- two taps that cover the same place are one -/
theorem tap_inj {S : Site} (hS : SiteOk S) (k1 : S.Op.Kind ≠ 1) (at_ : Int) (hat : 0 ≤ at_ ∧ at_ < S.Out.H * S.Out.W) {k k' : Nat} (hk : k < tapN S.Op.Win) (hk' : k' < tapN S.Op.Win) (h0 : 0 ≤ tapAt S at_ k) (h : tapAt S at_ k = tapAt S at_ k') : k = k' := by
  obtain ⟨w1, w2, w3, w4⟩ := hS.win k1
  have W := windowB_iff w1
  have B := shapeB_iff.1 hS.inB
  obtain ⟨t1, t2, t3⟩ := taps_win hS k1
  have hkN : (k : Int) < S.Op.Win.KH * S.Op.Win.KW := by unfold tapN at hk; rw [t1] at hk; omega
  have hkN' : (k' : Int) < S.Op.Win.KH * S.Op.Win.KW := by unfold tapN at hk'; rw [t1] at hk'; omega
  have fl : ∀ q : Nat, (q : Int) < S.Op.Win.KH * S.Op.Win.KW → 0 ≤ (q : Int) / S.Op.Win.KW ∧ (q : Int) / S.Op.Win.KW < S.Op.Win.KH ∧ 0 ≤ (q : Int) % S.Op.Win.KW ∧ (q : Int) % S.Op.Win.KW < S.Op.Win.KW ∧ (q : Int) = (q : Int) / S.Op.Win.KW * S.Op.Win.KW + (q : Int) % S.Op.Win.KW := fun q hq =>
    ⟨Int.ediv_nonneg (by omega) (by omega), Int.ediv_lt_of_lt_mul (by omega) hq, Int.emod_nonneg _ (by omega), Int.emod_lt_of_pos _ (by omega), by rw [Int.mul_comm]; exact (Int.mul_ediv_add_emod _ _).symm⟩
  obtain ⟨a1, a2, a3, a4, a5⟩ := fl k hkN
  obtain ⟨b1, b2, b3, b4, b5⟩ := fl k' hkN'
  rcases tap_range hS.inB S.Op.Win (tapsTop S.In S.Op.Win at_) (tapsLeft S.In S.Op.Win at_) k with e | ⟨y, x, hy, hx, e, ey, ex⟩
  · exact absurd e (by unfold tapAt at h0; omega)
  rcases tap_range hS.inB S.Op.Win (tapsTop S.In S.Op.Win at_) (tapsLeft S.In S.Op.Win at_) k' with e' | ⟨y', x', hy', hx', e', ey', ex'⟩
  · exact absurd e' (by rw [h] at h0; unfold tapAt at h0; omega)
  have hh : y * S.In.W + x = y' * S.In.W + x' := by rw [← e, ← e']; exact h
  obtain ⟨y1, x1⟩ := yx_inj hx hx' hh
  rw [Int.tdiv_eq_ediv_of_nonneg (show 0 ≤ (k : Int) by omega)] at ey
  rw [Int.tmod_eq_emod_of_nonneg (show 0 ≤ (k : Int) by omega)] at ex
  rw [Int.tdiv_eq_ediv_of_nonneg (show 0 ≤ (k' : Int) by omega)] at ey'
  rw [Int.tmod_eq_emod_of_nonneg (show 0 ≤ (k' : Int) by omega)] at ex'
  rw [show w64 ((k : Int) / S.Op.Win.KW) = _ from w64_id (by omega)] at ey
  rw [show w64 ((k' : Int) / S.Op.Win.KW) = _ from w64_id (by omega)] at ey'
  have cy : (k : Int) / S.Op.Win.KW = (k' : Int) / S.Op.Win.KW := by
    have := ey.symm.trans (y1.trans ey')
    unfold w64 at this
    rw [IntKind.wrap_i64, IntKind.wrap_i64] at this
    generalize (k : Int) / S.Op.Win.KW = p at *
    generalize (k' : Int) / S.Op.Win.KW = q at *
    omega
  have cx : (k : Int) % S.Op.Win.KW = (k' : Int) % S.Op.Win.KW := by
    have := ex.symm.trans (x1.trans ex')
    unfold w64 at this
    rw [IntKind.wrap_i64, IntKind.wrap_i64] at this
    generalize (k : Int) % S.Op.Win.KW = p at *
    generalize (k' : Int) % S.Op.Win.KW = q at *
    omega
  rw [cy, cx, ← b5] at a5
  omega
theorem at_inj {S : Site} (hS : SiteOk S) {ch : Int} (hch : 1 ≤ ch ∧ ch ≤ S.Out.C) (at_ : Int) (hat : 0 ≤ at_ ∧ at_ < S.Out.H * S.Out.W) {i j : Nat} (hi : i < S.Len.toNat) (hj : j < S.Len.toNat) (h0 : 0 ≤ atF S ch at_ i) (h : atF S ch at_ i = atF S ch at_ j) : i = j := by
  have B := shapeB_iff.1 hS.inB
  unfold atF at h0 h
  by_cases k1 : S.Op.Kind = 1
  · rw [if_pos k1, if_pos k1] at h; omega
  · rw [if_neg k1] at h0
    rw [if_neg k1, if_neg k1] at h
    obtain ⟨t1, t2, t3⟩ := taps_win hS k1
    by_cases k2 : S.Op.Kind = 2
    · rw [if_pos k2] at h0
      rw [if_pos k2, if_pos k2] at h
      have hTn : tapN S.Op.Win * S.In.C.toNat = S.Len.toNat := by unfold tapN; rw [t1, hS.len2 k2, ← Int.toNat_mul (by omega) (by omega)]
      have ki : i / S.In.C.toNat < tapN S.Op.Win := by rw [Nat.div_lt_iff_lt_mul (by omega), hTn]; exact hi
      have kj : j / S.In.C.toNat < tapN S.Op.Win := by rw [Nat.div_lt_iff_lt_mul (by omega), hTn]; exact hj
      have mi : i % S.In.C.toNat < S.In.C.toNat := Nat.mod_lt _ (by omega)
      have mj : j % S.In.C.toNat < S.In.C.toNat := Nat.mod_lt _ (by omega)
      have di := Nat.div_add_mod i S.In.C.toNat
      have dj := Nat.div_add_mod j S.In.C.toNat
      rcases tapAt_range hS at_ (i / S.In.C.toNat) with e | e
      · rw [e] at h0; simp at h0
      · rw [if_neg (by omega)] at h0 h
        obtain ⟨v1, v2, v3⟩ := pc_val hS e (c := ((i % S.In.C.toNat : Nat) : Int)) ⟨Int.natCast_nonneg _, by have := Int.ofNat_lt.2 mi; omega⟩
        rw [v1] at h
        rcases tapAt_range hS at_ (j / S.In.C.toNat) with e' | e'
        · rw [if_pos (by omega)] at h; omega
        · rw [if_neg (by omega)] at h
          obtain ⟨v1', v2', v3'⟩ := pc_val hS e' (c := ((j % S.In.C.toNat : Nat) : Int)) ⟨Int.natCast_nonneg _, by have := Int.ofNat_lt.2 mj; omega⟩
          rw [v1'] at h
          obtain ⟨q1, q2⟩ := yx_inj (x := ((i % S.In.C.toNat : Nat) : Int)) (x' := ((j % S.In.C.toNat : Nat) : Int)) ⟨Int.natCast_nonneg _, by have := Int.ofNat_lt.2 mi; omega⟩ ⟨Int.natCast_nonneg _, by have := Int.ofNat_lt.2 mj; omega⟩ h
          have := tap_inj hS k1 at_ hat ki kj e.1 q1
          have q3 : i % S.In.C.toNat = j % S.In.C.toNat := Int.ofNat_inj.1 q2
          rw [← di, ← dj, this, q3]
    · rw [if_neg k2] at h0
      rw [if_neg k2, if_neg k2] at h
      have hTn : tapN S.Op.Win = S.Len.toNat := by unfold tapN; rw [t1, ← hS.len3 (by have := hS.kind; omega)]
      have o3 := hS.out3 (by have := hS.kind; omega)
      rcases tapAt_range hS at_ i with e | e
      · rw [e] at h0; simp at h0
      · rw [if_neg (by omega)] at h0 h
        obtain ⟨v1, v2, v3⟩ := pc_val hS e (c := ch - 1) ⟨by omega, by omega⟩
        rw [v1] at h
        rcases tapAt_range hS at_ j with e' | e'
        · rw [if_pos (by omega)] at h; omega
        · rw [if_neg (by omega)] at h
          obtain ⟨v1', v2', v3'⟩ := pc_val hS e' (c := ch - 1) ⟨by omega, by omega⟩
          rw [v1'] at h
          obtain ⟨q1, _⟩ := yx_inj (x := ch - 1) (x' := ch - 1) ⟨by omega, by omega⟩ ⟨by omega, by omega⟩ h
          exact tap_inj hS k1 at_ hat (by omega) (by omega) e.1 q1
/-- one tap at least lies inside -/
theorem tap_in {S : Site} (hS : SiteOk S) (k1 : S.Op.Kind ≠ 1) {at_ : Int} (hat : 0 ≤ at_ ∧ at_ < S.Out.H * S.Out.W) : ∃ k, k < tapN S.Op.Win ∧ 0 ≤ tapAt S at_ k := by
  obtain ⟨w1, w2, w3, w4⟩ := hS.win k1
  have W := windowB_iff w1
  have B := shapeB_iff.1 hS.inB
  have O := shapeB_iff.1 hS.outB
  obtain ⟨_, _, o3, o4⟩ := outE_zero w2
  obtain ⟨t1, t2, t3⟩ := taps_win hS k1
  have eH : spanH S.In S.Op.Win = S.In.H + S.Op.Win.Top + S.Op.Win.Bottom - S.Op.Win.KH := by unfold spanH; rw [show w64 (S.In.H + S.Op.Win.Top) = _ from w64_id (by omega), show w64 (S.In.H + S.Op.Win.Top + S.Op.Win.Bottom) = _ from w64_id (by omega)]; exact w64_id (by omega)
  have eW : spanW S.In S.Op.Win = S.In.W + S.Op.Win.Left + S.Op.Win.Right - S.Op.Win.KW := by unfold spanW; rw [show w64 (S.In.W + S.Op.Win.Left) = _ from w64_id (by omega), show w64 (S.In.W + S.Op.Win.Left + S.Op.Win.Right) = _ from w64_id (by omega)]; exact w64_id (by omega)
  have hH : S.Out.H = (S.In.H + S.Op.Win.Top + S.Op.Win.Bottom - S.Op.Win.KH) / S.Op.Win.SH + 1 := by
    rw [eH] at o3
    have h0 := Int.ediv_nonneg o3 (show 0 ≤ S.Op.Win.SH by omega)
    have h1 := Int.ediv_le_self S.Op.Win.SH o3
    rw [w3]; unfold outH
    rw [if_pos hS.inB, if_pos w1, if_neg (by rw [eH]; omega), eH, Int.tdiv_eq_ediv_of_nonneg o3, show w64 ((S.In.H + S.Op.Win.Top + S.Op.Win.Bottom - S.Op.Win.KH) / S.Op.Win.SH) = _ from w64_id (by omega)]
    exact w64_id (by omega)
  have hW : S.Out.W = (S.In.W + S.Op.Win.Left + S.Op.Win.Right - S.Op.Win.KW) / S.Op.Win.SW + 1 := by
    rw [eW] at o4
    have h0 := Int.ediv_nonneg o4 (show 0 ≤ S.Op.Win.SW by omega)
    have h1 := Int.ediv_le_self S.Op.Win.SW o4
    rw [w4]; unfold outW
    rw [if_pos hS.inB, if_pos w1, if_neg (by rw [eW]; omega), eW, Int.tdiv_eq_ediv_of_nonneg o4, show w64 ((S.In.W + S.Op.Win.Left + S.Op.Win.Right - S.Op.Win.KW) / S.Op.Win.SW) = _ from w64_id (by omega)]
    exact w64_id (by omega)
  have r0 : 0 ≤ at_ / S.Out.W := Int.ediv_nonneg hat.1 (by omega)
  have r1 : at_ / S.Out.W < S.Out.H := Int.ediv_lt_of_lt_mul (by omega) hat.2
  have c0 : 0 ≤ at_ % S.Out.W := Int.emod_nonneg _ (by omega)
  have c1 : at_ % S.Out.W < S.Out.W := Int.emod_lt_of_pos _ (by omega)
  have yy : at_ / S.Out.W * S.Op.Win.SH ≤ S.In.H + S.Op.Win.Top + S.Op.Win.Bottom - S.Op.Win.KH := by
    have h1 : at_ / S.Out.W ≤ (S.In.H + S.Op.Win.Top + S.Op.Win.Bottom - S.Op.Win.KH) / S.Op.Win.SH := by omega
    exact Int.le_trans (Int.mul_le_mul_of_nonneg_right h1 (by omega)) (Int.ediv_mul_le _ (by omega))
  have xx : at_ % S.Out.W * S.Op.Win.SW ≤ S.In.W + S.Op.Win.Left + S.Op.Win.Right - S.Op.Win.KW := by
    have h1 : at_ % S.Out.W ≤ (S.In.W + S.Op.Win.Left + S.Op.Win.Right - S.Op.Win.KW) / S.Op.Win.SW := by omega
    exact Int.le_trans (Int.mul_le_mul_of_nonneg_right h1 (by omega)) (Int.ediv_mul_le _ (by omega))
  have yy0 : 0 ≤ at_ / S.Out.W * S.Op.Win.SH := Int.mul_nonneg r0 (by omega)
  have xx0 : 0 ≤ at_ % S.Out.W * S.Op.Win.SW := Int.mul_nonneg c0 (by omega)
  have eT : tapsTop S.In S.Op.Win at_ = at_ / S.Out.W * S.Op.Win.SH - S.Op.Win.Top := by
    unfold tapsTop
    rw [← w4, Int.tdiv_eq_ediv_of_nonneg hat.1, show w64 (at_ / S.Out.W) = _ from w64_id (by omega), show w64 (at_ / S.Out.W * S.Op.Win.SH) = _ from w64_id (by omega)]
    exact w64_id (by omega)
  have eL : tapsLeft S.In S.Op.Win at_ = at_ % S.Out.W * S.Op.Win.SW - S.Op.Win.Left := by
    unfold tapsLeft
    rw [← w4, Int.tmod_eq_emod_of_nonneg hat.1, show w64 (at_ % S.Out.W * S.Op.Win.SW) = _ from w64_id (by omega)]
    exact w64_id (by omega)
  have hY : -S.Op.Win.Top ≤ tapsTop S.In S.Op.Win at_ ∧ tapsTop S.In S.Op.Win at_ ≤ S.In.H + S.Op.Win.Bottom - S.Op.Win.KH := by rw [eT]; omega
  have hX : -S.Op.Win.Left ≤ tapsLeft S.In S.Op.Win at_ ∧ tapsLeft S.In S.Op.Win at_ ≤ S.In.W + S.Op.Win.Right - S.Op.Win.KW := by rw [eL]; omega
  unfold tapAt
  generalize tapsTop S.In S.Op.Win at_ = Y at *
  generalize tapsLeft S.In S.Op.Win at_ = X at *
  clear eT eL yy xx yy0 xx0 hH hW
  obtain ⟨ky, hky⟩ : ∃ ky, ky = max Y 0 - Y := ⟨_, rfl⟩
  obtain ⟨kx, hkx⟩ : ∃ kx, kx = max X 0 - X := ⟨_, rfl⟩
  have b1 : 0 ≤ ky ∧ ky < S.Op.Win.KH := by omega
  have b2 : 0 ≤ kx ∧ kx < S.Op.Win.KW := by omega
  have hk := yx_lt b1 b2
  refine ⟨(ky * S.Op.Win.KW + kx).toNat, by unfold tapN; rw [t1]; omega, ?_⟩
  have ek : (((ky * S.Op.Win.KW + kx).toNat : Nat) : Int) = ky * S.Op.Win.KW + kx := by omega
  have d1 : (ky * S.Op.Win.KW + kx).tdiv S.Op.Win.KW = ky := by rw [Int.tdiv_eq_ediv_of_nonneg hk.1, Int.add_comm, Int.add_mul_ediv_right _ _ (by omega), Int.ediv_eq_zero_of_lt b2.1 b2.2]; omega
  have d2 : (ky * S.Op.Win.KW + kx).tmod S.Op.Win.KW = kx := by rw [Int.tmod_eq_emod_of_nonneg hk.1, Int.add_comm, Int.add_mul_emod_self_right, Int.emod_eq_of_lt b2.1 b2.2]
  rw [ek]
  unfold tapPlace
  dsimp only
  rw [d1, d2, show w64 ky = ky from w64_id (by omega), show w64 (Y + ky) = Y + ky from w64_id (by omega), show w64 (X + kx) = X + kx from w64_id (by omega), show w64 (S.In.H - 1) = S.In.H - 1 from w64_id (by omega), show w64 (S.In.W - 1) = S.In.W - 1 from w64_id (by omega)]
  have c1 : inB (Y + ky) 0 (S.In.H - 1) = true := by simp [inB]; omega
  have c2 : inB (X + kx) 0 (S.In.W - 1) = true := by simp [inB]; omega
  rw [c1, c2]
  have z := yx_lt (y := Y + ky) (x := X + kx) (H := S.In.H) (W := S.In.W) (by omega) (by omega)
  have z2 : S.In.H * S.In.W ≤ 1024 * 1024 := Int.mul_le_mul B.1.2 B.2.1.2 (by omega) (by omega)
  have z0 : 0 ≤ (Y + ky) * S.In.W := Int.mul_nonneg (by omega) (by omega)
  show 0 ≤ w64 (w64 ((Y + ky) * S.In.W) + (X + kx))
  rw [show w64 ((Y + ky) * S.In.W) = (Y + ky) * S.In.W from w64_id (by omega), show w64 _ = _ from w64_id (by omega)]
  omega
/-- how many terms are padding -/
def padN (S : Site) (at_ : Int) (n : Nat) : Nat := ((List.range n).filter fun k => decide (tapAt S at_ k < 0)).length
def negN (S : Site) (ch at_ : Int) (n : Nat) : Nat := ((List.range n).filter fun k => decide (atF S ch at_ k < 0)).length
theorem padN_succ (S : Site) (at_ : Int) (n : Nat) : padN S at_ (n + 1) = padN S at_ n + if tapAt S at_ n < 0 then 1 else 0 := by
  unfold padN; rw [List.range_succ, List.filter_append, List.length_append]
  by_cases h : tapAt S at_ n < 0 <;> simp [h]
theorem negN_succ (S : Site) (ch at_ : Int) (n : Nat) : negN S ch at_ (n + 1) = negN S ch at_ n + if atF S ch at_ n < 0 then 1 else 0 := by
  unfold negN; rw [List.range_succ, List.filter_append, List.length_append]
  by_cases h : atF S ch at_ n < 0 <;> simp [h]
theorem negN_le (S : Site) (ch at_ : Int) (n : Nat) : negN S ch at_ n ≤ n := by
  unfold negN; exact Nat.le_trans (List.length_filter_le _ _) (by simp)
theorem negN_lt {S : Site} {ch at_ : Int} : ∀ {n i : Nat}, i < n → ¬ atF S ch at_ i < 0 → negN S ch at_ n < n
  | 0, i, h, _ => by omega
  | n + 1, i, h, h0 => by
    rw [negN_succ]
    rcases Nat.lt_or_ge i n with h1 | h1
    · have := negN_lt h1 h0; split <;> omega
    · have : i = n := by omega
      subst this
      rw [if_neg h0]; have := negN_le S ch at_ i; omega
theorem atF_neg {S : Site} (hS : SiteOk S) (k1 : S.Op.Kind ≠ 1) {ch : Int} (hch : 1 ≤ ch ∧ ch ≤ S.Out.C) (at_ : Int) (i : Nat) : atF S ch at_ i < 0 ↔ tapAt S at_ (if S.Op.Kind = 2 then i / S.In.C.toNat else i) < 0 := by
  have B := shapeB_iff.1 hS.inB
  unfold atF
  rw [if_neg k1]
  by_cases k2 : S.Op.Kind = 2
  · rw [if_pos k2, if_pos k2]
    have mi : i % S.In.C.toNat < S.In.C.toNat := Nat.mod_lt _ (by omega)
    rcases tapAt_range hS at_ (i / S.In.C.toNat) with e | e
    · rw [e]; simp
    · rw [if_neg (by omega)]
      obtain ⟨v1, v2, _⟩ := pc_val hS e (c := ((i % S.In.C.toNat : Nat) : Int)) ⟨Int.natCast_nonneg _, by have := Int.ofNat_lt.2 mi; omega⟩
      rw [v1]; omega
  · rw [if_neg k2, if_neg k2]
    have o3 := hS.out3 (by have := hS.kind; omega)
    rcases tapAt_range hS at_ i with e | e
    · rw [e]; simp
    · rw [if_neg (by omega)]
      obtain ⟨v1, v2, _⟩ := pc_val hS e (c := ch - 1) ⟨by omega, by omega⟩
      rw [v1]; omega
theorem negN_conv {S : Site} (hS : SiteOk S) (k2 : S.Op.Kind = 2) {ch : Int} (hch : 1 ≤ ch ∧ ch ≤ S.Out.C) (at_ : Int) (n : Nat) : negN S ch at_ (n * S.In.C.toNat) = padN S at_ n * S.In.C.toNat := by
  have B := shapeB_iff.1 hS.inB
  induction n with
  | zero => simp [negN, padN]
  | succ n ih =>
    have step : ∀ c, c ≤ S.In.C.toNat → negN S ch at_ (n * S.In.C.toNat + c) = negN S ch at_ (n * S.In.C.toNat) + if tapAt S at_ n < 0 then c else 0 := by
      intro c
      induction c with
      | zero => intro _; simp
      | succ c ihc =>
        intro hc
        have e : (n * S.In.C.toNat + c) / S.In.C.toNat = n := by rw [Nat.mul_comm, Nat.mul_add_div (by omega), Nat.div_eq_of_lt (by omega), Nat.add_zero]
        have hn := atF_neg hS (by omega) hch at_ (n * S.In.C.toNat + c)
        rw [if_pos k2, e] at hn
        rw [← Nat.add_assoc, negN_succ, ihc (by omega)]
        by_cases h : tapAt S at_ n < 0
        · rw [if_pos h, if_pos (hn.2 h), if_pos h]; omega
        · rw [if_neg h, if_neg (fun z => h (hn.1 z)), if_neg h]
    rw [Nat.add_mul, Nat.one_mul, step _ (Nat.le_refl _), ih, padN_succ]
    split
    · rw [Nat.add_mul, Nat.one_mul]
    · simp
theorem negN_rest {S : Site} (hS : SiteOk S) (k1 : S.Op.Kind ≠ 1) (k2 : S.Op.Kind ≠ 2) {ch : Int} (hch : 1 ≤ ch ∧ ch ≤ S.Out.C) (at_ : Int) (n : Nat) : negN S ch at_ n = padN S at_ n := by
  induction n with
  | zero => rfl
  | succ n ih =>
    rw [negN_succ, padN_succ, ih]
    have hn := atF_neg hS k1 hch at_ n
    rw [if_neg k2] at hn
    by_cases h : tapAt S at_ n < 0
    · rw [if_pos h, if_pos (hn.2 h)]
    · rw [if_neg h, if_neg (fun z => h (hn.1 z))]
/-- as many as the window's -/
theorem negN_all {S : Site} (hS : SiteOk S) (k1 : S.Op.Kind ≠ 1) {ch : Int} (hch : 1 ≤ ch ∧ ch ≤ S.Out.C) (at_ : Int) : negN S ch at_ S.Len.toNat = padN S at_ (tapN S.Op.Win) * (if S.Op.Kind = 2 then S.In.C.toNat else 1) := by
  have B := shapeB_iff.1 hS.inB
  obtain ⟨t1, t2, t3⟩ := taps_win hS k1
  by_cases k2 : S.Op.Kind = 2
  · rw [if_pos k2, ← negN_conv hS k2 hch]
    congr 1
    unfold tapN; rw [t1, hS.len2 k2, ← Int.toNat_mul (by omega) (by omega)]
  · rw [if_neg k2, Nat.mul_one, ← negN_rest hS k1 k2 hch]
    congr 1
    unfold tapN; rw [t1, ← hS.len3 (by have := hS.kind; omega)]
theorem neg_less {S : Site} (hS : SiteOk S) (k1 : S.Op.Kind ≠ 1) {ch : Int} (hch : 1 ≤ ch ∧ ch ≤ S.Out.C) {at_ : Int} (hat : 0 ≤ at_ ∧ at_ < S.Out.H * S.Out.W) : negN S ch at_ S.Len.toNat < S.Len.toNat := by
  have B := shapeB_iff.1 hS.inB
  obtain ⟨t1, t2, t3⟩ := taps_win hS k1
  obtain ⟨k, hk, h0⟩ := tap_in hS k1 hat
  by_cases k2 : S.Op.Kind = 2
  · have hTn : tapN S.Op.Win * S.In.C.toNat = S.Len.toNat := by unfold tapN; rw [t1, hS.len2 k2, ← Int.toNat_mul (by omega) (by omega)]
    refine negN_lt (i := k * S.In.C.toNat) ?_ ?_
    · rw [← hTn]; exact Nat.mul_lt_mul_of_pos_right hk (by omega)
    · rw [atF_neg hS k1 hch, if_pos k2, Nat.mul_div_cancel _ (by omega)]; omega
  · have hTn : tapN S.Op.Win = S.Len.toNat := by unfold tapN; rw [t1, ← hS.len3 (by have := hS.kind; omega)]
    refine negN_lt (i := k) (by omega) ?_
    rw [atF_neg hS k1 hch, if_neg k2]; omega
end Go.AM
end
section
open Go Go.AM Go.Proofs
set_option maxRecDepth 10000
set_option linter.unusedVariables false
set_option linter.unusedSimpArgs false
namespace Go.AM
theorem tap_inv' {s : Shape} {w : Window} {top left : Int} {k : Nat} {x : List AV} (h : (tapList s w top left)[k]? = some x) : k < tapN w ∧ x = [.int .i64 (k : Int), .int .i64 (tapPlace s w top left k)] := by
  simp only [tapList, List.getElem?_map] at h
  by_cases hk : k < tapN w
  · simp [hk] at h; exact ⟨hk, h.symm⟩
  · simp [hk] at h
def padW (s : Shape) (w : Window) (top left : Int) (n : Nat) : Nat := ((List.range n).filter fun (k : Nat) => decide (tapPlace s w top left k < 0)).length
theorem padW_succ (s : Shape) (w : Window) (top left : Int) (n : Nat) : padW s w top left (n + 1) = padW s w top left n + if tapPlace s w top left n < 0 then 1 else 0 := by
  unfold padW; rw [List.range_succ, List.filter_append, List.length_append]
  by_cases h : tapPlace s w top left n < 0 <;> simp [h]
theorem padW_le (s : Shape) (w : Window) (top left : Int) (n : Nat) : padW s w top left n ≤ n := by
  unfold padW; exact Nat.le_trans (List.length_filter_le _ _) (by simp)
theorem window_Padded (s : Shape) (w : Window) (at_ : Int) (hbad : tapsBad s w at_ = false) (hkw : w.KW ≠ 0) (hn : 0 ≤ w64 (w.KH * w.KW)) (hn2 : w64 (w.KH * w.KW) ≤ 4096) :
    Ok Try.prog 23 [.agg (shapeC s), .agg (windowC w), .int .i64 at_] (.tup [.int .i64 (padW s w (tapsTop s w at_) (tapsLeft s w at_) (tapN w) : Int), .int .i64 0]) := by
  have hT : tapN w ≤ 4096 := by simp only [tapN]; omega
  have hE : outE s w = 0 := by
    unfold tapsBad at hbad
    cases hq : outE s w != 0 with
    | true => rw [hq] at hbad; simp at hbad
    | false => simpa using hq
  have hc22 : (outE s w != 0) = false := by simp [hE]
  have hc32 : (bif decide (at_ < 0) then true else decide (at_ ≥ w64 (outH s w * outW s w))) = false := by
    unfold tapsBad at hbad; rw [hc22] at hbad
    cases h1 : decide (at_ < 0) <;> cases h2 : decide (at_ ≥ w64 (outH s w * outW s w)) <;> simp [h1, h2] at hbad ⊢
  refine fn_ok Tb_ok (fn := Try.f23) Try.func23 rfl rfl (e := [(0, _), (1, _), (2, _)]) rfl (by decide) rfl ?_
  refine zs ?_
  refine zR ?_
  refine zbx [.int _ _, .int _ _, .int _ _] 3 ?_
  refine zbx [.int _ _, .int _ _, .int _ _, .int _ _, .int _ _, .int _ _, .int _ _, .int _ _] 8 ?_
  refine zLI ?_
  refine zLI ?_
  refine zn ?_
  refine zs ?_
  refine zR ?_
  refine zLG [.int _ _, .int _ _, .int _ _] ?_
  refine zLG [.int _ _, .int _ _, .int _ _, .int _ _, .int _ _, .int _ _, .int _ _, .int _ _] ?_
  refine zLc (window_Out s w) ?_
  refine zLT [_, _, _] ?_
  refine zLI ?_
  refine zLI ?_
  refine zLI ?_
  refine zLI ?_
  refine zLI ?_
  refine zLI ?_
  refine zn ?_
  refine zs ?_
  refine zs ?_
  refine zR ?_
  refine zLI ?_
  refine zLB ?_
  refine zn ?_
  refine W_cond_f (b := _) rfl (by exact hc22) ?_
  refine zk ?_
  refine zs ?_
  refine zs ?_
  refine zR ?_
  refine zLI ?_
  refine zLB ?_
  refine zLB ?_
  refine zgLI ?_
  refine zgLI ?_
  refine zgLI ?_
  refine zgLI ?_
  refine zgLB ?_
  refine zpLB ?_
  refine zn ?_
  refine W_cond_f (b := _) rfl (by exact hc32) ?_
  refine zk ?_
  refine zs ?_
  refine zR ?_
  refine zal [.int .i64 0] 1 ?_
  refine zst (.int _ _) [_] [[_]] ?_
  refine zn ?_
  refine zs ?_
  refine zs ?_
  refine zR ?_
  refine zLG [.int _ _, .int _ _, .int _ _] ?_
  refine zLG [.int _ _, .int _ _, .int _ _, .int _ _, .int _ _, .int _ _, .int _ _, .int _ _] ?_
  refine zLI ?_
  refine zLc (window_Taps_yes s w at_ hbad) ?_
  refine zn ?_
  refine W_block ?_
  refine W_range (xs := tapList s w (tapsTop s w at_) (tapsLeft s w at_)) rfl trivial rfl rfl (window_Taps2 _ _ _ _ hkw hn (by omega)) rfl (fun x hx => by obtain ⟨k, hk⟩ := List.getElem?_of_mem hx; rw [(tap_inv' hk).2]; rfl)
    (fun k => ([(2, some ⟨3, 1, 0, [[.int .i64 (padW s w (tapsTop s w at_) (tapsLeft s w at_) k : Int)]]⟩)], [], 3))
    (le_fit trivial ⟨.inr rfl, trivial⟩ trivial rfl rfl rfl rfl rfl) ?_ ?_
  · intro k x hx
    obtain ⟨hk, rfl⟩ := tap_inv' hx
    have hle := padW_le s w (tapsTop s w at_) (tapsLeft s w at_) k
    have hsu := padW_succ s w (tapsTop s w at_) (tapsLeft s w at_) k
    refine zR ?_
    refine zLI ?_
    refine zn ?_
    refine W_block ?_
    refine zs ?_
    refine zR ?_
    refine zLI ?_
    refine zLB ?_
    refine zn ?_
    refine W_cond (b := _) rfl (fun h40 => ?_) (fun h40 => ?_)
    · have hv : w64 ((padW s w (tapsTop s w at_) (tapsLeft s w at_) k : Int) + 1) = (padW s w (tapsTop s w at_) (tapsLeft s w at_) (k + 1) : Int) := by rw [hsu, if_pos (of_decide_eq_true h40), show w64 _ = _ from w64_id (by omega)]; omega
      refine zR ?_
      refine zLI ?_
      refine zLI ?_
      refine zst (.int _ _) [_] [[_]] ?_
      refine zn ?_
      refine le_fit trivial ⟨.inr (congrArg (fun z => some (Ob.mk 3 1 0 [[.int .i64 z]])) hv), trivial⟩ trivial rfl rfl rfl rfl rfl
    · have hv : (padW s w (tapsTop s w at_) (tapsLeft s w at_) k : Int) = (padW s w (tapsTop s w at_) (tapsLeft s w at_) (k + 1) : Int) := by rw [hsu, if_neg (of_decide_eq_false h40)]; rfl
      refine zk ?_
      refine le_fit trivial ⟨.inr (congrArg (fun z => some (Ob.mk 3 1 0 [[.int .i64 z]])) hv), trivial⟩ trivial rfl rfl rfl rfl rfl
  refine zs ?_
  refine zR ?_
  refine zLI ?_
  refine zLI ?_
  refine zLI ?_
  refine zn ?_
  refine zt ?_
  refine ends (l := [.int _ _, .int _ _]) (q := .tup [.int _ _, .int _ _]) (.inr rfl) rfl ⟨trivial, trivial, trivial⟩ rfl rfl ?_
  simp [tapList]
end Go.AM
end
section
open Go Go.AM Go.Proofs
set_option maxRecDepth 10000
set_option linter.unusedVariables false
set_option linter.unusedSimpArgs false
namespace Go.AM
theorem law10_fixed : Ok Try.prog 14 [] (.bool true) := by
  have h1 := terms_Of mPlain 1 1 0
  have h2 := terms_Of mPlain 1 2 0
  have h3 := terms_Length mPlain 1
  have h4 := law10_same [⟨3, 0⟩, ⟨-2, 1⟩] [⟨3, 0⟩, ⟨-2, 1⟩] (by decide)
  rw [show termsF mPlain 1 1 0 = [⟨3, 0⟩, ⟨-2, 1⟩] by decide +kernel, show biasF mPlain 1 1 0 = 1 by decide +kernel, show ofE mPlain 1 1 0 = 0 by decide +kernel] at h1
  rw [show termsF mPlain 1 2 0 = [] by decide +kernel, show biasF mPlain 1 2 0 = 0 by decide +kernel, show ofE mPlain 1 2 0 = 3 by decide +kernel] at h2
  rw [show (findS mPlain 1).Len = 2 by decide +kernel, show findE mPlain 1 = 0 by decide +kernel] at h3
  rw [show decide (([⟨3, 0⟩, ⟨-2, 1⟩] : List Term) = [⟨3, 0⟩, ⟨-2, 1⟩]) = true by decide +kernel] at h4
  refine fn_ok Tb_ok (fn := Try.f14) Try.func14 rfl rfl (e := []) rfl (by decide) rfl ?_
  refine zs ?_
  refine zR ?_
  refine zLB ?_
  refine zn ?_
  refine zs ?_
  refine zR ?_
  refine zLc (law10_plain) ?_
  refine zLc (h1) ?_
  refine zLT [_, _, _] ?_
  refine zLO ?_
  refine zLI ?_
  refine zLI ?_
  refine zLO ?_
  refine zLI ?_
  refine zLI ?_
  refine zn ?_
  refine zs ?_
  refine zR ?_
  refine zLc (law10_plain) ?_
  refine zLc (h3) ?_
  refine zLT [_, _] ?_
  refine zLI ?_
  refine zLI ?_
  refine zLI ?_
  refine zLI ?_
  refine zn ?_
  refine zs ?_
  refine zR ?_
  refine zLc (law10_plain) ?_
  refine zLc (h2) ?_
  refine zLT [_, _, _] ?_
  refine zLO ?_
  refine zLI ?_
  refine zLI ?_
  refine zLO ?_
  refine zLI ?_
  refine zLI ?_
  refine zn ?_
  refine zs ?_
  refine zR ?_
  refine zLO ?_
  refine zLG [.int _ _, .int _ _] ?_
  refine zLG [.int _ _, .int _ _] ?_
  refine L_build Tb_ok (t := 29) (len := 2) (el := 52) (sz := 2) (es := [[_, _], [_, _]]) (z := [.int .i64 0, .int .i64 0]) rfl rfl rfl rfl rfl (by decide) trivial rfl rfl rfl rfl rfl ?_
  refine L_freeze (t := 29) (l := _) rfl rfl rfl rfl rfl rfl rfl ?_
  refine zLc (h4) ?_
  refine zLB ?_
  refine zgLI ?_
  refine zgLB ?_
  refine zpLB ?_
  refine zLB ?_
  refine zgLI ?_
  refine zgLB ?_
  refine zpLB ?_
  refine zLB ?_
  refine zgLI ?_
  refine zgLB ?_
  refine zpLB ?_
  refine zLB ?_
  refine zgLI ?_
  refine zgLB ?_
  refine zpLB ?_
  refine zLB ?_
  refine zgLI ?_
  refine zgLB ?_
  refine zpLB ?_
  refine zLB ?_
  refine zn ?_
  refine zt ?_
  refine ends (l := [.bool _]) (q := .bool _) (.inr rfl) rfl ⟨trivial, trivial⟩ rfl rfl ?_
  rfl
end Go.AM
end
section
open Go Go.AM Go.Proofs
set_option maxRecDepth 10000
set_option linter.unusedVariables false
set_option linter.unusedSimpArgs false
namespace Go.AM
/-- which places have come, i terms told -/
def seenL (S : Site) (ch at_ : Int) (M i : Nat) : List Int := (List.range M).map fun (p : Nat) => if (List.range i).any (fun j => atF S ch at_ j == (p : Int)) then 1 else 0
theorem seenL_len (S : Site) (ch at_ : Int) (M i : Nat) : (seenL S ch at_ M i).length = M := by simp [seenL]
theorem seenL_zero (S : Site) (ch at_ : Int) (M : Nat) : seenL S ch at_ M 0 = List.replicate M 0 := by
  apply List.ext_getElem <;> simp [seenL]
theorem seenL_get {S : Site} {ch at_ : Int} {M i p : Nat} (hp : p < M) : (seenL S ch at_ M i).getD p default = if (List.range i).any (fun j => atF S ch at_ j == (p : Int)) then 1 else 0 := by
  simp [seenL, List.getD_eq_getElem?_getD, hp]
theorem seenL_neg {S : Site} {ch at_ : Int} {M i : Nat} (h : atF S ch at_ i < 0) : seenL S ch at_ M i = seenL S ch at_ M (i + 1) := by
  unfold seenL
  apply List.map_congr_left
  intro p _
  rw [List.range_succ, List.any_append]
  have : (atF S ch at_ i == (p : Int)) = false := by simp; omega
  simp [this]
theorem seenL_set {S : Site} {ch at_ : Int} {M i : Nat} (h : 0 ≤ atF S ch at_ i) : (seenL S ch at_ M i).set (atF S ch at_ i).toNat 1 = seenL S ch at_ M (i + 1) := by
  apply List.ext_getElem
  · simp [seenL]
  · intro p h1 h2
    have hp : p < M := by simpa [seenL] using h2
    rw [List.getElem_set]
    simp only [seenL, List.getElem_map, List.getElem_range]
    rw [List.range_succ, List.any_append]
    by_cases e : (atF S ch at_ i).toNat = p
    · rw [if_pos e]
      have : (atF S ch at_ i == (p : Int)) = true := by simp; omega
      simp [this]
    · rw [if_neg e]
      have : (atF S ch at_ i == (p : Int)) = false := by simp; omega
      simp [this]
theorem seenL_new {S : Site} (hS : SiteOk S) {ch : Int} (hch : 1 ≤ ch ∧ ch ≤ S.Out.C) {at_ : Int} (hat : 0 ≤ at_ ∧ at_ < S.Out.H * S.Out.W) {M i : Nat} (hi : i < S.Len.toNat) (h0 : 0 ≤ atF S ch at_ i) (hM : (atF S ch at_ i).toNat < M) : (seenL S ch at_ M i).getD (atF S ch at_ i).toNat default = 0 := by
  rw [seenL_get hM, if_neg]
  rw [Bool.not_eq_true, List.any_eq_false]
  intro j hj hq
  have hj' := List.mem_range.1 hj
  have e : atF S ch at_ j = atF S ch at_ i := by have := eq_of_beq hq; omega
  have := at_inj hS hch at_ hat (show j < S.Len.toNat by omega) hi (by omega) e
  omega
theorem atF_mod {S : Site} (hS : SiteOk S) (k1 : S.Op.Kind ≠ 1) (k2 : S.Op.Kind ≠ 2) {ch : Int} (hch : 1 ≤ ch ∧ ch ≤ S.Out.C) {at_ : Int} {i : Nat} (h0 : 0 ≤ atF S ch at_ i) : (atF S ch at_ i).tmod S.In.C = ch - 1 := by
  have B := shapeB_iff.1 hS.inB
  have o3 := hS.out3 (by have := hS.kind; omega)
  rw [Int.tmod_eq_emod_of_nonneg h0]
  unfold atF at h0 ⊢
  rw [if_neg k1, if_neg k2] at h0 ⊢
  rcases tapAt_range hS at_ i with e | e
  · rw [e] at h0; simp at h0
  · rw [if_neg (by omega)] at h0 ⊢
    obtain ⟨v1, _, _⟩ := pc_val hS e (c := ch - 1) ⟨by omega, by omega⟩
    rw [v1, Int.add_comm, Int.add_mul_emod_self_right, Int.emod_eq_of_lt (by omega) (by omega)]
/-- what the walk needs -/
structure PlF (a : Ask10) (S : Site) (M : Int) (L : List Term) (A Wt : Nat → Int) (N : Nat → Nat) (R : Nat → List Int) (p : Int) : Prop where
  hOf : Ok Try.prog 11 [.agg (modelC a.M), .int .i64 a.Op, .int .i64 a.Ch, .int .i64 a.At] (.tup [.ro (L.map termC), .int .i64 (biasF a.M a.Op a.Ch a.At), .int .i64 0])
  hLn : Ok Try.prog 19 [.agg (modelC a.M), .int .i64 a.Op] (.tup [.int .i64 S.Len, .int .i64 0])
  hFC : Ok Try.prog 12 [.agg (modelC a.M), .int .i64 a.Op, .int .i64 a.Ch] (.tup [.agg (rsiteC S), .int .i64 0])
  hpad : S.Op.Kind ≠ 1 → Ok Try.prog 23 [.agg (shapeC S.In), .agg (windowC S.Op.Win), .int .i64 a.At] (.tup [.int .i64 p, .int .i64 0])
  p1 : 0 ≤ IntKind.i64.wrap (a.Op - 1)
  p2 : IntKind.i64.wrap (a.Op - 1) < (a.M.Ops.length : Int)
  p3 : ¬ a.Op < 1
  p4 : ¬ a.Op > (a.M.Ops.length : Int)
  eo : a.M.Ops.getD (IntKind.i64.wrap (a.Op - 1)).toNat default = S.Op
  ll : L.length = S.Len.toNat
  ln : 0 ≤ S.Len ∧ S.Len ≤ 512
  wl : S.Op.Kind ≠ 4 → ¬ (S.Op.Weights.length : Int) < w64 (a.Ch * S.Len)
  mE : w64 (w64 (S.In.H * S.In.W) * S.In.C) = M
  mb : 0 ≤ M ∧ M ≤ 16384
  cc : S.In.C ≠ 0
  get : ∀ i, i < S.Len.toNat → L.getD i default = ⟨Wt i, A i⟩
  w4 : S.Op.Kind = 4 → ∀ i, Wt i = 1
  w0 : S.Op.Kind ≠ 4 → ∀ i, Wt i = w64 (S.Op.Weights.getD (w64 (w64 (w64 (a.Ch - 1) * S.Len) + i)).toNat default)
  wb : S.Op.Kind ≠ 4 → ∀ i : Nat, i < S.Len.toNat → 0 ≤ w64 (w64 (w64 (a.Ch - 1) * S.Len) + i) ∧ w64 (w64 (w64 (a.Ch - 1) * S.Len) + i) < S.Op.Weights.length
  ar : ∀ i, i < S.Len.toNat → A i = -1 ∨ (0 ≤ A i ∧ A i < M)
  rl : ∀ i, (R i).length = M.toNat
  r0 : R 0 = List.replicate M.toNat 0
  rn : ∀ i, A i < 0 → R i = R (i + 1)
  rs : ∀ i, 0 ≤ A i → (R i).set (A i).toNat 1 = R (i + 1)
  rg : ∀ i, i < S.Len.toNat → 0 ≤ A i → (R i).getD (A i).toNat default = 0
  md : S.Op.Kind ≠ 1 → S.Op.Kind ≠ 2 → ∀ i, 0 ≤ A i → (A i).tmod S.In.C = w64 (a.Ch - 1)
  n0 : N 0 = 0
  ns : ∀ i, N (i + 1) = N i + if A i < 0 then 1 else 0
  nl : ∀ i, N i ≤ i
  one : S.Op.Kind = 1 → N S.Len.toNat = 0 ∧ S.Len = M
  fin : S.Op.Kind ≠ 1 → N S.Len.toNat < S.Len.toNat ∧ (N S.Len.toNat : Int) = if S.Op.Kind = 2 then w64 (p * S.In.C) else p
theorem plF {a : Ask10} (ha : a.Wf) (z : ofE a.M a.Op a.Ch a.At = 0) : ∃ S M L A Wt N R p, PlF a S M L A Wt N R p := by
  obtain ⟨f0, fb, o1, o2, o3, _⟩ := ofE_op z
  obtain ⟨hS, ho, hop, _⟩ := site_ok f0
  obtain ⟨hch, hat⟩ := (ofBad_iff hS).1 fb
  obtain ⟨e1, e2⟩ := (rc_ok f0).1 hch
  have hOf := terms_Of a.M a.Op a.Ch a.At
  rw [termsF_eq f0 fb, z] at hOf
  have hLn := terms_Length a.M a.Op
  rw [f0] at hLn
  have hFC := ref10_FindChan a.M ha.1 a.Op a.Ch
  rw [e1, e2] at hFC
  have eo : a.M.Ops.getD (IntKind.i64.wrap (a.Op - 1)).toNat default = (findS a.M a.Op).Op := by rw [hop]; show a.M.Ops.getD (w64 (a.Op - 1)).toNat default = _; rw [o1]
  have hlen := hS.len
  have B := shapeB_iff.1 hS.inB
  have O := shapeB_iff.1 hS.outB
  have c0 : 0 ≤ (findS a.M a.Op).In.H * (findS a.M a.Op).In.W := Int.mul_nonneg (by omega) (by omega)
  have c1 : (findS a.M a.Op).In.H * (findS a.M a.Op).In.W ≤ 1024 * 1024 := Int.mul_le_mul B.1.2 B.2.1.2 (by omega) (by omega)
  have c2 : 0 ≤ (findS a.M a.Op).In.H * (findS a.M a.Op).In.W * (findS a.M a.Op).In.C := Int.mul_nonneg c0 (by omega)
  have hM : w64 (w64 ((findS a.M a.Op).In.H * (findS a.M a.Op).In.W) * (findS a.M a.Op).In.C) = (findS a.M a.Op).In.H * (findS a.M a.Op).In.W * (findS a.M a.Op).In.C := by
    rw [show w64 ((findS a.M a.Op).In.H * (findS a.M a.Op).In.W) = _ from w64_id (by omega)]; exact w64_id (by omega)
  have hM1 : (findS a.M a.Op).In.H * (findS a.M a.Op).In.W * (findS a.M a.Op).In.C ≤ 16384 := by omega
  have hCw : w64 (a.Ch - 1) = a.Ch - 1 := w64_id (by omega)
  have har := fun i hi => atF_range hS hch a.At (i := i) hi
  refine ⟨findS a.M a.Op, (findS a.M a.Op).In.H * (findS a.M a.Op).In.W * (findS a.M a.Op).In.C, tlF (findS a.M a.Op) a.Ch a.At, atF (findS a.M a.Op) a.Ch a.At, wtF (findS a.M a.Op) a.Ch, negN (findS a.M a.Op) a.Ch a.At, seenL (findS a.M a.Op) a.Ch a.At ((findS a.M a.Op).In.H * (findS a.M a.Op).In.W * (findS a.M a.Op).In.C).toNat, ((padN (findS a.M a.Op) a.At (tapN (findS a.M a.Op).Op.Win) : Nat) : Int), ?_⟩
  constructor
  case hOf => exact hOf
  case hLn => exact hLn
  case hFC => exact hFC
  case hpad => exact fun k1 => window_Padded (findS a.M a.Op).In (findS a.M a.Op).Op.Win a.At (taps_good hS k1 hat.1 hat.2) (by have := windowB_iff (hS.win k1).1; omega) (by have := taps_win hS k1; omega) (by have := taps_win hS k1; omega)
  case p1 => show 0 ≤ w64 (a.Op - 1); rw [o1]; exact o2
  case p2 => show w64 (a.Op - 1) < _; rw [o1]; exact o3
  case p3 => omega
  case p4 => omega
  case eo => exact eo
  case ll => exact tlF_len hS a.Ch a.At
  case ln => exact ⟨by omega, hlen.2⟩
  case wl => intro k4; obtain ⟨w1, w2, w3, w4, w5, w6, w7⟩ := of_weights hS k4 hch; rw [w3]; omega
  case mE => exact hM
  case mb => exact ⟨c2, hM1⟩
  case cc => omega
  case get => exact fun i hi => tlF_get hS hch a.At hi
  case w4 => intro k4 i; unfold wtF; rw [if_pos k4]
  case w0 => intro k4 i; unfold wtF; rw [if_neg k4]
  case wb =>
    intro k4 i hi
    have b2 : a.Ch * (findS a.M a.Op).Len ≤ 1024 * 512 := Int.mul_le_mul (by omega) hlen.2 (by omega) (by omega)
    obtain ⟨w1, w2, w3, w4, w5, w6, w7⟩ := of_weights hS k4 hch
    have e : w64 (w64 (w64 (a.Ch - 1) * (findS a.M a.Op).Len) + (i : Int)) = (a.Ch - 1) * (findS a.M a.Op).Len + i := by rw [w1, w2]; exact w64_id (by omega)
    rw [e]; omega
  case ar => exact har
  case rl => exact fun i => seenL_len _ _ _ _ i
  case r0 => exact seenL_zero _ _ _ _
  case rn => exact fun i h => seenL_neg h
  case rs => exact fun i h => seenL_set h
  case rg => exact fun i hi h0 => seenL_new hS hch hat hi h0 (by have := har i hi; omega)
  case md => intro k1 k2 i h0; rw [hCw]; exact atF_mod hS k1 k2 hch h0
  case n0 => rfl
  case ns => exact negN_succ _ _ _
  case nl => exact negN_le _ _ _
  case one =>
    intro k1
    refine ⟨?_, hS.len1 k1⟩
    have : ∀ n, negN (findS a.M a.Op) a.Ch a.At n = 0 := by
      intro n
      induction n with
      | zero => rfl
      | succ n ih => rw [negN_succ, ih, if_neg (by unfold atF; rw [if_pos k1]; omega)]
    exact this _
  case fin =>
    intro k1
    have hl := neg_less hS k1 hch hat
    refine ⟨hl, ?_⟩
    have hn := negN_all hS k1 hch a.At
    rw [hn] at hl ⊢
    split
    · rename_i k2
      rw [if_pos k2] at hl
      have : ((padN (findS a.M a.Op) a.At (tapN (findS a.M a.Op).Op.Win) * (findS a.M a.Op).In.C.toNat : Nat) : Int) = (padN (findS a.M a.Op) a.At (tapN (findS a.M a.Op).Op.Win) : Int) * (findS a.M a.Op).In.C := by rw [Int.natCast_mul]; congr 1; omega
      rw [this]
      have h2 : (padN (findS a.M a.Op) a.At (tapN (findS a.M a.Op).Op.Win) : Int) * (findS a.M a.Op).In.C < 512 + 1 := by rw [← this]; omega
      have h3 : 0 ≤ (padN (findS a.M a.Op) a.At (tapN (findS a.M a.Op).Op.Win) : Int) * (findS a.M a.Op).In.C := by rw [← this]; omega
      exact (w64_id (by omega)).symm
    · rw [Nat.mul_one]
end Go.AM
end
section
open Go Go.AM Go.Proofs
set_option maxRecDepth 10000
set_option linter.unusedVariables false
set_option linter.unusedSimpArgs false
namespace Go.AM
theorem termsPlaces_ok {a : Ask10} {S : Site} {M : Int} {L : List Term} {A Wt : Nat → Int} {N : Nat → Nat} {R : Nat → List Int} {p : Int} (H : PlF a S M L A Wt N R p) : Ok Try.prog 6 [.agg (ask10C a)] (.bool true) := by
  have mk1 : 0 ≤ M := H.mb.1
  have mk3 : ((Tb.at 3).bytes : Int) * M ≤ 281474976710656 := by rw [show (Tb.at 3).bytes = 8 from rfl]; have := H.mb; omega
  have mk4 : M ≤ 9223372036854775807 := by have := H.mb; omega
  --@@1
  skip
  refine fn_ok Tb_ok (fn := Try.f6) Try.func6 rfl rfl (e := [(0, _)]) rfl (by decide) rfl ?_
  refine zs ?_
  refine zR ?_
  refine zbx [.int _ _, .int _ _, .int _ _, .int _ _, .int _ _, _, .int _ _, .int _ _, .int _ _, .int _ _] 10 ?_
  refine zLB ?_
  refine zn ?_
  refine zs ?_
  refine zs ?_
  refine zR ?_
  refine zLc (law10_fixed) ?_
  refine zLB ?_
  refine zn ?_
  refine W_cond_f (b := _) rfl (by rfl) ?_
  refine zk ?_
  refine zs ?_
  refine zR ?_
  refine zLP ?_
  refine zLG [.int _ _, .int _ _, .int _ _, .int _ _, .int _ _, _, .int _ _] ?_
  refine zLP ?_
  refine zLI ?_
  refine zLP ?_
  refine zLI ?_
  refine zLP ?_
  refine zLI ?_
  refine zLc (H.hOf) ?_
  refine zLT [_, _, _] ?_
  refine zLO ?_
  refine zLI ?_
  refine zLI ?_
  refine zLO ?_
  refine zLI ?_
  refine zLI ?_
  refine zn ?_
  refine zs ?_
  refine zR ?_
  refine zLP ?_
  refine zLG [.int _ _, .int _ _, .int _ _, .int _ _, .int _ _, _, .int _ _] ?_
  refine zLP ?_
  refine zLI ?_
  refine zLc (H.hLn) ?_
  refine zLT [_, _] ?_
  refine zLI ?_
  refine zLI ?_
  refine zLI ?_
  refine zLI ?_
  refine zn ?_
  refine zs ?_
  refine zs ?_
  refine zR ?_
  refine zLI ?_
  refine zLB ?_
  refine zLB ?_
  refine zgLI ?_
  refine zgLB ?_
  refine zpLB ?_
  refine zn ?_
  refine W_cond_f (b := _) rfl (by rfl) ?_
  refine zk ?_
  refine zs ?_
  refine zs ?_
  refine zR ?_
  refine zLO ?_
  refine zLI ?_
  refine zLI ?_
  refine zLB ?_
  refine zLB ?_
  refine zgLP ?_
  refine zgLI ?_
  refine zgLB ?_
  refine zpLB ?_
  refine zLB ?_
  refine zgLP ?_
  refine zgLI ?_
  refine zgLP ?_
  refine zgLP ?_
  refine zgLO ?_
  refine zgLI ?_
  refine zgLB ?_
  refine zpLB ?_
  refine zn ?_
  refine W_cond (b := _) rfl (fun h69 => ?_) (fun h69 => ?_)
  · exfalso
    have h1 : ((L.map termC).length : Int) = S.Len := by rw [List.length_map, H.ll]; have := H.ln; omega
    have h69' : (bif (bif ((L.map termC).length : Int) != S.Len then true else decide (a.Op < 1)) then true else decide (a.Op > ((a.M.Ops.map opC).length : Int))) = true := h69
    rw [h1, List.length_map, decide_eq_false H.p3, decide_eq_false H.p4] at h69'
    simp at h69'
  · refine zk ?_
    refine zs ?_
    refine zR ?_
    refine zLP ?_
    refine zLP ?_
    refine zLO ?_
    refine zLP ?_
    refine zLI ?_
    refine zLI ?_
    (refine L_v Tb_ok (v := _) (ave_index_ro rfl rfl rfl (fun _ => rfl) rfl (by first | exact H.p1 | exact H.p2 | (rw [List.length_map]; exact H.p2)) (by first | exact H.p1 | exact H.p2 | (rw [List.length_map]; exact H.p2)) trivial) rfl ?_)
    refine zLG [.int _ _, .int _ _, .int _ _, .int _ _, .int _ _, .int _ _, .int _ _, .int _ _, .int _ _, .int _ _, .int _ _, .int _ _, _, _, .int _ _, .int _ _, .int _ _, .int _ _, .int _ _, .int _ _, .int _ _, .int _ _] ?_
    refine zal [.int .i64 0, .int .i64 0, .int .i64 0, .int .i64 0, .int .i64 0, .int .i64 0, .int .i64 0, .int .i64 0, .int .i64 0, .int .i64 0, .int .i64 0, .int .i64 0, .nils, .nils, .int .i64 0, .int .i64 0, .int .i64 0, .int .i64 0, .int .i64 0, .int .i64 0, .int .i64 0, .int .i64 0] 22 ?_
    refine zst (.agg [.int _ _, .int _ _, .int _ _, .int _ _, .int _ _, .int _ _, .int _ _, .int _ _, .int _ _, .int _ _, .int _ _, .int _ _, _, _, .int _ _, .int _ _, .int _ _, .int _ _, .int _ _, .int _ _, .int _ _, .int _ _]) [_, _, _, _, _, _, _, _, _, _, _, _, _, _, _, _, _, _, _, _, _, _] [[_, _, _, _, _, _, _, _, _, _, _, _, _, _, _, _, _, _, _, _, _, _]] ?_
    refine zn ?_
    refine zs ?_
    refine zR ?_
    simp only [H.eo]
    refine zLP ?_
    refine zLG [.int _ _, .int _ _, .int _ _, .int _ _, .int _ _, _, .int _ _] ?_
    refine zLP ?_
    refine zLI ?_
    refine zLP ?_
    refine zLI ?_
    refine zLc (H.hFC) ?_
    refine zLT [_, _] ?_
    refine zLG [.int _ _, .int _ _, .int _ _, .int _ _, .int _ _, .int _ _, .int _ _, .int _ _, .int _ _, .int _ _, .int _ _, .int _ _, _, _, .int _ _, .int _ _, .int _ _, .int _ _, .int _ _, .int _ _, .int _ _, .int _ _, .int _ _, .int _ _, .int _ _, .int _ _, .int _ _, .int _ _] ?_
    refine zLI ?_
    refine zal [.int .i64 0, .int .i64 0, .int .i64 0, .int .i64 0, .int .i64 0, .int .i64 0, .int .i64 0, .int .i64 0, .int .i64 0, .int .i64 0, .int .i64 0, .int .i64 0, .nils, .nils, .int .i64 0, .int .i64 0, .int .i64 0, .int .i64 0, .int .i64 0, .int .i64 0, .int .i64 0, .int .i64 0, .int .i64 0, .int .i64 0, .int .i64 0, .int .i64 0, .int .i64 0, .int .i64 0] 28 ?_
    refine zst (.agg [.int _ _, .int _ _, .int _ _, .int _ _, .int _ _, .int _ _, .int _ _, .int _ _, .int _ _, .int _ _, .int _ _, .int _ _, _, _, .int _ _, .int _ _, .int _ _, .int _ _, .int _ _, .int _ _, .int _ _, .int _ _, .int _ _, .int _ _, .int _ _, .int _ _, .int _ _, .int _ _]) [_, _, _, _, _, _, _, _, _, _, _, _, _, _, _, _, _, _, _, _, _, _, _, _, _, _, _, _] [[_, _, _, _, _, _, _, _, _, _, _, _, _, _, _, _, _, _, _, _, _, _, _, _, _, _, _, _]] ?_
    refine zLI ?_
    refine zn ?_
    refine zs ?_
    refine zs ?_
    refine zR ?_
    refine zLI ?_
    refine zLB ?_
    refine zLB ?_
    refine zgLP ?_
    refine zgLI ?_
    refine zgLB ?_
    refine zgLB ?_
    refine zgLP ?_
    refine zgLO ?_
    refine zgLI ?_
    refine zgLP ?_
    refine zgLI ?_
    refine zgLI ?_
    refine zgLI ?_
    refine zgLB ?_
    refine zqLB ?_
    refine zpLB ?_
    refine zn ?_
    refine W_cond (b := _) rfl (fun h104 => ?_) (fun h104 => ?_)
    · exfalso
      have h104' : (bif S.Op.Kind != 4 then decide (((S.Op.Weights.map i16C).length : Int) < w64 (a.Ch * S.Len)) else false) = true := h104
      rw [List.length_map] at h104'
      by_cases k4 : S.Op.Kind = 4
      · simp [k4] at h104'
      · rw [decide_eq_false (H.wl k4)] at h104'; simp at h104'
    · refine zk ?_
      refine zs ?_
      refine zR ?_
      refine zLP ?_
      refine zLP ?_
      refine zLI ?_
      refine zLP ?_
      refine zLP ?_
      refine zLI ?_
      refine zLI ?_
      refine zLP ?_
      refine zLP ?_
      refine zLI ?_
      refine zLI ?_
      simp only [show IntKind.i64.wrap (IntKind.i64.wrap (S.In.H * S.In.W) * S.In.C) = M from H.mE]
      refine L_make Tb_ok (el := 3) (sz := 1) (z := [.int .i64 0]) rfl rfl rfl rfl rfl rfl rfl rfl ⟨trivial, trivial⟩ (by exact ⟨mk1, Int.le_refl _⟩) (by exact ⟨mk3, mk4⟩) rfl ?_
      refine zLW ?_
      refine zn ?_
      refine zs ?_
      refine zR ?_
      refine zLI ?_
      refine zn ?_
      refine zs ?_
      refine zs ?_
      refine zR ?_
      refine zLO ?_
      refine zLI ?_
      refine zLI ?_
      refine zn ?_
      refine W_block ?_
      refine W_for S.Len.toNat (fun i => ⟨[(1, .ptr 0 0 0), (3, .ro (L.map termC)), (6, .int .i64 S.Len), (8, .ptr 1 0 0), (9, .ptr 2 0 0), (11, .row 3 0 M.toNat), (12, .int .i64 (N i : Int)), (117, .ro (L.map termC)), (118, .int .i64 ((L.map termC).length : Int)), (119, .int .i64 (i : Int))], [(0, some ⟨28, 10, 0, [ask10C a]⟩), (1, some ⟨40, 22, 0, [opC S.Op]⟩), (2, some ⟨42, 28, 0, [rsiteC S]⟩), (3, some ⟨3, 1, 0, (R i).map intC⟩)], [], 4⟩) (le_fit ⟨rfl, rfl, rfl, rfl, rfl, rfl, by rw [H.n0]; rfl, rfl, rfl, rfl, trivial⟩ ⟨.inr rfl, .inr rfl, .inr rfl, .inr (by rw [H.r0, List.map_replicate]; rfl), trivial⟩ trivial rfl rfl rfl (by simp [ltOB, intC, AV.lt, rsiteC, opC, shapeC, ask10C, modelC, windowC]) rfl) ?_
      intro i hi
      refine zs ?_
      refine zR ?_
      refine zLB ?_
      refine zn ?_
      refine zs ?_
      refine W_cond (b := _) rfl (fun h120 => ?_) (fun h120 => ?_)
      · have hlt : i < S.Len.toNat := by have := of_decide_eq_true h120; rw [List.length_map, H.ll] at this; omega
        have har := H.ar i hlt
        have hmb := H.mb
        refine zk ?_
        refine zs ?_
        refine W_block ?_
        refine zs ?_
        refine zR ?_
        refine zLI ?_
        (refine L_v Tb_ok (v := _) (ave_index_ro rfl rfl rfl (fun _ => rfl) rfl (by first | omega | assumption | decide | (simp_all; done) | (simp_all; omega)) (by first | omega | assumption | decide | (simp_all; done) | (simp_all; omega)) trivial) rfl ?_)
        refine zLG [.int _ _, .int _ _] ?_
        simp only [Int.toNat_natCast, H.get i hlt]
        refine zal [.int .i64 0, .int .i64 0] 2 ?_
        refine zLI ?_
        refine zst (.agg [.int _ _, .int _ _]) [_, _] [[_, _]] ?_
        refine zn ?_
        refine zs ?_
        refine zs ?_
        refine W_draw 42 Tb_mixed rfl (by decide) (by kernel_rfl) (by kernel_rfl) ?_
        refine zEP ?_
        refine zEI ?_
        refine zEB ?_
        refine zEB ?_
        refine zgEP ?_
        refine zgEI ?_
        refine zgEB ?_
        refine zpEB ?_
        refine zEB ?_
        refine zgEP ?_
        refine zgEI ?_
        refine zgEB ?_
        refine zgEB ?_
        refine zgEP ?_
        refine zgEI ?_
        refine zgEP ?_
        refine zgEO ?_
        refine zgEP ?_
        refine zgEI ?_
        refine zgEI ?_
        refine zgEI ?_
        refine zgEI ?_
        refine zgEI ?_
        refine zgEI ?_
        (refine E_g Tb_ok (v := _) rfl rfl ((fun hg => (ave_index_ro rfl rfl rfl (fun _ => rfl) rfl (by (have k4 : S.Op.Kind ≠ 4 := (by intro k; simp [k] at hg)); first | exact (H.wb k4 i hlt).1 | exact (H.wb k4 i hlt).2 | (rw [List.length_map]; exact (H.wb k4 i hlt).2)) (by (have k4 : S.Op.Kind ≠ 4 := (by intro k; simp [k] at hg)); first | exact (H.wb k4 i hlt).1 | exact (H.wb k4 i hlt).2 | (rw [List.length_map]; exact (H.wb k4 i hlt).2)) ⟨⟨(by first | exact hg | (simp_all; done) | (simp at hg ⊢; simp [hg])), True.intro⟩, ⟨⟨(by first | exact hg | (simp_all; done) | (simp at hg ⊢; simp [hg])), True.intro⟩, True.intro⟩⟩))) rfl rfl ?_)
        refine zgEI ?_
        refine zgEI ?_
        refine zgEB ?_
        refine zqEB ?_
        refine zpEB ?_
        refine zEB ?_
        refine zgEP ?_
        refine zgEI ?_
        refine zgEB ?_
        refine zpEB ?_
        refine zEB ?_
        refine zgEP ?_
        refine zgEI ?_
        refine zgEW ?_
        refine zgEI ?_
        refine zgEB ?_
        refine zpEB ?_
        refine LexE_nil ?_
        refine zn ?_
        refine W_cond (b := _) rfl (fun h165 => ?_) (fun h165 => ?_)
        · exfalso
          have h165' : (bif (bif (bif (bif S.Op.Kind == 4 then Wt i != 1 else false) then true else (bif S.Op.Kind != 4 then Wt i != w64 (S.Op.Weights.getD (w64 (w64 (w64 (a.Ch - 1) * S.Len) + i)).toNat default) else false)) then true else decide (A i < -1)) then true else decide (A i ≥ (M.toNat : Int))) = true := h165
          rw [decide_eq_false (show ¬ A i < -1 by omega), decide_eq_false (show ¬ A i ≥ (M.toNat : Int) by omega)] at h165'
          by_cases k4 : S.Op.Kind = 4
          · rw [H.w4 k4] at h165'; simp [k4] at h165'
          · rw [← H.w0 k4 i] at h165'; simp [k4] at h165'
        · refine zk ?_
          refine zs ?_
          refine zs ?_
          refine zR ?_
          refine zLP ?_
          refine zLI ?_
          refine zLB ?_
          refine zn ?_
          refine W_cond (b := _) rfl (fun h168 => ?_) (fun h168 => ?_)
          · have hneg : A i < 0 := by simpa using h168
            have hN : w64 ((N i : Int) + 1) = (N (i + 1) : Int) := by rw [H.ns i, if_pos hneg]; exact w_succ (show N i < 4611686018427387904 by have := H.nl i; have := H.ln; omega) (Nat.le_refl _)
            refine zs ?_
            refine zR ?_
            refine zLI ?_
            refine zLI ?_
            refine zLI ?_
            refine zn ?_
            refine W_exit ?_
            repeat (refine pass_then ?_)
            refine blockQ_hit ?_
            refine zR ?_
            refine zLI ?_
            refine zLI ?_
            refine zn ?_
            first
            | (refine for_end hlt (le_fit ⟨rfl, rfl, rfl, rfl, rfl, rfl, congrArg _ hN, rfl, rfl, congrArg _ (w_succ hlt (by have := H.ln; omega)), trivial⟩ ⟨.inr rfl, .inr rfl, .inr rfl, .inr (congrArg (fun z => some (Ob.mk 3 1 0 (List.map intC z))) (H.rn i hneg)), trivial⟩ trivial rfl rfl rfl (by simp [ltOB, intC, AV.lt, rsiteC, opC, shapeC, ask10C, modelC, windowC]) rfl); done)
            | (refine for_end hlt (le_fit ⟨rfl, rfl, rfl, rfl, rfl, rfl, congrArg _ hN0, rfl, rfl, congrArg _ (w_succ hlt (by have := H.ln; omega)), trivial⟩ ⟨.inr rfl, .inr rfl, .inr rfl, .inr rfl, trivial⟩ trivial rfl rfl rfl (by first | rfl | simp [ltOB, intC, AV.lt, rsiteC, opC, shapeC, ask10C, modelC, windowC]) rfl); done)
          · have hA0 : 0 ≤ A i := by simpa using h168
            have hN0 : (N i : Int) = (N (i + 1) : Int) := by rw [H.ns i, if_neg (by omega)]; rfl
            have hAM : (A i).toNat < (R i).length := by rw [H.rl]; omega
            have hr1 : (R (i + 1)).getD (A i).toNat default = 1 := by rw [← H.rs i hA0, List.getD_eq_getElem?_getD, List.getElem?_set_self hAM]; rfl
            have hAM1 : (A i).toNat < (R (i + 1)).length := by rw [H.rl]; omega
            refine zk ?_
            refine zs ?_
            refine zR ?_
            refine zLW ?_
            refine zLP ?_
            refine zLI ?_
            (refine L_v Tb_ok (v := _) (ave_index_row rfl rfl rfl rfl rfl rfl (by first | omega | assumption | decide | (simp_all; done) | (simp_all; omega)) (by first | omega | assumption | decide | (simp_all; done) | (simp_all; omega)) trivial) rfl ?_)
            refine L_v Tb_ok (v := .int .i64 ((R i).getD (0 + (A i).toNat) default)) ?_ rfl ?_
            · show Av Tb _ _ _ (loadv (Tb.at 3) ((intC ((R i).getD (0 + (A i).toNat) default)).drop 0))
              exact ave_load_row (f := intC) (xs := R i) rfl rfl rfl rfl (by rw [Nat.zero_add]; exact hAM) trivial
            simp only [Nat.zero_add, H.rg i hlt hA0]
            refine zLI ?_
            (refine L_v Tb_ok (v := _) (ave_index_row rfl rfl rfl rfl rfl rfl (by first | omega | assumption | decide | (simp_all; done) | (simp_all; omega)) (by first | omega | assumption | decide | (simp_all; done) | (simp_all; omega)) trivial) rfl ?_)
            refine L_store_row Tb_ok (f := intC) (xs := R i) (v' := 1) rfl rfl rfl rfl rfl rfl rfl rfl (by rw [Nat.zero_add]; exact hAM) rfl ⟨trivial, trivial⟩ ?_
            simp only [Nat.zero_add, H.rs i hA0]
            refine zn ?_
            refine zs ?_
            refine W_draw 28 Tb_mixed rfl (by decide) (by kernel_rfl) (by kernel_rfl) ?_
            refine zEW ?_
            refine zEP ?_
            refine zEI ?_
            (refine E_v Tb_ok (v := _) (ave_index_row rfl rfl rfl rfl rfl rfl (by first | omega | assumption | decide | (simp_all; done) | (simp_all; omega)) (by first | omega | assumption | decide | (simp_all; done) | (simp_all; omega)) trivial) rfl ?_)
            refine E_v Tb_ok (v := .int .i64 ((R (i + 1)).getD (0 + (A i).toNat) default)) ?_ rfl ?_
            · show Av Tb _ _ _ (loadv (Tb.at 3) ((intC ((R (i + 1)).getD (0 + (A i).toNat) default)).drop 0))
              exact ave_load_row (f := intC) (xs := R (i + 1)) rfl rfl rfl rfl (by rw [Nat.zero_add]; exact hAM1) trivial
            simp only [Nat.zero_add, hr1]
            refine zEB ?_
            refine zEB ?_
            refine zgEP ?_
            refine zgEI ?_
            refine zgEB ?_
            refine zgEB ?_
            refine zgEP ?_
            refine zgEI ?_
            refine zgEB ?_
            refine zqEB ?_
            refine zgEB ?_
            refine zgEP ?_
            refine zgEI ?_
            refine zgEP ?_
            refine zgEP ?_
            refine zgEI ?_
            refine E_g Tb_ok (v := .int _ _) rfl rfl ((fun hg => (av rfl ⟨⟨⟨(by exact hg), True.intro⟩, ⟨⟨(by exact hg), True.intro⟩, True.intro⟩⟩, (by exact H.cc)⟩))) rfl rfl ?_
            refine zgEP ?_
            refine zgEI ?_
            refine zgEI ?_
            refine zgEB ?_
            refine zqEB ?_
            refine zpEB ?_
            refine LexE_nil ?_
            refine zn ?_
            refine W_cond (b := _) rfl (fun h205 => ?_) (fun h205 => ?_)
            · exfalso
              have h205' : (bif (bif S.Op.Kind == 3 then true else S.Op.Kind == 4) then (A i).tmod S.In.C != w64 (a.Ch - 1) else false) = true := h205
              by_cases k3 : S.Op.Kind = 3 ∨ S.Op.Kind = 4
              · rw [H.md (by omega) (by omega) i hA0] at h205'; rcases k3 with k3 | k3 <;> simp [k3] at h205'
              · simp [show S.Op.Kind ≠ 3 by omega, show S.Op.Kind ≠ 4 by omega] at h205'
            · refine zk ?_
              refine zR ?_
              refine zLI ?_
              refine zLI ?_
              refine zn ?_
              first
              | (refine for_end hlt (le_fit ⟨rfl, rfl, rfl, rfl, rfl, rfl, congrArg _ hN, rfl, rfl, congrArg _ (w_succ hlt (by have := H.ln; omega)), trivial⟩ ⟨.inr rfl, .inr rfl, .inr rfl, .inr (congrArg (fun z => some (Ob.mk 3 1 0 (List.map intC z))) (H.rn i hneg)), trivial⟩ trivial rfl rfl rfl (by first | rfl | simp [ltOB, intC, AV.lt, rsiteC, opC, shapeC, ask10C, modelC, windowC]) rfl); done)
              | (refine for_end hlt (le_fit ⟨rfl, rfl, rfl, rfl, rfl, rfl, congrArg _ hN0, rfl, rfl, congrArg _ (w_succ hlt (by have := H.ln; omega)), trivial⟩ ⟨.inr rfl, .inr rfl, .inr rfl, .inr rfl, trivial⟩ trivial rfl rfl rfl (by simp [ltOB, intC, AV.lt, rsiteC, opC, shapeC, ask10C, modelC, windowC]) rfl); done)
      · have hie : i = S.Len.toNat := by have := of_decide_eq_false h120; rw [List.length_map, H.ll] at this; omega
        refine W_exit ?_
        repeat (first | refine pass_then ?_ | refine pass_for ?_)
        refine blockQ_hit ?_
        refine zs ?_
        refine zs ?_
        refine zR ?_
        refine zLP ?_
        refine zLI ?_
        refine zLB ?_
        refine zn ?_
        refine W_cond (b := _) rfl (fun h209 => ?_) (fun h209 => ?_)
        · have hk1 : S.Op.Kind = 1 := by simpa using h209
          refine zs ?_
          refine zR ?_
          refine zLI ?_
          refine zLB ?_
          refine zLB ?_
          refine zgLI ?_
          refine zgLW ?_
          refine zgLI ?_
          refine zgLB ?_
          refine zpLB ?_
          refine zLB ?_
          refine zn ?_
          refine zt ?_
          refine ends (l := [.bool _]) (q := .bool _) (.inr rfl) rfl ⟨trivial, trivial⟩ rfl rfl ?_
          obtain ⟨n1, n2⟩ := H.one hk1
          rw [hie, n1, show ((M.toNat : Nat) : Int) = M by have := H.mb; omega, ← n2]
          simp
        · have hk1 : S.Op.Kind ≠ 1 := by simpa using h209
          refine zk ?_
          refine zs ?_
          refine zR ?_
          refine zLP ?_
          refine zLG [.int _ _, .int _ _, .int _ _] ?_
          refine zLP ?_
          refine zLG [.int _ _, .int _ _, .int _ _, .int _ _, .int _ _, .int _ _, .int _ _, .int _ _] ?_
          refine zLP ?_
          refine zLI ?_
          refine zLc (H.hpad hk1) ?_
          refine zLT [_, _] ?_
          refine zLI ?_
          refine zLI ?_
          refine zLI ?_
          refine zLI ?_
          refine zn ?_
          refine zs ?_
          refine zs ?_
          refine zR ?_
          refine zLP ?_
          refine zLI ?_
          refine zLB ?_
          refine zn ?_
          refine W_cond (b := _) rfl (fun h230 => ?_) (fun h230 => ?_)
          · refine zR ?_
            refine zLI ?_
            refine zLP ?_
            refine zLP ?_
            refine zLI ?_
            refine zLI ?_
            refine zLI ?_
            refine zn ?_
            refine zs ?_
            refine zR ?_
            refine zLI ?_
            refine zLB ?_
            refine zLB ?_
            refine zgLI ?_
            refine zgLI ?_
            refine zgLB ?_
            refine zpLB ?_
            refine zLB ?_
            refine zgLI ?_
            refine zgLI ?_
            refine zgLB ?_
            refine zpLB ?_
            refine zLB ?_
            refine zn ?_
            refine zt ?_
            refine ends (l := [.bool _]) (q := .bool _) (.inr rfl) rfl ⟨trivial, trivial⟩ rfl rfl ?_
            have hk2 : S.Op.Kind = 2 := by simpa using h230
            obtain ⟨f1, f2⟩ := H.fin hk1
            rw [if_pos hk2] at f2
            have f3 : ((N S.Len.toNat : Nat) : Int) < S.Len := by have := H.ln; omega
            rw [hie, decide_eq_true f3, f2]
            show AV.bool (bif bif 0 == 0 then w64 (p * S.In.C) == w64 (p * S.In.C) else false then true else false) = _
            simp
          · refine zk ?_
            refine zs ?_
            refine zR ?_
            refine zLI ?_
            refine zLB ?_
            refine zLB ?_
            refine zgLI ?_
            refine zgLI ?_
            refine zgLB ?_
            refine zpLB ?_
            refine zLB ?_
            refine zgLI ?_
            refine zgLI ?_
            refine zgLB ?_
            refine zpLB ?_
            refine zLB ?_
            refine zn ?_
            refine zt ?_
            refine ends (l := [.bool _]) (q := .bool _) (.inr rfl) rfl ⟨trivial, trivial⟩ rfl rfl ?_
            have hk2 : S.Op.Kind ≠ 2 := by simpa using h230
            obtain ⟨f1, f2⟩ := H.fin hk1
            rw [if_neg hk2] at f2
            have f3 : ((N S.Len.toNat : Nat) : Int) < S.Len := by have := H.ln; omega
            rw [hie, decide_eq_true f3, f2]
            simp
theorem termsPlaces (a : Ask10) (ha : a.Wf) : Ok Try.prog 6 [.agg (ask10C a)] (.bool true) := by
  by_cases z : ofE a.M a.Op a.Ch a.At = 0
  · obtain ⟨S, M, L, A, Wt, N, R, p, H⟩ := plF ha z
    exact termsPlaces_ok H
  · have hEf : termsF a.M a.Op a.Ch a.At = [] := (ofE_bad z).1
    --@@2
    skip
    refine fn_ok Tb_ok (fn := Try.f6) Try.func6 rfl rfl (e := [(0, _)]) rfl (by decide) rfl ?_
    refine zs ?_
    refine zR ?_
    refine zbx [.int _ _, .int _ _, .int _ _, .int _ _, .int _ _, _, .int _ _, .int _ _, .int _ _, .int _ _] 10 ?_
    refine zLB ?_
    refine zn ?_
    refine zs ?_
    refine zs ?_
    refine zR ?_
    refine zLc (law10_fixed) ?_
    refine zLB ?_
    refine zn ?_
    refine W_cond_f (b := _) rfl (by rfl) ?_
    refine zk ?_
    refine zs ?_
    refine zR ?_
    refine zLP ?_
    refine zLG [.int _ _, .int _ _, .int _ _, .int _ _, .int _ _, _, .int _ _] ?_
    refine zLP ?_
    refine zLI ?_
    refine zLP ?_
    refine zLI ?_
    refine zLP ?_
    refine zLI ?_
    refine zLc (terms_Of a.M a.Op a.Ch a.At) ?_
    refine zLT [_, _, _] ?_
    refine zLO ?_
    refine zLI ?_
    refine zLI ?_
    refine zLO ?_
    refine zLI ?_
    refine zLI ?_
    refine zn ?_
    refine zs ?_
    refine zR ?_
    refine zLP ?_
    refine zLG [.int _ _, .int _ _, .int _ _, .int _ _, .int _ _, _, .int _ _] ?_
    refine zLP ?_
    refine zLI ?_
    refine zLc (terms_Length a.M a.Op) ?_
    refine zLT [_, _] ?_
    refine zLI ?_
    refine zLI ?_
    refine zLI ?_
    refine zLI ?_
    refine zn ?_
    refine zs ?_
    refine zs ?_
    refine zR ?_
    refine zLI ?_
    refine zLB ?_
    refine zLB ?_
    refine zgLI ?_
    refine zgLB ?_
    refine zpLB ?_
    refine zn ?_
    refine W_cond (b := _) rfl (fun h44 => ?_) (fun h44 => ?_)
    · refine zs ?_
      refine zR ?_
      refine zLO ?_
      refine zLI ?_
      refine zLB ?_
      refine zLB ?_
      refine zgLI ?_
      refine zgLB ?_
      refine zpLB ?_
      refine zLB ?_
      refine zn ?_
      refine zt ?_
      refine ends (l := [.bool _]) (q := .bool _) (.inr rfl) rfl ⟨trivial, trivial⟩ rfl rfl ?_
      have q : (ofE a.M a.Op a.Ch a.At != 0) = true := by simpa using z
      rw [hEf, q]; rfl
    · exfalso
      have q : (ofE a.M a.Op a.Ch a.At != 0) = true := by simpa using z
      rw [q] at h44; simp at h44
end Go.AM
end
section
namespace Go.Proofs.Ytheclbekghjecaa.termsPlaces
open Go.ChangeShapes Go.WideShapes Go.ChangeAt Go.RowKit
open Go.ChangeMaps (open_string shut_string)
set_option linter.unusedVariables false
theorem own : ownKnob Try.prog.godebug = none := by kernel_rfl
theorem laidOut : laidOutB Try.prog = true := by kernel_rfl
set_option maxRecDepth 100000 in
theorem lifted (os : Os) (started : os.Started) (H : Type) (enc : TypeId × Value → H) :
    ReturnsInHanded {} Try.checked os 6 .any (Rows.termsPlacesSpec.pre6 enc Try.prog Try.f6 Rows.termsPlacesRow.domain false) (Rows.termsPlacesSpec.post enc Try.prog Try.f6 false true false false) := by
  refine returnsInHanded_of_change_sized (C := Try.checked) own started (by kernel_rfl) Try.func6
    (ChangeSpec.witness6 (enc := enc) (C := Try.checked) false ⟨#[], #[.agg #[.int .i64 0, .int .i64 0, .int .i64 0, .int .i64 0, .int .i64 0, .slice none 0 0, .int .i64 0, .int .i64 0, .int .i64 0, .int .i64 0]], []⟩ 8 (by kernel_rfl) (by kernel_rfl) (by kernel_rfl) (by kernel_rfl)) ?_
  intro W base args ds gs before hval0 hW hcnd hsz0 _
  have hsz : (DataW.weightsEach Try.prog (Try.f6.params.toList ++ Rows.termsPlacesSpec.plain.varTypes Try.prog) (ds ++ gs)).all (· ≤ reachBytes) = true := hsz0
  have hval : ∀ (j : Nat) t v, Try.f6.params[j]? = some t → args[j]? = some v → Value.okWide Try.prog W .any base t v := hval0
  have hW' := hW
  obtain ⟨p, q, hA0, hV, rfl, hfz, hnd⟩ := hW
  have hA : DataW.TrodAll enc Try.prog W 0 (fun _ => true) true Try.f6.params.toList args.toList ds p := hA0
  rw [Try.params6] at hA hval hsz
  obtain ⟨v0, vs0, d0, ds0, p0, q0, hargs, rfl, rfl, h0, r0⟩ := trodAll_cons hA
  obtain ⟨rfl, rfl, rfl⟩ := trodAll_nil r0
  obtain rfl : args = #[v0] := by cases args; simp_all
  obtain ⟨rfl, rfl⟩ := trodVars_none hV
  have k0 := h0
  have lt0 : ∀ x ∈ p0, x.block < W.heap.size := by obtain ⟨m, hm⟩ := k0; exact DataW.trod_lt m _ _ _ hm
  obtain ⟨y0, K0, w0⟩ := Go.AM.Opn.arg Go.AM.arg0 h0 (j := 0) (t := 28) hsz rfl rfl
  have R0 := Go.AM.arg_agg Try.underlying28 (hval 0 28 v0 rfl rfl) K0
  clear hA0 hval0 hsz0 hsz
  refine (Go.AM.Ok.law (Go.AM.termsPlaces y0 w0) (Go.AM.rel1 R0)).mono fun e W' ⟨he, bel⟩ => ?_
  subst he
  exact ⟨_, rfl, _, _, _, [], _, [], hW', trodAll_mk1 (shut_bool Try.underlying4 _), (trodAll_cons_mk (Below.trod laidOut (by kernel_rfl) (of_decide_eq_true (by kernel_rfl)) k0 bel lt0) trodAll_mk0), rfl, bel.frame _, fun h => by cases h⟩
theorem over : Rows.termsPlacesRow.holds Try.pinned (OpenSpec.ofChange Rows.termsPlacesSpec) :=
  OpenClaim.holds_of_wide 6 Try.f6 rfl rfl rfl rfl rfl rfl rfl ⟨rfl, rfl, rfl, rfl, rfl⟩ rfl rfl rfl rfl rfl (by kernel_rfl) Try.func6 (by kernel_rfl)
    (of_decide_eq_true (by kernel_rfl)) (by unfold Func.isWrapper; first | (rw [if_pos (by decide +kernel)]; kernel_rfl) | (rw [if_neg (by decide +kernel)]; exact ⟨rfl, rfl⟩))
    (fun os started H enc _ => lifted os started H enc)
theorem proved : Rows.TermsPlacesSaid := over
end Go.Proofs.Ytheclbekghjecaa.termsPlaces
namespace Go.Proofs.Ytheclbekghjecaa
/-- The row, under a short name, for the claim. -/
theorem termsPlaces_holds : Rows.TermsPlacesSaid := termsPlaces.proved
end Go.Proofs.Ytheclbekghjecaa
end
