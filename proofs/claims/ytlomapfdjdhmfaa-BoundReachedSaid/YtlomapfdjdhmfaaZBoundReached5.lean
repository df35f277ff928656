/- The law BoundReached answers true, whatever its arguments: part 6 of 6 of its proof. -/
import Derived.Test.YtlomapfdjdhmfaaRows
import Derived.WalkKit
import Derived.Test.YtlomapfdjdhmfaaZBoundReached4
section
open Go Go.AM Go.Proofs
set_option maxRecDepth 10000
set_option linter.unusedVariables false
set_option linter.unusedSimpArgs false
namespace Go.AM
def fillL (lo : Int) (M i : Nat) : List Int := List.replicate i lo ++ List.replicate (M - i) 0
theorem fillL_len {lo : Int} {M i : Nat} (h : i ≤ M) : (fillL lo M i).length = M := by simp [fillL]; omega
theorem fillL_set {lo : Int} {M i : Nat} (h : i < M) : (fillL lo M i).set i lo = fillL lo M (i + 1) := by
  unfold fillL
  rw [List.set_append, if_neg (by simp), List.length_replicate, Nat.sub_self, show M - i = (M - (i + 1)) + 1 by omega, List.replicate_succ, List.set_cons_zero, List.replicate_succ', List.append_assoc]; rfl
theorem fillL_el {lo : Int} {M i : Nat} (h : i < M) (hl : -128 ≤ lo ∧ lo ≤ 127) : setEl ((fillL lo M i).map i8C) (0 + ((i : Nat) : Int).toNat) 0 [.int .i8 (IntKind.i8.wrap lo)] = (fillL lo M (i + 1)).map i8C := by
  have hw : IntKind.i8.wrap lo = lo := by simp [IntKind.wrap, IntKind.bits, IntKind.signed]; split <;> omega
  rw [Nat.zero_add, Int.toNat_natCast, hw, ← fillL_set h, List.map_set]
  unfold setEl
  have hg : ((fillL lo M i).map i8C).getD i [] = i8C ((fillL lo M i).getD i default) := by simp [List.getD_eq_getElem?_getD, fillL_len (Nat.le_of_lt h), h]
  rw [hg]; rfl
theorem boundReached_ok {a : Ask13} (ha : a.Wf) (S : Site) (t : Span) (n M : Nat) (T : Nat → List Term) (b : Int) (lowB highB : Nat → Bool) (sl sh : Nat → Int) (LA LB : Nat → List Int)
    (hTo : Ok Try.prog 9 [.agg (modelC a.M), .int .i64 a.Op, .int .i64 a.Ch, .agg (spanC a.S)] (.tup [.agg (spanC t), .int .i64 0]))
    (hPo : Ok Try.prog 25 [.agg (modelC a.M), .int .i64 a.Op] (.tup [.int .i64 (n : Int), .int .i64 0]))
    (hFd : Ok Try.prog 21 [.agg (modelC a.M), .int .i64 a.Op, .int .i64 0] (.tup [.agg (rsiteC S), .int .i64 0]))
    (hOf : ∀ k : Nat, k < n → Ok Try.prog 20 [.agg (modelC a.M), .int .i64 a.Op, .int .i64 a.Ch, .int .i64 (k : Int)] (.tup [.ro ((T k).map termC), .int .i64 b, .int .i64 0]))
    (hel : IntKind.i64.wrap (IntKind.i64.wrap (S.In.H * S.In.W) * S.In.C) = (M : Int)) (hM : M ≤ 16384) (hs : -128 ≤ a.S.Lo ∧ a.S.Lo ≤ a.S.Hi ∧ a.S.Hi ≤ 127)
    (hA : ∀ k, k < n → Ok Try.prog 26 [.agg (modelC a.M), .int .i64 a.Op, .ro ((rowT (fun w => !decide (w > 0)) a.S.Lo a.S.Hi M (T k)).map i8C)] (.tup [.ro ((LA k).map intC), .int .i64 0]))
    (hB : ∀ k, k < n → Ok Try.prog 26 [.agg (modelC a.M), .int .i64 a.Op, .ro ((rowT (fun w => decide (w > 0)) a.S.Lo a.S.Hi M (T k)).map i8C)] (.tup [.ro ((LB k).map intC), .int .i64 0]))
    (hix : ∀ k : Nat, k < n → 0 ≤ IntKind.i64.wrap (IntKind.i64.wrap (IntKind.i64.wrap ((k : Int) * S.Out.C) + a.Ch) - 1) ∧ IntKind.i64.wrap (IntKind.i64.wrap (IntKind.i64.wrap ((k : Int) * S.Out.C) + a.Ch) - 1) < ((LA k).length : Int) ∧ IntKind.i64.wrap (IntKind.i64.wrap (IntKind.i64.wrap ((k : Int) * S.Out.C) + a.Ch) - 1) < ((LB k).length : Int))
    (hga : ∀ k : Nat, k < n → (LA k).getD (IntKind.i64.wrap (IntKind.i64.wrap (IntKind.i64.wrap ((k : Int) * S.Out.C) + a.Ch) - 1)).toNat default = sl k) (hgb : ∀ k : Nat, k < n → (LB k).getD (IntKind.i64.wrap (IntKind.i64.wrap (IntKind.i64.wrap ((k : Int) * S.Out.C) + a.Ch) - 1)).toNat default = sh k)
    (hha : ∀ k, k < n → hasF t (sl k) = true) (hhb : ∀ k, k < n → hasF t (sh k) = true) (l0 : lowB 0 = false) (h0 : highB 0 = false)
    (ls : ∀ k, k < n → lowB (k + 1) = bif lowB k then true else (sl k == t.Lo)) (hs' : ∀ k, k < n → highB (k + 1) = bif highB k then true else (sh k == t.Hi)) (hend : lowB n = true ∧ highB n = true) (hnb : n ≤ 1048576)
    (hTl : ∀ k, (T k).length ≤ 512) : Ok Try.prog 8 [.agg (ask13C a)] (.bool true) := by
  have mk1 : (0 : Int) ≤ (M : Int) := by omega
  have mk3 : ((Tb.at 60).bytes : Int) * (M : Int) ≤ 281474976710656 := by rw [show (Tb.at 60).bytes = 1 from rfl]; omega
  have mk4 : (M : Int) ≤ 9223372036854775807 := by omega
  have hHi : IntKind.i8.wrap a.S.Hi = a.S.Hi := by simp [IntKind.wrap, IntKind.bits, IntKind.signed]; split <;> omega
  --@@1
  skip
  refine fn_ok Tb_ok (fn := Try.f8) Try.func8 rfl rfl (e := [(0, _)]) rfl (by decide) rfl ?_
  refine zs ?_
  refine zR ?_
  refine zbx [.int _ _, .int _ _, .int _ _, .int _ _, .int _ _, _, .int _ _, .int _ _, .int _ _, .int _ _, .int _ _, .int _ _, .int _ _, _] 14 ?_
  refine zLB ?_
  refine zn ?_
  refine zs ?_
  refine zs ?_
  refine zR ?_
  refine zLc (law13_fixed) ?_
  refine zLB ?_
  refine zn ?_
  refine W_cond_f (b := _) rfl (by rfl) ?_
  refine zk ?_
  refine zs ?_
  refine zR ?_
  refine zLP ?_
  refine zLG [.int _ _, .int _ _, .int _ _, .int _ _, .int _ _, _, .int _ _] ?_
  refine zLP ?_
  refine zLI ?_
  refine zLP ?_
  refine zLI ?_
  refine zLP ?_
  refine zLG [.int _ _, .int _ _] ?_
  refine zLc (hTo) ?_
  refine zLT [_, _] ?_
  refine zLG [.int _ _, .int _ _] ?_
  refine zLI ?_
  refine zal [.int .i64 0, .int .i64 0] 2 ?_
  refine zst (.agg [.int _ _, .int _ _]) [_, _] [[_, _]] ?_
  refine zLI ?_
  refine zn ?_
  refine zs ?_
  refine zR ?_
  refine zLP ?_
  refine zLG [.int _ _, .int _ _, .int _ _, .int _ _, .int _ _, _, .int _ _] ?_
  refine zLP ?_
  refine zLI ?_
  refine zLc (hPo) ?_
  refine zLT [_, _] ?_
  refine zLI ?_
  refine zLI ?_
  refine zLI ?_
  refine zLI ?_
  refine zn ?_
  refine zs ?_
  refine zs ?_
  refine zR ?_
  refine zLI ?_
  refine zLB ?_
  refine zLB ?_
  refine zgLI ?_
  refine zgLB ?_
  refine zpLB ?_
  refine zn ?_
  refine W_cond_f (b := _) rfl (by rfl) ?_
  refine zk ?_
  refine zs ?_
  refine zR ?_
  refine zLP ?_
  refine zLG [.int _ _, .int _ _, .int _ _, .int _ _, .int _ _, _, .int _ _] ?_
  refine zLP ?_
  refine zLI ?_
  refine zLc (hFd) ?_
  refine zLT [_, _] ?_
  refine zLG [.int _ _, .int _ _, .int _ _, .int _ _, .int _ _, .int _ _, .int _ _, .int _ _, .int _ _, .int _ _, .int _ _, .int _ _, _, _, .int _ _, .int _ _, .int _ _, .int _ _, .int _ _, .int _ _, .int _ _, .int _ _, .int _ _, .int _ _, .int _ _, .int _ _, .int _ _, .int _ _] ?_
  refine zLI ?_
  refine zal [.int .i64 0, .int .i64 0, .int .i64 0, .int .i64 0, .int .i64 0, .int .i64 0, .int .i64 0, .int .i64 0, .int .i64 0, .int .i64 0, .int .i64 0, .int .i64 0, .nils, .nils, .int .i64 0, .int .i64 0, .int .i64 0, .int .i64 0, .int .i64 0, .int .i64 0, .int .i64 0, .int .i64 0, .int .i64 0, .int .i64 0, .int .i64 0, .int .i64 0, .int .i64 0, .int .i64 0] 28 ?_
  refine zst (.agg [.int _ _, .int _ _, .int _ _, .int _ _, .int _ _, .int _ _, .int _ _, .int _ _, .int _ _, .int _ _, .int _ _, .int _ _, _, _, .int _ _, .int _ _, .int _ _, .int _ _, .int _ _, .int _ _, .int _ _, .int _ _, .int _ _, .int _ _, .int _ _, .int _ _, .int _ _, .int _ _]) [_, _, _, _, _, _, _, _, _, _, _, _, _, _, _, _, _, _, _, _, _, _, _, _, _, _, _, _] [[_, _, _, _, _, _, _, _, _, _, _, _, _, _, _, _, _, _, _, _, _, _, _, _, _, _, _, _]] ?_
  refine zLI ?_
  refine zn ?_
  refine zs ?_
  refine zR ?_
  refine zLB ?_
  refine zLB ?_
  refine zn ?_
  refine zs ?_
  refine zs ?_
  refine zR ?_
  refine zLI ?_
  refine zn ?_
  refine W_block ?_
  refine W_inv (ι := {k : Nat // k ≤ n}) (fun k => ⟨[(1, .ptr 0 0 0), (3, .ptr 1 0 0), (5, .int .i64 (n : Int)), (7, .ptr 2 0 0), (9, .bool (lowB k.1)), (10, .bool (highB k.1)), (11, .int .i64 (k.1 : Int))], [(0, some ⟨31, 14, 0, [ask13C a]⟩), (1, some ⟨28, 2, 0, [spanC t]⟩), (2, some ⟨44, 28, 0, [rsiteC S]⟩)], [], 3⟩) (fun k => n - k.1) ⟨0, Nat.zero_le _⟩ (le_fit ⟨rfl, rfl, rfl, rfl, by rw [l0]; rfl, by rw [h0]; rfl, rfl, trivial⟩ ⟨.inr rfl, .inr rfl, .inr rfl, trivial⟩ trivial rfl rfl rfl rfl rfl) ?_
  rintro ⟨k, hk⟩
  dsimp only
  refine zs ?_
  refine zs ?_
  refine zR ?_
  refine zLI ?_
  refine zLI ?_
  refine zLB ?_
  refine zLB ?_
  refine zgLI ?_
  refine zgLB ?_
  refine zpLB ?_
  refine zLB ?_
  refine zgLB ?_
  refine zgLB ?_
  refine zgLB ?_
  refine zqLB ?_
  refine zgLB ?_
  refine zpLB ?_
  refine zn ?_
  refine W_cond (b := _) rfl (fun h77 => ?_) (fun h77 => ?_)
  · have hkt : k < n := by
      have h' : (bif (bif decide ((k : Int) < (n : Int)) then decide ((k : Int) < 40) else false) then !(bif lowB k then highB k else false) else false) = true := h77
      by_cases c : k < n
      · exact c
      · rw [decide_eq_false (show ¬ (k : Int) < (n : Int) by omega)] at h'; simp at h'
    refine zk ?_
    refine zs ?_
    refine W_block ?_
    refine zs ?_
    refine zR ?_
    refine zLP ?_
    refine zLG [.int _ _, .int _ _, .int _ _, .int _ _, .int _ _, _, .int _ _] ?_
    refine zLP ?_
    refine zLI ?_
    refine zLP ?_
    refine zLI ?_
    refine zLI ?_
    refine zLc (hOf k hkt) ?_
    refine zLT [_, _, _] ?_
    refine zLO ?_
    refine zLI ?_
    refine zLI ?_
    refine zLO ?_
    refine zLI ?_
    refine zLI ?_
    refine zn ?_
    refine zs ?_
    refine zR ?_
    refine zLP ?_
    refine zLP ?_
    refine zLI ?_
    refine zLP ?_
    refine zLP ?_
    refine zLI ?_
    refine zLI ?_
    refine zLP ?_
    refine zLP ?_
    refine zLI ?_
    refine zLI ?_
    simp only [hel]
    refine L_make Tb_ok (el := 60) (sz := 1) (z := [.int .i8 0]) rfl rfl rfl rfl rfl rfl rfl rfl ⟨trivial, trivial⟩ (by exact ⟨mk1, Int.le_refl _⟩) (by exact ⟨mk3, mk4⟩) rfl ?_
    refine zLW ?_
    refine zn ?_
    refine zs ?_
    refine zR ?_
    refine zLW ?_
    refine zLI ?_
    simp only [Int.toNat_natCast]
    refine L_make Tb_ok (el := 60) (sz := 1) (z := [.int .i8 0]) rfl rfl rfl rfl rfl rfl rfl rfl ⟨trivial, trivial⟩ (by exact ⟨mk1, Int.le_refl _⟩) (by exact ⟨mk3, mk4⟩) rfl ?_
    refine zLW ?_
    refine zn ?_
    refine zs ?_
    refine zs ?_
    refine zR ?_
    refine zLW ?_
    refine zLI ?_
    refine zLI ?_
    refine zn ?_
    refine W_block ?_
    refine W_for M (fun i => ⟨[(1, .ptr 0 0 0), (3, .ptr 1 0 0), (5, .int .i64 (n : Int)), (7, .ptr 2 0 0), (9, .bool (lowB k)), (10, .bool (highB k)), (11, .int .i64 (k : Int)), (12, .ro ((T k).map termC)), (15, .row 3 0 M), (16, .row 4 0 M), (108, .int .i64 (M : Int)), (109, .int .i64 (i : Int))], [(0, some ⟨31, 14, 0, [ask13C a]⟩), (1, some ⟨28, 2, 0, [spanC t]⟩), (2, some ⟨44, 28, 0, [rsiteC S]⟩), (3, some ⟨60, 1, 0, (fillL a.S.Lo M i).map i8C⟩), (4, some ⟨60, 1, 0, (fillL a.S.Lo M i).map i8C⟩)], [], 5⟩) (le_fit ⟨rfl, rfl, rfl, rfl, rfl, rfl, rfl, rfl, rfl, rfl, rfl, rfl, trivial⟩ ⟨.inr rfl, .inr rfl, .inr rfl, .inr ?_, .inr ?_, trivial⟩ trivial rfl rfl rfl (by simp [ltOB, i8C, AV.lt, ask13C, modelC, shapeC, spanC, rsiteC, opC]) rfl) ?_
    · show some (Ob.mk _ _ _ (List.replicate M _)) = _
      simp [fillL, i8C]
    · show some (Ob.mk _ _ _ (List.replicate M _)) = _
      simp [fillL, i8C]
    intro i hi
    refine zs ?_
    refine zR ?_
    refine zLB ?_
    refine zn ?_
    refine zs ?_
    refine W_cond (b := _) rfl (fun h110 => ?_) (fun h110 => ?_)
    · have hit : i < M := by have := of_decide_eq_true h110; omega
      refine zk ?_
      refine zs ?_
      refine W_block ?_
      refine zs ?_
      refine zR ?_
      refine zLI ?_
      refine zLI ?_
      refine zn ?_
      refine W_drawF (fun e => [idOf (get e 15), idOf (get e 16)]) 12 [[12, 13, 14, 15]] Tb_mixed rfl (by decide) (by kernel_rfl) ?_
      refine zSW ?_
      refine zSI ?_
      refine zSW ?_
      refine zSI ?_
      refine zSP ?_
      refine zSP ?_
      refine zSI ?_
      refine zSI ?_
      refine zSP ?_
      refine zSP ?_
      refine zSI ?_
      refine zSI ?_
      refine S_nil ?_
      refine TT_one ?_
      (refine TT_v Tb_ok (OSub_forget _ _) rfl (v := _) (ave_index_row rfl rfl rfl rfl rfl rfl (by omega) (by omega) trivial) rfl (fun ht4 => ?_))
      refine TT_store Tb_ok ht4 rfl (v := .int _ _) (cs := [_]) (es' := _) rfl rfl rfl rfl rfl rfl rfl rfl (by rw [Nat.blt_eq, List.length_map, fillL_len hi]; simp; omega) rfl rfl ⟨trivial, trivial⟩ (fun ht5 => ?_)
      (refine TT_v Tb_ok ht5 rfl (v := _) (ave_index_row rfl rfl rfl rfl rfl rfl (by omega) (by omega) trivial) rfl (fun ht9 => ?_))
      refine TT_store Tb_ok ht9 rfl (v := .int _ _) (cs := [_]) (es' := _) rfl rfl rfl rfl rfl rfl rfl rfl (by rw [Nat.blt_eq, List.length_map, fillL_len hi]; simp; omega) rfl rfl ⟨trivial, trivial⟩ (fun ht10 => ?_)
      refine TT_nil ?_
      try clear ht10
      try clear ht9
      try clear ht8
      try clear ht7
      try clear ht6
      try clear ht5
      try clear ht4
      try clear ht3
      try clear ht2
      try clear ht1
      refine zR ?_
      refine zLI ?_
      refine zLI ?_
      refine zn ?_
      refine for_end hit (le_fit ⟨rfl, rfl, rfl, rfl, rfl, rfl, rfl, rfl, rfl, rfl, rfl, congrArg _ (w_succ hit (by omega)), trivial⟩ ⟨.inr rfl, .inr rfl, .inr rfl, .inr (congrArg (fun z => some (Ob.mk 60 1 0 z)) (fillL_el hit (by omega))), .inr (congrArg (fun z => some (Ob.mk 60 1 0 z)) (fillL_el hit (by omega))), trivial⟩ trivial rfl rfl rfl (by simp [ltOB, i8C, AV.lt, ask13C, modelC, shapeC, spanC, rsiteC, opC]) rfl)
    · have hie : i = M := by have := of_decide_eq_false h110; omega
      refine W_exit ?_
      repeat (first | refine pass_then ?_ | refine pass_for ?_)
      refine blockQ_hit ?_
      refine zs ?_
      refine zs ?_
      refine zR ?_
      refine zLO ?_
      refine zLI ?_
      refine zLI ?_
      refine zn ?_
      refine W_block ?_
      refine W_for (T k).length (fun j => ⟨[(1, .ptr 0 0 0), (3, .ptr 1 0 0), (5, .int .i64 (n : Int)), (7, .ptr 2 0 0), (9, .bool (lowB k)), (10, .bool (highB k)), (11, .int .i64 (k : Int)), (15, .row 3 0 M), (16, .row 4 0 M), (127, .ro ((T k).map termC)), (128, .int .i64 (((T k).map termC).length : Int)), (129, .int .i64 (j : Int))], [(0, some ⟨31, 14, 0, [ask13C a]⟩), (1, some ⟨28, 2, 0, [spanC t]⟩), (2, some ⟨44, 28, 0, [rsiteC S]⟩), (3, some ⟨60, 1, 0, (rowT (fun w => !decide (w > 0)) a.S.Lo a.S.Hi M ((T k).take j)).map i8C⟩), (4, some ⟨60, 1, 0, (rowT (fun w => decide (w > 0)) a.S.Lo a.S.Hi M ((T k).take j)).map i8C⟩)], [], 5⟩) (le_fit ⟨rfl, rfl, rfl, rfl, rfl, rfl, rfl, rfl, rfl, rfl, rfl, rfl, trivial⟩ ⟨.inr rfl, .inr rfl, .inr rfl, .inr ?_, .inr ?_, trivial⟩ trivial rfl rfl rfl (by simp [ltOB, i8C, AV.lt, ask13C, modelC, shapeC, spanC, rsiteC, opC]) rfl) ?_
      · show some (Ob.mk 60 1 0 ((fillL a.S.Lo M i).map i8C)) = _
        rw [hie]; simp [fillL, rowT]
      · show some (Ob.mk 60 1 0 ((fillL a.S.Lo M i).map i8C)) = _
        rw [hie]; simp [fillL, rowT]
      intro j hj
      refine zs ?_
      refine zR ?_
      refine zLB ?_
      refine zn ?_
      refine zs ?_
      refine W_cond (b := _) rfl (fun h130 => ?_) (fun h130 => ?_)
      · have hjt : j < (T k).length := by have := of_decide_eq_true h130; rw [List.length_map] at this; omega
        have hlk := hTl k
        have hsA := rowT_succ (fun w => !decide (w > 0)) a.S.Lo a.S.Hi M hjt
        have hsB := rowT_succ (fun w => decide (w > 0)) a.S.Lo a.S.Hi M hjt
        have hlA := rowT_len (fun w => !decide (w > 0)) a.S.Lo a.S.Hi M ((T k).take j)
        have hlB := rowT_len (fun w => decide (w > 0)) a.S.Lo a.S.Hi M ((T k).take j)
        have hjj : (T k).getD ((j : Nat) : Int).toNat default = (T k).getD j default := by rw [Int.toNat_natCast]
        generalize (T k).getD j default = u at *
        generalize rowT (fun w => !decide (w > 0)) a.S.Lo a.S.Hi M ((T k).take j) = RA at *
        generalize rowT (fun w => decide (w > 0)) a.S.Lo a.S.Hi M ((T k).take j) = RB at *
        refine zk ?_
        refine zs ?_
        refine W_block ?_
        refine zs ?_
        refine zR ?_
        (refine L_v Tb_ok (v := _) (ave_index_ro rfl rfl rfl (fun _ => rfl) rfl (by first | omega | assumption | decide | (simp_all; done) | (simp_all; omega)) (by first | omega | assumption | decide | (simp_all; done) | (simp_all; omega)) trivial) rfl ?_)
        refine zLG [.int _ _, .int _ _] ?_
        simp only [hjj]
        refine zal [.int .i64 0, .int .i64 0] 2 ?_
        refine zst (.agg [.int _ _, .int _ _]) [_, _] [[_, _]] ?_
        refine zn ?_
        refine zs ?_
        refine zR ?_
        refine zLP ?_
        refine zLI ?_
        refine zLB ?_
        refine zLB ?_
        refine zgLP ?_
        refine zgLI ?_
        refine zgLW ?_
        refine zgLI ?_
        refine zgLB ?_
        refine zpLB ?_
        refine zn ?_
        refine W_cond (b := _) rfl (fun h142 => ?_) (fun h142 => ?_)
        · have hAt : 0 ≤ u.At ∧ u.At < (M : Int) := by
            have h' : (bif decide (u.At ≥ 0) then decide (u.At < (M : Int)) else false) = true := h142
            by_cases c : u.At ≥ 0
            · simp [c] at h'; omega
            · simp [c] at h'
          refine zs ?_
          refine zR ?_
          refine zLP ?_
          refine zLI ?_
          refine zLB ?_
          refine zn ?_
          refine W_cond (b := _) rfl (fun h145 => ?_) (fun h145 => ?_)
          · have hW : u.W > 0 := of_decide_eq_true h145
            have eA : RA = rowT (fun w => !decide (w > 0)) a.S.Lo a.S.Hi M ((T k).take (j + 1)) := by rw [hsA]; unfold setT; rw [if_neg (fun q => by have := q.2; simp [hW] at this)]
            have eB : RB.set (0 + u.At.toNat) a.S.Hi = rowT (fun w => decide (w > 0)) a.S.Lo a.S.Hi M ((T k).take (j + 1)) := by rw [hsB]; unfold setT; rw [if_pos ⟨by rw [hlB]; exact hAt, decide_eq_true hW⟩, Nat.zero_add]
            refine zR ?_
            refine zLW ?_
            refine zLP ?_
            refine zLI ?_
            refine zLP ?_
            refine zLP ?_
            refine zLI ?_
            refine zLI ?_
            simp only [hHi]
            (refine L_v Tb_ok (v := _) (ave_index_row rfl rfl rfl rfl rfl rfl (by omega) (by omega) trivial) rfl ?_)
            refine L_store_row Tb_ok (f := i8C) (xs := RB) (v' := a.S.Hi) rfl rfl rfl rfl rfl rfl rfl rfl (by rw [hlB]; omega) rfl ⟨trivial, trivial⟩ ?_
            refine zn ?_
            refine zR ?_
            refine zLI ?_
            refine zLI ?_
            refine zn ?_
            refine for_end hjt (le_fit ⟨rfl, rfl, rfl, rfl, rfl, rfl, rfl, rfl, rfl, rfl, rfl, congrArg _ (w_succ hjt (by omega)), trivial⟩ ⟨.inr rfl, .inr rfl, .inr rfl, .inr (congrArg (fun z => some (Ob.mk 60 1 0 (List.map i8C z))) eA), .inr (congrArg (fun z => some (Ob.mk 60 1 0 (List.map i8C z))) eB), trivial⟩ trivial rfl rfl rfl (by simp [ltOB, i8C, AV.lt, ask13C, modelC, shapeC, spanC, rsiteC, opC]) rfl)
          · have hW : ¬ u.W > 0 := of_decide_eq_false h145
            have eA : RA.set (0 + u.At.toNat) a.S.Hi = rowT (fun w => !decide (w > 0)) a.S.Lo a.S.Hi M ((T k).take (j + 1)) := by rw [hsA]; unfold setT; rw [if_pos ⟨by rw [hlA]; exact hAt, by simp [hW]⟩, Nat.zero_add]
            have eB : RB = rowT (fun w => decide (w > 0)) a.S.Lo a.S.Hi M ((T k).take (j + 1)) := by rw [hsB]; unfold setT; rw [if_neg (fun q => hW (of_decide_eq_true q.2))]
            refine zR ?_
            refine zLW ?_
            refine zLP ?_
            refine zLI ?_
            refine zLP ?_
            refine zLP ?_
            refine zLI ?_
            refine zLI ?_
            simp only [hHi]
            (refine L_v Tb_ok (v := _) (ave_index_row rfl rfl rfl rfl rfl rfl (by omega) (by omega) trivial) rfl ?_)
            refine L_store_row Tb_ok (f := i8C) (xs := RA) (v' := a.S.Hi) rfl rfl rfl rfl rfl rfl rfl rfl (by rw [hlA]; omega) rfl ⟨trivial, trivial⟩ ?_
            refine zn ?_
            refine zR ?_
            refine zLI ?_
            refine zLI ?_
            refine zn ?_
            refine for_end hjt (le_fit ⟨rfl, rfl, rfl, rfl, rfl, rfl, rfl, rfl, rfl, rfl, rfl, congrArg _ (w_succ hjt (by omega)), trivial⟩ ⟨.inr rfl, .inr rfl, .inr rfl, .inr (congrArg (fun z => some (Ob.mk 60 1 0 (List.map i8C z))) eA), .inr (congrArg (fun z => some (Ob.mk 60 1 0 (List.map i8C z))) eB), trivial⟩ trivial rfl rfl rfl (by simp [ltOB, i8C, AV.lt, ask13C, modelC, shapeC, spanC, rsiteC, opC]) rfl)
        · have hAt : ¬ (0 ≤ u.At ∧ u.At < (M : Int)) := by
            intro c
            have h' : (bif decide (u.At ≥ 0) then decide (u.At < (M : Int)) else false) = false := h142
            rw [decide_eq_true (show u.At ≥ 0 by omega), decide_eq_true c.2] at h'; simp at h'
          have eA : RA = rowT (fun w => !decide (w > 0)) a.S.Lo a.S.Hi M ((T k).take (j + 1)) := by rw [hsA]; unfold setT; rw [if_neg (by rw [hlA]; exact fun q => hAt q.1)]
          have eB : RB = rowT (fun w => decide (w > 0)) a.S.Lo a.S.Hi M ((T k).take (j + 1)) := by rw [hsB]; unfold setT; rw [if_neg (by rw [hlB]; exact fun q => hAt q.1)]
          refine zk ?_
          refine zR ?_
          refine zLI ?_
          refine zLI ?_
          refine zn ?_
          refine for_end hjt (le_fit ⟨rfl, rfl, rfl, rfl, rfl, rfl, rfl, rfl, rfl, rfl, rfl, congrArg _ (w_succ hjt (by omega)), trivial⟩ ⟨.inr rfl, .inr rfl, .inr rfl, .inr (congrArg (fun z => some (Ob.mk 60 1 0 (List.map i8C z))) eA), .inr (congrArg (fun z => some (Ob.mk 60 1 0 (List.map i8C z))) eB), trivial⟩ trivial rfl rfl rfl (by simp [ltOB, i8C, AV.lt, ask13C, modelC, shapeC, spanC, rsiteC, opC]) rfl)
      · have hje : j = (T k).length := by have := of_decide_eq_false h130; rw [List.length_map] at this; omega
        refine W_exit ?_
        repeat (first | refine pass_then ?_ | refine pass_for ?_)
        refine blockQ_hit ?_
        refine zs ?_
        refine zR ?_
        refine zLP ?_
        refine zLG [.int _ _, .int _ _, .int _ _, .int _ _, .int _ _, _, .int _ _] ?_
        refine zLP ?_
        refine zLI ?_
        refine L_freeze (t := 15) (id := 3) (l := (rowT (fun w => !decide (w > 0)) a.S.Lo a.S.Hi M (T k)).map i8C) rfl rfl ?_ rfl rfl ?_ ?_ ?_
        · show M = ((rowT (fun w => !decide (w > 0)) a.S.Lo a.S.Hi M ((T k).take j)).map i8C).length
          rw [List.length_map, rowT_len]
        · show ((rowT (fun w => !decide (w > 0)) a.S.Lo a.S.Hi M ((T k).take j)).map i8C).map (·.map demC) = _
          rw [hje, List.take_length]; simp [i8C, demC]
        · simp [i8C, grC]
        refine zLO ?_
        refine zLc (hA k hkt) ?_
        refine zLT [_, _] ?_
        refine zLO ?_
        refine zLI ?_
        refine zLO ?_
        refine zLI ?_
        refine zn ?_
        refine zs ?_
        refine zR ?_
        refine zLP ?_
        refine zLG [.int _ _, .int _ _, .int _ _, .int _ _, .int _ _, _, .int _ _] ?_
        refine zLP ?_
        refine zLI ?_
        refine L_freeze (t := 16) (id := 4) (l := (rowT (fun w => decide (w > 0)) a.S.Lo a.S.Hi M (T k)).map i8C) rfl rfl ?_ rfl rfl ?_ ?_ ?_
        · show M = ((rowT (fun w => decide (w > 0)) a.S.Lo a.S.Hi M ((T k).take j)).map i8C).length
          rw [List.length_map, rowT_len]
        · show ((rowT (fun w => decide (w > 0)) a.S.Lo a.S.Hi M ((T k).take j)).map i8C).map (·.map demC) = _
          rw [hje, List.take_length]; simp [i8C, demC]
        · simp [i8C, grC]
        refine zLO ?_
        refine zLc (hB k hkt) ?_
        refine zLT [_, _] ?_
        refine zLO ?_
        refine zLI ?_
        refine zLO ?_
        refine zLI ?_
        refine zn ?_
        refine zs ?_
        refine zR ?_
        refine zLI ?_
        refine zLP ?_
        refine zLP ?_
        refine zLI ?_
        refine zLI ?_
        refine zLP ?_
        refine zLI ?_
        refine zLI ?_
        refine zLI ?_
        refine zLI ?_
        refine zn ?_
        refine zs ?_
        refine zs ?_
        refine W_draw 40 Tb_mixed rfl (by decide) (by kernel_rfl) (by kernel_rfl) ?_
        refine zEI ?_
        refine zEB ?_
        refine zEB ?_
        refine zgEI ?_
        refine zgEB ?_
        refine zpEB ?_
        refine zEB ?_
        refine zgEI ?_
        refine zgEB ?_
        refine zpEB ?_
        refine zEB ?_
        refine zgEI ?_
        refine zgEO ?_
        refine zgEI ?_
        refine zgEB ?_
        refine zpEB ?_
        refine zEB ?_
        refine zgEI ?_
        refine zgEO ?_
        refine zgEI ?_
        refine zgEB ?_
        refine zpEB ?_
        refine zEB ?_
        refine zgEG [.int _ _, .int _ _] ?_
        refine zgEO ?_
        refine zgEI ?_
        (refine E_g Tb_ok (v := _) rfl rfl ((fun hg => (ave_index_ro rfl rfl rfl (fun _ => rfl) rfl (by first | exact (hix k hkt).1 | exact (hix k hkt).2.1 | exact (hix k hkt).2.2 | (rw [List.length_map]; first | exact (hix k hkt).2.1 | exact (hix k hkt).2.2)) (by first | exact (hix k hkt).1 | exact (hix k hkt).2.1 | exact (hix k hkt).2.2 | (rw [List.length_map]; first | exact (hix k hkt).2.1 | exact (hix k hkt).2.2)) ⟨⟨(by first | exact hg | (simp_all; done) | (simp at hg ⊢; simp [hg])), True.intro⟩, ⟨⟨(by first | exact hg | (simp_all; done) | (simp at hg ⊢; simp [hg])), True.intro⟩, True.intro⟩⟩))) rfl rfl ?_)
        refine zgEI ?_
        refine E_callg (hr := fun hg => span_Has _ _) rfl rfl rfl rfl rfl (fun hg => ⟨⟨(by exact hg), True.intro⟩, ⟨⟨(by exact hg), True.intro⟩, True.intro⟩⟩) rfl rfl ?_
        refine zgEB ?_
        refine zpEB ?_
        refine zEB ?_
        refine zgEG [.int _ _, .int _ _] ?_
        refine zgEO ?_
        refine zgEI ?_
        (refine E_g Tb_ok (v := _) rfl rfl ((fun hg => (ave_index_ro rfl rfl rfl (fun _ => rfl) rfl (by first | exact (hix k hkt).1 | exact (hix k hkt).2.1 | exact (hix k hkt).2.2 | (rw [List.length_map]; first | exact (hix k hkt).2.1 | exact (hix k hkt).2.2)) (by first | exact (hix k hkt).1 | exact (hix k hkt).2.1 | exact (hix k hkt).2.2 | (rw [List.length_map]; first | exact (hix k hkt).2.1 | exact (hix k hkt).2.2)) ⟨⟨(by first | exact hg | (simp_all; done) | (simp at hg ⊢; simp [hg])), True.intro⟩, ⟨⟨(by first | exact hg | (simp_all; done) | (simp at hg ⊢; simp [hg])), True.intro⟩, True.intro⟩⟩))) rfl rfl ?_)
        refine zgEI ?_
        refine E_callg (hr := fun hg => span_Has _ _) rfl rfl rfl rfl rfl (fun hg => ⟨⟨(by exact hg), True.intro⟩, ⟨⟨(by exact hg), True.intro⟩, True.intro⟩⟩) rfl rfl ?_
        refine zgEB ?_
        refine zpEB ?_
        refine LexE_nil ?_
        refine zn ?_
        refine W_cond (b := _) rfl (fun h229 => ?_) (fun h229 => ?_)
        · exfalso
          have f1 := hix k hkt
          have h' : (bif (bif (bif (bif (bif (bif (0 : Int) != 0 then true else (0 : Int) != 0) then true else decide (IntKind.i64.wrap (IntKind.i64.wrap (IntKind.i64.wrap ((k : Int) * S.Out.C) + a.Ch) - 1) < 0)) then true else decide (IntKind.i64.wrap (IntKind.i64.wrap (IntKind.i64.wrap ((k : Int) * S.Out.C) + a.Ch) - 1) ≥ (((LA k).map intC).length : Int))) then true else decide (IntKind.i64.wrap (IntKind.i64.wrap (IntKind.i64.wrap ((k : Int) * S.Out.C) + a.Ch) - 1) ≥ (((LB k).map intC).length : Int))) then true else !hasF t ((LA k).getD (IntKind.i64.wrap (IntKind.i64.wrap (IntKind.i64.wrap ((k : Int) * S.Out.C) + a.Ch) - 1)).toNat default)) then true else !hasF t ((LB k).getD (IntKind.i64.wrap (IntKind.i64.wrap (IntKind.i64.wrap ((k : Int) * S.Out.C) + a.Ch) - 1)).toNat default)) = true := h229
          rw [List.length_map, List.length_map, hga k hkt, hgb k hkt, hha k hkt, hhb k hkt, decide_eq_false (show ¬ IntKind.i64.wrap (IntKind.i64.wrap (IntKind.i64.wrap ((k : Int) * S.Out.C) + a.Ch) - 1) < 0 by omega), decide_eq_false (show ¬ IntKind.i64.wrap (IntKind.i64.wrap (IntKind.i64.wrap ((k : Int) * S.Out.C) + a.Ch) - 1) ≥ ((LA k).length : Int) by omega), decide_eq_false (show ¬ IntKind.i64.wrap (IntKind.i64.wrap (IntKind.i64.wrap ((k : Int) * S.Out.C) + a.Ch) - 1) ≥ ((LB k).length : Int) by omega)] at h'
          simp at h'
        · refine zk ?_
          refine zs ?_
          refine W_draw 11 Tb_mixed rfl (by decide) (by kernel_rfl) (by kernel_rfl) ?_
          refine zEB ?_
          refine zEB ?_
          refine zgEO ?_
          refine zgEI ?_
          (refine E_g Tb_ok (v := _) rfl rfl ((fun hg => (ave_index_ro rfl rfl rfl (fun _ => rfl) rfl (by first | exact (hix k hkt).1 | exact (hix k hkt).2.1 | exact (hix k hkt).2.2 | (rw [List.length_map]; first | exact (hix k hkt).2.1 | exact (hix k hkt).2.2)) (by first | exact (hix k hkt).1 | exact (hix k hkt).2.1 | exact (hix k hkt).2.2 | (rw [List.length_map]; first | exact (hix k hkt).2.1 | exact (hix k hkt).2.2)) ⟨⟨(by first | exact hg | (simp_all; done) | (simp at hg ⊢; simp [hg])), True.intro⟩, ⟨⟨(by first | exact hg | (simp_all; done) | (simp at hg ⊢; simp [hg])), True.intro⟩, True.intro⟩⟩))) rfl rfl ?_)
          refine zgEI ?_
          refine zgEP ?_
          refine zgEI ?_
          refine zgEB ?_
          refine zpEB ?_
          refine zEB ?_
          refine LexE_nil ?_
          refine zn ?_
          refine W_draw 11 Tb_mixed rfl (by decide) (by kernel_rfl) (by kernel_rfl) ?_
          refine zEB ?_
          refine zEB ?_
          refine zgEO ?_
          refine zgEI ?_
          (refine E_g Tb_ok (v := _) rfl rfl ((fun hg => (ave_index_ro rfl rfl rfl (fun _ => rfl) rfl (by first | exact (hix k hkt).1 | exact (hix k hkt).2.1 | exact (hix k hkt).2.2 | (rw [List.length_map]; first | exact (hix k hkt).2.1 | exact (hix k hkt).2.2)) (by first | exact (hix k hkt).1 | exact (hix k hkt).2.1 | exact (hix k hkt).2.2 | (rw [List.length_map]; first | exact (hix k hkt).2.1 | exact (hix k hkt).2.2)) ⟨⟨(by first | exact hg | (simp_all; done) | (simp at hg ⊢; simp [hg])), True.intro⟩, ⟨⟨(by first | exact hg | (simp_all; done) | (simp at hg ⊢; simp [hg])), True.intro⟩, True.intro⟩⟩))) rfl rfl ?_)
          refine zgEI ?_
          refine zgEP ?_
          refine zgEI ?_
          refine zgEB ?_
          refine zpEB ?_
          refine zEB ?_
          refine LexE_nil ?_
          refine zn ?_
          refine zR ?_
          refine zLI ?_
          refine zLI ?_
          refine zLI ?_
          refine zn ?_
          refine round_end (Q := fun _ _ => True) ⟨k + 1, hkt⟩ (by dsimp only; omega) (le_fit ⟨rfl, rfl, rfl, rfl, congrArg AV.bool ?_, congrArg AV.bool ?_, congrArg _ (w_succ hkt (by omega)), trivial⟩ ⟨.inr rfl, .inr rfl, .inr rfl, trivial⟩ trivial rfl rfl rfl rfl rfl)
          · rw [ls k hkt, ← hga k hkt]
          · rw [hs' k hkt, ← hgb k hkt]
  · refine W_exit ?_
    repeat (first | refine pass_then ?_ | refine pass_round ?_)
    refine blockQ_hit ?_
    refine zs ?_
    refine zR ?_
    refine zLB ?_
    refine zLB ?_
    refine zgLB ?_
    refine zpLB ?_
    refine zLB ?_
    refine zgLI ?_
    refine zgLB ?_
    refine zpLB ?_
    refine zLB ?_
    refine zn ?_
    refine zt ?_
    refine ends (l := [.bool _]) (q := .bool _) (.inr rfl) rfl ⟨trivial, trivial⟩ rfl rfl ?_
    have h' : (bif (bif decide ((k : Int) < (n : Int)) then decide ((k : Int) < 40) else false) then !(bif lowB k then highB k else false) else false) = false := h77
    show AV.bool (bif (bif lowB k then highB k else false) then true else decide ((n : Int) > 40)) = _
    by_cases c : k < n
    · rw [decide_eq_true (show (k : Int) < (n : Int) by omega)] at h'
      by_cases c2 : (k : Int) < 40
      · rw [decide_eq_true c2] at h'
        have : (bif lowB k then highB k else false) = true := by simpa using h'
        rw [this]; rfl
      · rw [decide_eq_true (show (n : Int) > 40 by omega)]; cases (bif lowB k then highB k else false) <;> rfl
    · rw [show k = n by omega, hend.1, hend.2]; rfl
end Go.AM
end
section
open Go Go.AM
set_option linter.unusedVariables false
set_option linter.unusedSimpArgs false
set_option linter.unusedSectionVars false
namespace Go.AM
def ptS (x : Int) : Span := ⟨x, x⟩
/-- a term's value as a span -/
def ptF (v : Term → Int) (t : Term) : Span := tmS (ptS (v t)) t.W
theorem ptF_eq (v : Term → Int) (t : Term) : ptF v t = ptS (t.W * v t) := by
  unfold ptF tmS ptS
  split <;> simp only [Int.mul_comm]
/-- what the values are to be -/
def valOk (pad : Int) (s : Span) (v : Term → Int) (t : Term) : Prop := if t.At < 0 then v t = pad else s.Lo ≤ v t ∧ v t ≤ s.Hi
theorem pt_sub {pad : Int} {s : Span} {v : Term → Int} {t : Term} (h : valOk pad s v t) : subS (ptF v t) (endF pad s t) := by
  unfold valOk at h
  unfold endF ptF
  split at h
  · rename_i c; rw [if_pos c, h]; exact ⟨Int.le_refl _, Int.le_refl _⟩
  · rename_i c; rw [if_neg c]; exact tm_mono ⟨h.1, h.2⟩
theorem pt_ok {pad : Int} {s : Span} (hs : -128 ≤ s.Lo ∧ s.Lo ≤ s.Hi ∧ s.Hi ≤ 127) (hp : -128 ≤ pad ∧ pad ≤ 127) {v : Term → Int} {T : List Term} (hW : ∀ t ∈ T, -32768 ≤ t.W ∧ t.W ≤ 32767) (h : ∀ t ∈ T, valOk pad s v t) : okF T (ptF v) := by
  intro t ht
  have hv := h t ht
  unfold valOk at hv
  have : -128 ≤ v t ∧ v t ≤ 127 := by split at hv <;> omega
  exact tm_ok (hW t ht) ⟨this.1, Int.le_refl _, this.2⟩
theorem okF.take {T : List Term} {f : Term → Span} (h : okF T f) (k : Nat) : okF (T.take k) f := fun t ht => h t (List.mem_of_mem_take ht)
theorem fold_at {g : Hull → List Span → Hull} (hg : ∀ h r, covH h (g h r)) {l : List (List Span)} {k : Nat} (hk : k < l.length) (h0 : Hull) : ∃ h, covH (g h (l.getD k default)) (l.foldl g h0) := by
  refine ⟨(l.take k).foldl g h0, ?_⟩
  rw [← take_fold g h0 hk]
  have e : l.foldl g h0 = (l.drop (k + 1)).foldl g ((l.take (k + 1)).foldl g h0) := by rw [← List.foldl_append, List.take_append_drop]
  rw [e]
  exact fold_cov hg _ _
theorem run_take (r : List Span) (k : Nat) (h : Hull) (a : Span) : covH ((r.take k).foldl runR (h, a)).1 (r.foldl runR (h, a)).1 := by
  have e : r.foldl runR (h, a) = (r.drop k).foldl runR ((r.take k).foldl runR (h, a)) := by rw [← List.foldl_append, List.take_append_drop]
  rw [e]
  exact run_cov _ _ _
theorem part_le (D : Nat) (h : Hull) (r : List Span) (k : Nat) : ∀ n, k ≤ n → covH (partG D h r k).1 (partG D h r n).1
  | 0, hk => by obtain rfl : k = 0 := by omega
                exact .refl _
  | n + 1, hk => by
    rcases Nat.lt_or_ge n k with c | c
    · obtain rfl : k = n + 1 := by omega
      exact .refl _
    · refine (part_le D h r k n c).trans ?_
      show covH _ (partG D h r (n + 1)).1
      rw [partG]
      exact (takeH_cov _ _).trans (takeH_cov _ _)
theorem part_take (D : Nat) (h : Hull) (r : List Span) {n : Nat} : ∀ k, k ≤ n → partG D h (r.take n) k = partG D h r k
  | 0, _ => rfl
  | k + 1, hk => by
    have e : (r.take n).getD k default = r.getD k default := by simp only [List.getD_eq_getElem?_getD]; rw [List.getElem?_take, if_pos (by omega)]
    rw [partG, partG, e, part_take D h r k (by omega)]
section
variable {m : Model} (hm : m.Wf) {op ch : Int} {s : Span} (hs : askE m op ch s = 0) {at_ : Nat} (hat : at_ < posN m op) {v : Term → Int} {k : Nat} (hv : ∀ t ∈ (termsF m op ch at_).take k, valOk (findS m op).Op.Pad s v t)
include hm hs hat hv
theorem row_at : (rowsF m op ch s).getD at_ default = (termsF m op ch at_).map (endF (findS m op).Op.Pad s) := by simp [rowsF, rowF, List.getD_eq_getElem?_getD, hat]
theorem row_lt : at_ < (rowsF m op ch s).length := by simp [rowsF, hat]
theorem pts_ok : okF ((termsF m op ch at_).take k) (ptF v) :=
  pt_ok (askE_zero hs).2.1 (pad_bd (site_ok (askE_zero hs).2.2).1).1 (fun t ht => termsF_W hm op ch at_ t (List.mem_of_mem_take ht)) hv
/-- a running sum -/
theorem sum_run : inH (sumS (biasF m op ch 0) (((termsF m op ch at_).take k).map (ptF v))) (runH (biasF m op ch 0) (rowsF m op ch s)) := by
  obtain ⟨h, hc⟩ := fold_at (g := fun h r => (r.foldl runR (takeH h ⟨biasF m op ch 0, biasF m op ch 0⟩, ⟨biasF m op ch 0, biasF m op ch 0⟩)).1) (fun h r => (takeH_cov h _).trans (run_cov _ _ _)) (row_lt hm hs hat hv) ⟨0, 0, false⟩
  rw [row_at hm hs hat hv] at hc
  have hl := termsF_len m op ch at_
  have hl2 : ((termsF m op ch at_).take k).length ≤ 512 := by rw [List.length_take]; omega
  refine inH.cov ?_ hc
  refine inH.cov ?_ (run_take _ k _ _)
  rw [← List.map_take]
  refine (run_sum _ _ _ (takeH_in h _)).cov ?_
  exact run_mono _ (pts_ok hm hs hat hv) ((end_ok hm hs _).take k) (fun t ht => pt_sub (hv t ht)) 2147483648 _ _ _ _ (bb hm op ch) (bb hm op ch) (by omega) ⟨Int.le_refl _, Int.le_refl _⟩ (.refl _)
/-- the whole sum -/
theorem sum_tot (hk : (termsF m op ch at_).length ≤ k) : inH (sumS (biasF m op ch 0) (((termsF m op ch at_).take k).map (ptF v))) (totH (biasF m op ch 0) (rowsF m op ch s)) := by
  obtain ⟨h, hc⟩ := fold_at (g := fun h r => takeH h (sumS (biasF m op ch 0) r)) (fun _ _ => takeH_cov _ _) (row_lt hm hs hat hv) ⟨0, 0, false⟩
  rw [row_at hm hs hat hv] at hc
  have hl := termsF_len m op ch at_
  have hl2 : ((termsF m op ch at_).take k).length ≤ 512 := by rw [List.length_take]; omega
  refine inH.cov ?_ hc
  refine inH.sub ?_ (takeH_in _ _)
  have := sum_mono _ (pts_ok hm hs hat hv) ((end_ok hm hs _).take k) (fun t ht => pt_sub (hv t ht)) 2147483648 _ _ (bb hm op ch) (bb hm op ch) (by omega) ⟨Int.le_refl _, Int.le_refl _⟩
  rw [List.take_of_length_le hk] at this ⊢
  exact this
/-- a block's sum, and a term -/
theorem sum_part {D : Nat} (hk : k < (termsF m op ch at_).length) (hv1 : ∀ t ∈ (termsF m op ch at_).take (k + 1), valOk (findS m op).Op.Pad s v t) :
    inH (partG D ⟨0, 0, false⟩ ((termsF m op ch at_).map (ptF v)) (k + 1)).2 (partH D (rowsF m op ch s)) ∧ inH (ptF v ((termsF m op ch at_).getD k default)) (partH D (rowsF m op ch s)) := by
  obtain ⟨h, hc⟩ := fold_at (g := fun h r => (partG D h r r.length).1) (fun h r => part_some _ _ _ _) (row_lt hm hs hat hv) ⟨0, 0, false⟩
  rw [row_at hm hs hat hv, List.length_map] at hc
  have hl := termsF_len m op ch at_
  generalize hT : termsF m op ch at_ = T at *
  have hpk := pts_ok hm hs hat (k := k + 1) (by rw [hT]; exact hv1)
  rw [hT] at hpk
  have hek := (end_ok hm hs at_)
  rw [hT] at hek
  have hc2 := (part_le D h (T.map (endF (findS m op).Op.Pad s)) (k + 1) T.length (by omega)).trans hc
  have hin : T.getD k default ∈ T.take (k + 1) := by
    rw [List.getD_eq_getElem?_getD, List.getElem?_eq_getElem hk]
    exact List.mem_of_getElem? (i := k) (by rw [List.getElem?_take, if_pos (by omega), List.getElem?_eq_getElem hk]; rfl)
  have hkl : (T.take (k + 1)).length = k + 1 := by rw [List.length_take]; omega
  have hpm := part_mono D hpk (hek.take (k + 1)) (fun t ht => pt_sub (hv1 t ht)) (by omega) (covH.refl (⟨0, 0, false⟩ : Hull)) (k + 1) (by omega)
  rw [List.map_take, List.map_take, part_take _ _ _ _ (Nat.le_refl _), part_take _ _ _ _ (Nat.le_refl _)] at hpm
  have h2 : ∀ (h h' : Hull) (r : List Span) (q : Nat), (partG D h r q).2 = (partG D h' r q).2 := by
    intro h h' r q
    induction q with
    | zero => rfl
    | succ q ih => simp only [partG, ih]
  have e2 : (T.map (endF (findS m op).Op.Pad s)).getD k default = endF (findS m op).Op.Pad s (T.getD k default) := by simp [List.getD_eq_getElem?_getD, hk]
  refine ⟨?_, ?_⟩
  · refine inH.cov (inH.sub hpm.2.1 ?_) hc2
    rw [h2 _ h]
    rw [partG]
    exact (takeH_in _ _).cov (takeH_cov _ _)
  · refine inH.cov (inH.sub (pt_sub (hv1 _ hin)) ?_) hc2
    rw [partG, e2]
    exact takeH_in _ _
end
end Go.AM
end
section
open Go Go.AM Go.Proofs
set_option maxRecDepth 10000
set_option linter.unusedVariables false
set_option linter.unusedSimpArgs false
namespace Go.AM
theorem pt_sum {v : Term → Int} (b : Int) : ∀ (T : List Term), ∃ x, (T.map (ptF v)).foldl plusS (ptS b) = ptS x := by
  have gen : ∀ (T : List Term) (c : Int), ∃ x, (T.map (ptF v)).foldl plusS (ptS c) = ptS x := by
    intro T
    induction T with
    | nil => exact fun c => ⟨c, rfl⟩
    | cons t T ih => intro c; simp only [List.map_cons, List.foldl_cons, ptF_eq]; exact ih _
  exact fun T => gen T b
theorem pt_part {v : Term → Int} (D : Nat) (h : Hull) (T : List Term) : ∀ k, k ≤ T.length → ∃ x, (partG D h (T.map (ptF v)) k).2 = ptS x
  | 0, _ => ⟨0, rfl⟩
  | k + 1, hk => by
    obtain ⟨x, hx⟩ := pt_part (v := v) D h T k (by omega)
    have hk' : k < T.length := by omega
    have e : (T.map (ptF v)).getD k default = ptS ((T.getD k default).W * v (T.getD k default)) := by
      rw [← ptF_eq]; simp [List.getD_eq_getElem?_getD, hk']
    rw [partG, e, hx]
    dsimp only
    split
    · exact ⟨_, rfl⟩
    · exact ⟨_, rfl⟩
theorem has_of {x : Int} {h : Hull} (hi : inH (ptS x) h) : hasF (hullS h) x = true := by
  obtain ⟨_, h1, h2⟩ := hi
  unfold hasF
  rw [decide_eq_true_eq]
  exact ⟨h1, h2⟩
/-- what the walk needs to know of the terms -/
structure HoF (a : Ask13) (T : List Term) (pad : Int) (v : Term → Int) (SS PP : Nat → Int) : Prop where
  lt : T.length ≤ 512
  p1 : 0 ≤ IntKind.i64.wrap (a.Op - 1)
  p2 : IntKind.i64.wrap (a.Op - 1) < (a.M.Ops.length : Int)
  at_ : ∀ k, k < T.length → (T.getD k default).At = -1 ∨ (0 ≤ (T.getD k default).At ∧ (T.getD k default).At < (a.X.length : Int))
  hx : ∀ k, k < T.length → (bif (bif decide ((T.getD k default).At ≥ 0) then decide ((T.getD k default).At < ((a.X.map i8C).length : Int)) else false) then IntKind.i64.wrap ((T.getD k default).W * IntKind.i64.wrap (a.X.getD (T.getD k default).At.toNat default)) else IntKind.i64.wrap ((T.getD k default).W * pad)) = (T.getD k default).W * v (T.getD k default)
  vn : ∀ k, k < T.length → (T.getD k default).At < 0 → valOk pad a.S v (T.getD k default)
  vp : ∀ k, k < T.length → ¬ (T.getD k default).At < 0 → hasF a.S (IntKind.i64.wrap (a.X.getD (T.getD k default).At.toNat default)) = true → valOk pad a.S v (T.getD k default)
  os : ∀ k, k < T.length → (∀ t ∈ T.take k, valOk pad a.S v t) → valOk pad a.S v (T.getD k default) → ∀ t ∈ T.take (k + 1), valOk pad a.S v t
  s0 : SS 0 = biasF a.M a.Op a.Ch a.At
  ss : ∀ k, k < T.length → IntKind.i64.wrap (SS k + (T.getD k default).W * v (T.getD k default)) = SS (k + 1)
  hr : ∀ k, k ≤ T.length → (∀ t ∈ T.take k, valOk pad a.S v t) → hasF (runS a.M a.Op a.Ch a.S) (SS k) = true
  ht : (∀ t ∈ T.take T.length, valOk pad a.S v t) → hasF (totS a.M a.Op a.Ch a.S) (SS T.length) = true
  hq : ∀ k, k < T.length → (∀ t ∈ T.take (k + 1), valOk pad a.S v t) → hasF (partS a.M a.Op a.Ch a.S 1) ((T.getD k default).W * v (T.getD k default)) = true
  p0 : PP 0 = 0
  ps : partE a.M a.Op a.Ch a.S a.Depth = 0 → ∀ k, k < T.length → IntKind.i64.wrap ((bif (k : Int).tmod a.Depth == 0 then 0 else PP k) + (T.getD k default).W * v (T.getD k default)) = PP (k + 1)
  pn : partE a.M a.Op a.Ch a.S a.Depth ≠ 0 → ∀ k, PP k = 0
  pd : partE a.M a.Op a.Ch a.S a.Depth = 0 → a.Depth > 0
  hp : partE a.M a.Op a.Ch a.S a.Depth = 0 → ∀ k, k < T.length → (∀ t ∈ T.take (k + 1), valOk pad a.S v t) → hasF (partS a.M a.Op a.Ch a.S a.Depth) (PP (k + 1)) = true ∧ hasF (partS a.M a.Op a.Ch a.S a.Depth) ((T.getD k default).W * v (T.getD k default)) = true
theorem hoF {a : Ask13} (ha : a.Wf) (hz : askE a.M a.Op a.Ch a.S = 0) (he : ofE a.M a.Op a.Ch a.At = 0) (hX : (a.X.length : Int) = (findS a.M a.Op).In.H * (findS a.M a.Op).In.W * (findS a.M a.Op).In.C) :
    ∃ v SS PP, HoF a (termsF a.M a.Op a.Ch a.At) (a.M.Ops.getD (IntKind.i64.wrap (a.Op - 1)).toNat default).Pad v SS PP := by
  obtain ⟨z, hs, f0⟩ := askE_zero hz
  obtain ⟨_, fb, o1, o2, o3, _⟩ := ofE_op he
  obtain ⟨hS, _, hop, _⟩ := site_ok f0
  obtain ⟨hch, hat⟩ := (ofBad_iff hS).1 fb
  have hpd := (pad_bd hS).1
  have hPad : (a.M.Ops.getD (IntKind.i64.wrap (a.Op - 1)).toNat default).Pad = (findS a.M a.Op).Op.Pad := by rw [hop]; show (a.M.Ops.getD (w64 (a.Op - 1)).toNat default).Pad = _; rw [o1]
  rw [hPad]
  obtain ⟨n, hn⟩ : ∃ n : Nat, a.At = (n : Int) := ⟨a.At.toNat, by omega⟩
  have hnp : n < posN a.M a.Op := by unfold posN; omega
  have eb : biasF a.M a.Op a.Ch a.At = biasF a.M a.Op a.Ch 0 := by
    have hb0 : ofBad (findS a.M a.Op) a.Ch 0 = false := (ofE_op z).2.1
    simp [biasF, f0, fb, hb0]
  rw [hn]
  have hW := termsF_W ha.1 a.Op a.Ch (n : Int)
  have hl := termsF_len a.M a.Op a.Ch (n : Int)
  have hb : ofBad (findS a.M a.Op) a.Ch (n : Int) = false := by rw [← hn]; exact fb
  have hin : ∀ t ∈ termsF a.M a.Op a.Ch (n : Int), t.At = -1 ∨ (0 ≤ t.At ∧ t.At < (a.X.length : Int)) := by
    intro t ht
    rw [termsF_eq f0 hb] at ht
    rw [hX]; exact tlF_at hS hch _ t ht
  have hX8 : ∀ i, i < a.X.length → -128 ≤ a.X.getD i default ∧ a.X.getD i default ≤ 127 := fun i hi => by
    have := (ha.2.2.2.2.2.2).2 (a.X.getD i default) (by rw [List.getD_eq_getElem?_getD, List.getElem?_eq_getElem hi]; exact List.getElem_mem hi)
    exact I8.iff.1 this
  obtain ⟨v, hvd⟩ : ∃ v, v = vT a.X (findS a.M a.Op).Op.Pad := ⟨_, rfl⟩
  have v1 : ∀ t, t.At < 0 → v t = (findS a.M a.Op).Op.Pad := fun t h => by rw [hvd]; unfold vT; rw [if_neg (by omega)]
  have v2 : ∀ t, 0 ≤ t.At → v t = w64 (a.X.getD t.At.toNat default) := fun t h => by rw [hvd]; unfold vT; rw [if_pos h]
  have vb : ∀ t ∈ termsF a.M a.Op a.Ch (n : Int), -128 ≤ v t ∧ v t ≤ 127 := by
    intro t ht
    rcases hin t ht with h | ⟨h1, h2⟩
    · rw [v1 t (by omega)]; exact hpd
    · have := hX8 t.At.toNat (by omega)
      rw [v2 t h1, show w64 _ = _ from w64_id (by omega)]; exact this
  have mem : ∀ k, k < (termsF a.M a.Op a.Ch (n : Int)).length → (termsF a.M a.Op a.Ch (n : Int)).getD k default ∈ termsF a.M a.Op a.Ch (n : Int) := fun k hk => getD_in hk
  obtain ⟨D, hD⟩ : ∃ D, D = a.Depth.toNat := ⟨_, rfl⟩
  have hdd : partE a.M a.Op a.Ch a.S a.Depth = 0 → a.Depth > 0 := fun h => by unfold partE at h; rw [if_pos hz] at h; split at h <;> omega
  have key := fun (k : Nat) (hv : ∀ t ∈ (termsF a.M a.Op a.Ch (n : Int)).take k, valOk (findS a.M a.Op).Op.Pad a.S v t) => sum_run ha.1 hz hnp hv
  have keyT := fun (hv : ∀ t ∈ (termsF a.M a.Op a.Ch (n : Int)).take (termsF a.M a.Op a.Ch (n : Int)).length, valOk (findS a.M a.Op).Op.Pad a.S v t) => sum_tot ha.1 hz hnp hv (Nat.le_refl _)
  have keyP := fun (D k : Nat) (hk : k < (termsF a.M a.Op a.Ch (n : Int)).length) (hv1 : ∀ t ∈ (termsF a.M a.Op a.Ch (n : Int)).take (k + 1), valOk (findS a.M a.Op).Op.Pad a.S v t) => sum_part (D := D) ha.1 hz hnp (k := k) (fun t ht => hv1 t (List.take_subset_take_left _ (Nat.le_succ k) ht)) hk hv1
  generalize termsF a.M a.Op a.Ch (n : Int) = T at *
  have hgm : ∀ k, k < T.length → (T.map (ptF v)).getD k default = ptS ((T.getD k default).W * v (T.getD k default)) := fun k hk => by
    rw [← ptF_eq, List.getD_eq_getElem?_getD, List.getElem?_map, List.getD_eq_getElem?_getD, List.getElem?_eq_getElem hk]; rfl
  refine ⟨v, fun k => (sumS (biasF a.M a.Op a.Ch 0) ((T.take k).map (ptF v))).Lo, fun k => if partE a.M a.Op a.Ch a.S a.Depth = 0 then (partG D ⟨0, 0, false⟩ (T.map (ptF v)) k).2.Lo else 0, ?_⟩
  constructor
  case lt => exact hl
  case p1 => show 0 ≤ w64 (a.Op - 1); rw [o1]; exact o2
  case p2 => show w64 (a.Op - 1) < _; rw [o1]; exact o3
  case at_ => exact fun k hk => hin _ (mem k hk)
  case hx =>
    intro k hk
    have h1 := hin _ (mem k hk)
    have h2 := hW _ (mem k hk)
    have h3 := vb _ (mem k hk)
    have h4 := mul_small h2 h3
    generalize T.getD k default = t at *
    rcases h1 with h | ⟨h5, h6⟩
    · rw [v1 t (by omega)] at h4 ⊢
      rw [decide_eq_false (show ¬ t.At ≥ 0 by omega)]
      exact w64_id (by omega)
    · rw [decide_eq_true (show t.At ≥ 0 by omega), List.length_map, decide_eq_true h6]
      show w64 (t.W * w64 (a.X.getD t.At.toNat default)) = _
      rw [← v2 t h5]
      exact w64_id (by omega)
  case vn => exact fun k hk h => by unfold valOk; rw [if_pos h]; exact v1 _ h
  case vp =>
    intro k hk h hh
    unfold valOk; rw [if_neg h, v2 _ (by omega)]
    unfold hasF at hh
    exact of_decide_eq_true hh
  case os =>
    intro k hk h1 h2 t ht
    rw [List.take_add_one, List.mem_append] at ht
    rcases ht with ht | ht
    · exact h1 t ht
    · rw [List.getElem?_eq_getElem hk] at ht
      simp only [Option.toList_some, List.mem_singleton] at ht
      rw [ht]
      rw [List.getD_eq_getElem?_getD, List.getElem?_eq_getElem hk] at h2
      exact h2
  case s0 => rw [eb]; rfl
  case ss =>
    intro k hk
    have := take_fold plusS (⟨biasF a.M a.Op a.Ch 0, biasF a.M a.Op a.Ch 0⟩ : Span) (l := T.map (ptF v)) (k := k) (by rw [List.length_map]; exact hk)
    rw [hgm k hk, ← List.map_take, ← List.map_take] at this
    show _ = (List.foldl plusS _ _).Lo
    rw [this]; rfl
  case hr =>
    intro k hk hv
    have h1 := key k hv
    obtain ⟨x, hx⟩ := pt_sum (v := v) (biasF a.M a.Op a.Ch 0) (T.take k)
    rw [runS, if_pos hz]
    unfold sumS at h1 ⊢
    rw [show (⟨biasF a.M a.Op a.Ch 0, biasF a.M a.Op a.Ch 0⟩ : Span) = ptS (biasF a.M a.Op a.Ch 0) from rfl, hx] at h1 ⊢
    exact has_of h1
  case ht =>
    intro hv
    have h1 := keyT hv
    obtain ⟨x, hx⟩ := pt_sum (v := v) (biasF a.M a.Op a.Ch 0) (T.take T.length)
    rw [totS, if_pos hz]
    unfold sumS at h1 ⊢
    rw [show (⟨biasF a.M a.Op a.Ch 0, biasF a.M a.Op a.Ch 0⟩ : Span) = ptS (biasF a.M a.Op a.Ch 0) from rfl, hx] at h1 ⊢
    exact has_of h1
  case hq =>
    intro k hk hv
    have h1 := (keyP 1 k hk hv).2
    rw [ptF_eq] at h1
    rw [partS, if_pos (by rw [partE_one]; exact hz)]
    exact has_of h1
  case p0 => split <;> rfl
  case ps =>
    intro hd k hk
    have hDd : a.Depth = (D : Int) := by have := hdd hd; omega
    rw [if_pos hd, if_pos hd, blkY_eq hDd, hgm k hk]
    show _ = w64 ((blkY a.Depth k (partG D ⟨0, 0, false⟩ (T.map (ptF v)) k).2).Lo + (T.getD k default).W * v (T.getD k default))
    unfold blkY
    cases (k : Int).tmod a.Depth == 0 <;> rfl
  case pn => exact fun hd k => if_neg hd
  case pd => exact hdd
  case hp =>
    intro hd k hk hv
    have h1 := keyP D k hk hv
    obtain ⟨x, hx⟩ := pt_part (v := v) D ⟨0, 0, false⟩ T (k + 1) hk
    rw [ptF_eq, hx] at h1
    rw [partS, if_pos hd, if_pos hd, ← hD, hx]
    exact ⟨has_of h1.1, has_of h1.2⟩
end Go.AM
end
section
open Go Go.AM Go.Proofs
set_option maxRecDepth 10000
set_option linter.unusedVariables false
set_option linter.unusedSimpArgs false
namespace Go.AM
theorem boundHolds_ok {a : Ask13} (ha : a.Wf) (hz : askE a.M a.Op a.Ch a.S = 0) (he : ofE a.M a.Op a.Ch a.At = 0) {T : List Term} {v : Term → Int} {SS PP : Nat → Int} (hT : termsF a.M a.Op a.Ch a.At = T)
    (hH : (a.X.length : Int) = (findS a.M a.Op).In.H * (findS a.M a.Op).In.W * (findS a.M a.Op).In.C → HoF a T (a.M.Ops.getD (IntKind.i64.wrap (a.Op - 1)).toNat default).Pad v SS PP)
    (hFd : Ok Try.prog 21 [.agg (modelC a.M), .int .i64 a.Op, .int .i64 0] (.tup [.agg (rsiteC (findS a.M a.Op)), .int .i64 0]))
    (hel : w64 (w64 ((findS a.M a.Op).In.H * (findS a.M a.Op).In.W) * (findS a.M a.Op).In.C) = (findS a.M a.Op).In.H * (findS a.M a.Op).In.W * (findS a.M a.Op).In.C) : Ok Try.prog 6 [.agg (ask13C a)] (.bool true) := by
  have hO := terms_Of a.M a.Op a.Ch a.At
  rw [he, hT] at hO
  have hTo := bound_Total a.M ha.1 a.Op a.Ch a.S
  have hRu := bound_Run a.M ha.1 a.Op a.Ch a.S
  have hPr := bound_Product a.M ha.1 a.Op a.Ch a.S
  rw [partE_one] at hPr
  rw [hz] at hTo hRu hPr
  --@@1
  skip
  refine fn_ok Tb_ok (fn := Try.f6) Try.func6 rfl rfl (e := [(0, _)]) rfl (by decide) rfl ?_
  refine zs ?_
  refine zR ?_
  refine zbx [.int _ _, .int _ _, .int _ _, .int _ _, .int _ _, _, .int _ _, .int _ _, .int _ _, .int _ _, .int _ _, .int _ _, .int _ _, _] 14 ?_
  refine zLB ?_
  refine zn ?_
  refine zs ?_
  refine zs ?_
  refine zR ?_
  refine zLc (law13_fixed) ?_
  refine zLB ?_
  refine zn ?_
  refine W_cond_f (b := _) rfl (by rfl) ?_
  refine zk ?_
  refine zs ?_
  refine zR ?_
  refine zLP ?_
  refine zLG [.int _ _, .int _ _, .int _ _, .int _ _, .int _ _, _, .int _ _] ?_
  refine zLP ?_
  refine zLI ?_
  refine zLP ?_
  refine zLI ?_
  refine zLP ?_
  refine zLI ?_
  refine zLc (hO) ?_
  refine zLT [_, _, _] ?_
  refine zLO ?_
  refine zLI ?_
  refine zLI ?_
  refine zLO ?_
  refine zLI ?_
  refine zLI ?_
  refine zn ?_
  refine zs ?_
  refine zR ?_
  refine zLP ?_
  refine zLG [.int _ _, .int _ _, .int _ _, .int _ _, .int _ _, _, .int _ _] ?_
  refine zLP ?_
  refine zLI ?_
  refine zLP ?_
  refine zLI ?_
  refine zLP ?_
  refine zLG [.int _ _, .int _ _] ?_
  refine zLc (hTo) ?_
  refine zLT [_, _] ?_
  refine zLG [.int _ _, .int _ _] ?_
  refine zLI ?_
  refine zal [.int .i64 0, .int .i64 0] 2 ?_
  refine zst (.agg [.int _ _, .int _ _]) [_, _] [[_, _]] ?_
  refine zLI ?_
  refine zn ?_
  refine zs ?_
  refine zR ?_
  refine zLP ?_
  refine zLG [.int _ _, .int _ _, .int _ _, .int _ _, .int _ _, _, .int _ _] ?_
  refine zLP ?_
  refine zLI ?_
  refine zLP ?_
  refine zLI ?_
  refine zLP ?_
  refine zLG [.int _ _, .int _ _] ?_
  refine zLc (hRu) ?_
  refine zLT [_, _] ?_
  refine zLG [.int _ _, .int _ _] ?_
  refine zLI ?_
  refine zal [.int .i64 0, .int .i64 0] 2 ?_
  refine zst (.agg [.int _ _, .int _ _]) [_, _] [[_, _]] ?_
  refine zLI ?_
  refine zn ?_
  refine zs ?_
  refine zR ?_
  refine zLP ?_
  refine zLG [.int _ _, .int _ _, .int _ _, .int _ _, .int _ _, _, .int _ _] ?_
  refine zLP ?_
  refine zLI ?_
  refine zLP ?_
  refine zLI ?_
  refine zLP ?_
  refine zLG [.int _ _, .int _ _] ?_
  refine zLP ?_
  refine zLI ?_
  refine zLc (bound_Part a.M ha.1 a.Op a.Ch a.S a.Depth) ?_
  refine zLT [_, _] ?_
  refine zLG [.int _ _, .int _ _] ?_
  refine zLI ?_
  refine zal [.int .i64 0, .int .i64 0] 2 ?_
  refine zst (.agg [.int _ _, .int _ _]) [_, _] [[_, _]] ?_
  refine zLI ?_
  refine zn ?_
  refine zs ?_
  refine zR ?_
  refine zLP ?_
  refine zLG [.int _ _, .int _ _, .int _ _, .int _ _, .int _ _, _, .int _ _] ?_
  refine zLP ?_
  refine zLI ?_
  refine zLP ?_
  refine zLI ?_
  refine zLP ?_
  refine zLG [.int _ _, .int _ _] ?_
  refine zLc (hPr) ?_
  refine zLT [_, _] ?_
  refine zLG [.int _ _, .int _ _] ?_
  refine zLI ?_
  refine zal [.int .i64 0, .int .i64 0] 2 ?_
  refine zst (.agg [.int _ _, .int _ _]) [_, _] [[_, _]] ?_
  refine zLI ?_
  refine zn ?_
  refine zs ?_
  refine zs ?_
  refine zR ?_
  refine zLI ?_
  refine zLI ?_
  refine zLB ?_
  refine zLB ?_
  refine zgLI ?_
  refine zgLI ?_
  refine zgLB ?_
  refine zpLB ?_
  refine zLB ?_
  refine zgLI ?_
  refine zgLB ?_
  refine zgLB ?_
  refine zgLI ?_
  refine zgLI ?_
  refine zgLB ?_
  refine zqLB ?_
  refine zpLB ?_
  refine zn ?_
  refine W_cond_f (b := _) rfl (by rfl) ?_
  refine zk ?_
  refine zs ?_
  refine zs ?_
  refine zR ?_
  refine zLI ?_
  refine zLB ?_
  refine zLB ?_
  refine zgLI ?_
  refine zgLB ?_
  refine zpLB ?_
  refine zn ?_
  refine W_cond_f (b := _) rfl (by rfl) ?_
  refine zk ?_
  refine zs ?_
  refine zR ?_
  refine zLP ?_
  refine zLG [.int _ _, .int _ _, .int _ _, .int _ _, .int _ _, _, .int _ _] ?_
  refine zLP ?_
  refine zLI ?_
  refine zLc (hFd) ?_
  refine zLT [_, _] ?_
  refine zLG [.int _ _, .int _ _, .int _ _, .int _ _, .int _ _, .int _ _, .int _ _, .int _ _, .int _ _, .int _ _, .int _ _, .int _ _, _, _, .int _ _, .int _ _, .int _ _, .int _ _, .int _ _, .int _ _, .int _ _, .int _ _, .int _ _, .int _ _, .int _ _, .int _ _, .int _ _, .int _ _] ?_
  refine zLI ?_
  refine zal [.int .i64 0, .int .i64 0, .int .i64 0, .int .i64 0, .int .i64 0, .int .i64 0, .int .i64 0, .int .i64 0, .int .i64 0, .int .i64 0, .int .i64 0, .int .i64 0, .nils, .nils, .int .i64 0, .int .i64 0, .int .i64 0, .int .i64 0, .int .i64 0, .int .i64 0, .int .i64 0, .int .i64 0, .int .i64 0, .int .i64 0, .int .i64 0, .int .i64 0, .int .i64 0, .int .i64 0] 28 ?_
  refine zst (.agg [.int _ _, .int _ _, .int _ _, .int _ _, .int _ _, .int _ _, .int _ _, .int _ _, .int _ _, .int _ _, .int _ _, .int _ _, _, _, .int _ _, .int _ _, .int _ _, .int _ _, .int _ _, .int _ _, .int _ _, .int _ _, .int _ _, .int _ _, .int _ _, .int _ _, .int _ _, .int _ _]) [_, _, _, _, _, _, _, _, _, _, _, _, _, _, _, _, _, _, _, _, _, _, _, _, _, _, _, _] [[_, _, _, _, _, _, _, _, _, _, _, _, _, _, _, _, _, _, _, _, _, _, _, _, _, _, _, _]] ?_
  refine zLI ?_
  refine zn ?_
  refine zs ?_
  refine zs ?_
  refine zR ?_
  refine zLP ?_
  refine zLO ?_
  refine zLI ?_
  refine zLP ?_
  refine zLP ?_
  refine zLI ?_
  refine zLP ?_
  refine zLP ?_
  refine zLI ?_
  refine zLI ?_
  refine zLP ?_
  refine zLP ?_
  refine zLI ?_
  refine zLI ?_
  refine zLB ?_
  refine zn ?_
  refine W_cond (b := _) rfl (fun h137 => ?_) (fun h137 => ?_)
  · refine zs ?_
    refine zR ?_
    refine zLB ?_
    refine zn ?_
    refine zt ?_
    refine ends (l := [.bool _]) (q := .bool _) (.inr rfl) rfl ⟨trivial, trivial⟩ rfl rfl ?_
    rfl
  · have H := hH (by rw [← hel]; simpa [w64] using h137)
    refine zk ?_
    refine zs ?_
    refine zR ?_
    refine zLI ?_
    refine zn ?_
    refine zs ?_
    refine zs ?_
    refine zR ?_
    refine zLO ?_
    refine zLI ?_
    refine zLI ?_
    refine zn ?_
    refine W_block ?_
    refine W_inv (ι := {k : Nat // k ≤ T.length ∧ ∀ t ∈ T.take k, valOk (a.M.Ops.getD (IntKind.i64.wrap (a.Op - 1)).toNat default).Pad a.S v t}) (fun k => ⟨[(1, .ptr 0 0 0), (4, .int .i64 (SS k.1)), (6, .ptr 1 0 0), (8, .ptr 2 0 0), (10, .ptr 3 0 0), (11, .int .i64 (partE a.M a.Op a.Ch a.S a.Depth)), (12, .ptr 4 0 0), (16, .int .i64 (PP k.1)), (138, .ro (T.map termC)), (139, .int .i64 ((T.map termC).length : Int)), (140, .int .i64 (k.1 : Int))], [(0, some ⟨31, 14, 0, [ask13C a]⟩), (1, some ⟨28, 2, 0, [spanC (totS a.M a.Op a.Ch a.S)]⟩), (2, some ⟨28, 2, 0, [spanC (runS a.M a.Op a.Ch a.S)]⟩), (3, some ⟨28, 2, 0, [spanC (partS a.M a.Op a.Ch a.S a.Depth)]⟩), (4, some ⟨28, 2, 0, [spanC (partS a.M a.Op a.Ch a.S 1)]⟩)], [], 5⟩) (fun k => T.length - k.1) ⟨0, Nat.zero_le _, by simp⟩ (le_fit ⟨rfl, by rw [H.s0]; rfl, rfl, rfl, rfl, rfl, rfl, by rw [H.p0]; rfl, rfl, rfl, rfl, trivial⟩ ⟨.inr rfl, .inr rfl, .inr rfl, .inr rfl, .inr rfl, trivial⟩ trivial rfl rfl rfl rfl rfl) ?_
    rintro ⟨k, hk, hok⟩
    dsimp only
    refine zs ?_
    refine zR ?_
    refine zLB ?_
    refine zn ?_
    refine zs ?_
    refine W_cond (b := _) rfl (fun h141 => ?_) (fun h141 => ?_)
    · have hkt : k < T.length := by have := of_decide_eq_true h141; rw [List.length_map] at this; omega
      have hTl := H.lt
      have g1 := H.at_ k hkt
      have g2 := H.hx k hkt
      have g3 := H.vn k hkt
      have g4 := H.vp k hkt
      have g5 := H.os k hkt hok
      have g6 := H.ss k hkt
      have g7 := H.hr k hk hok
      have g8 := H.hq k hkt
      have g9 := fun h => H.ps h k hkt
      have g10 := fun h => H.hp h k hkt
      have hkk : T.getD ((k : Nat) : Int).toNat default = T.getD k default := by rw [Int.toNat_natCast]
      generalize T.getD k default = t at *
      refine zk ?_
      refine zs ?_
      refine W_block ?_
      refine zs ?_
      refine zR ?_
      refine zLI ?_
      (refine L_v Tb_ok (v := _) (ave_index_ro rfl rfl rfl (fun _ => rfl) rfl (by first | omega | assumption | decide | (simp_all; done) | (simp_all; omega)) (by first | omega | assumption | decide | (simp_all; done) | (simp_all; omega)) trivial) rfl ?_)
      refine zLG [.int _ _, .int _ _] ?_
      simp only [hkk]
      refine zal [.int .i64 0, .int .i64 0] 2 ?_
      refine zLI ?_
      refine zst (.agg [.int _ _, .int _ _]) [_, _] [[_, _]] ?_
      refine zn ?_
      refine zs ?_
      refine W_draw 13 Tb_mixed rfl (by decide) (by kernel_rfl) (by kernel_rfl) ?_
      refine zEP ?_
      refine zEI ?_
      refine zEP ?_
      refine zEP ?_
      refine zEO ?_
      refine zEP ?_
      refine zEI ?_
      refine zEI ?_
      (refine E_v Tb_ok (v := _) (ave_index_ro rfl rfl rfl (fun _ => rfl) rfl (by first | exact H.p1 | exact H.p2 | (rw [List.length_map]; exact H.p2)) (by first | exact H.p1 | exact H.p2 | (rw [List.length_map]; exact H.p2)) trivial) rfl ?_)
      refine zEQ ?_
      refine zEI ?_
      refine zEI ?_
      refine zEI ?_
      refine LexE_nil ?_
      refine zn ?_
      refine zs ?_
      refine zs ?_
      refine zR ?_
      refine zLP ?_
      refine zLI ?_
      refine zLB ?_
      refine zLB ?_
      refine zgLP ?_
      refine zgLI ?_
      refine zgLP ?_
      refine zgLO ?_
      refine zgLI ?_
      refine zgLB ?_
      refine zpLB ?_
      refine zn ?_
      refine W_ift (b := _) (M := ⟨[(1, .ptr 0 0 0), (4, .int .i64 (SS k)), (6, .ptr 1 0 0), (8, .ptr 2 0 0), (10, .ptr 3 0 0), (11, .int .i64 (partE a.M a.Op a.Ch a.S a.Depth)), (12, .ptr 4 0 0), (16, .int .i64 (PP k)), (17, .int .i64 (k : Int)), (19, .int .i64 ((bif bif decide (t.At ≥ 0) then decide (t.At < ((a.X.map i8C).length : Int)) else false then IntKind.i64.wrap (t.W * IntKind.i64.wrap (a.X.getD t.At.toNat default)) else IntKind.i64.wrap (t.W * (a.M.Ops.getD (IntKind.i64.wrap (a.Op - 1)).toNat default).Pad)))), (138, .ro (T.map termC)), (139, .int .i64 ((T.map termC).length : Int)), (140, .int .i64 (k : Int))], [(0, some ⟨31, 14, 0, [ask13C a]⟩), (1, some ⟨28, 2, 0, [spanC (totS a.M a.Op a.Ch a.S)]⟩), (2, some ⟨28, 2, 0, [spanC (runS a.M a.Op a.Ch a.S)]⟩), (3, some ⟨28, 2, 0, [spanC (partS a.M a.Op a.Ch a.S a.Depth)]⟩), (4, some ⟨28, 2, 0, [spanC (partS a.M a.Op a.Ch a.S 1)]⟩)], [], 5⟩) (p := valOk (a.M.Ops.getD (IntKind.i64.wrap (a.Op - 1)).toNat default).Pad a.S v t) rfl (fun h167 => ?_) (fun h167 => ?_) (fun m167 => ?_)
      · refine zs ?_
        refine zs ?_
        refine W_draw 11 Tb_mixed rfl (by decide) (by kernel_rfl) (by kernel_rfl) ?_
        refine zEP ?_
        refine zEG [.int _ _, .int _ _] ?_
        refine zEP ?_
        refine zEO ?_
        refine zEP ?_
        refine zEI ?_
        (refine E_v Tb_ok (v := _) (ave_index_ro rfl rfl rfl (fun _ => rfl) rfl (by first | omega | assumption | decide | (simp_all; done) | (simp_all; omega)) (by first | omega | assumption | decide | (simp_all; done) | (simp_all; omega)) trivial) rfl ?_)
        refine zEI ?_
        refine zEI ?_
        refine zEc (span_Has _ _) ?_
        refine zEB ?_
        refine LexE_nil ?_
        refine zn ?_
        refine W_cond (b := _) rfl (fun h178 => ?_) (fun h178 => ?_)
        · refine zs ?_
          refine zR ?_
          refine zLB ?_
          refine zn ?_
          refine zt ?_
          refine ends (l := [.bool _]) (q := .bool _) (.inr rfl) rfl ⟨trivial, trivial⟩ rfl rfl ?_
          rfl
        · have hval := g4 (by intro c; have : (bif decide (t.At ≥ 0) then decide (t.At < ((a.X.map i8C).length : Int)) else false) = true := h167; rw [decide_eq_false (by omega)] at this; simp at this) (by simpa using h178)
          refine zk ?_
          refine W_draw 11 Tb_mixed rfl (by decide) (by kernel_rfl) (by kernel_rfl) ?_
          refine zEP ?_
          refine zEI ?_
          refine zEP ?_
          refine zEO ?_
          refine zEP ?_
          refine zEI ?_
          (refine E_v Tb_ok (v := _) (ave_index_ro rfl rfl rfl (fun _ => rfl) rfl (by first | omega | assumption | decide | (simp_all; done) | (simp_all; omega)) (by first | omega | assumption | decide | (simp_all; done) | (simp_all; omega)) trivial) rfl ?_)
          refine zEI ?_
          refine zEI ?_
          refine zEI ?_
          refine zEI ?_
          refine LexE_nil ?_
          refine zn ?_
          exact ⟨hval, le_t (F := fun X => ⟨[(1, .ptr 0 0 0), (4, .int .i64 (SS k)), (6, .ptr 1 0 0), (8, .ptr 2 0 0), (10, .ptr 3 0 0), (11, .int .i64 (partE a.M a.Op a.Ch a.S a.Depth)), (12, .ptr 4 0 0), (16, .int .i64 (PP k)), (17, .int .i64 (k : Int)), (19, .int .i64 (X)), (138, .ro (T.map termC)), (139, .int .i64 ((T.map termC).length : Int)), (140, .int .i64 (k : Int))], [(0, some ⟨31, 14, 0, [ask13C a]⟩), (1, some ⟨28, 2, 0, [spanC (totS a.M a.Op a.Ch a.S)]⟩), (2, some ⟨28, 2, 0, [spanC (runS a.M a.Op a.Ch a.S)]⟩), (3, some ⟨28, 2, 0, [spanC (partS a.M a.Op a.Ch a.S a.Depth)]⟩), (4, some ⟨28, 2, 0, [spanC (partS a.M a.Op a.Ch a.S 1)]⟩)], [], 5⟩) (x := IntKind.i64.wrap (t.W * IntKind.i64.wrap (a.X.getD t.At.toNat default))) (y := IntKind.i64.wrap (t.W * (a.M.Ops.getD (IntKind.i64.wrap (a.Op - 1)).toNat default).Pad)) h167 (le_fit ⟨rfl, rfl, rfl, rfl, rfl, rfl, rfl, rfl, rfl, rfl, rfl, rfl, rfl, trivial⟩ ⟨.inr rfl, .inr rfl, .inr rfl, .inr rfl, .inr rfl, trivial⟩ trivial rfl rfl rfl rfl rfl)⟩
      · refine zk ?_
        exact ⟨g3 (by rcases g1 with e | ⟨e1, e2⟩ <;> first | omega | (exfalso; have h167' : (bif decide (t.At ≥ 0) then decide (t.At < ((a.X.map i8C).length : Int)) else false) = false := h167; rw [decide_eq_true e1, List.length_map, decide_eq_true e2] at h167'; simp at h167')), le_f (F := fun X => ⟨[(1, .ptr 0 0 0), (4, .int .i64 (SS k)), (6, .ptr 1 0 0), (8, .ptr 2 0 0), (10, .ptr 3 0 0), (11, .int .i64 (partE a.M a.Op a.Ch a.S a.Depth)), (12, .ptr 4 0 0), (16, .int .i64 (PP k)), (17, .int .i64 (k : Int)), (19, .int .i64 (X)), (138, .ro (T.map termC)), (139, .int .i64 ((T.map termC).length : Int)), (140, .int .i64 (k : Int))], [(0, some ⟨31, 14, 0, [ask13C a]⟩), (1, some ⟨28, 2, 0, [spanC (totS a.M a.Op a.Ch a.S)]⟩), (2, some ⟨28, 2, 0, [spanC (runS a.M a.Op a.Ch a.S)]⟩), (3, some ⟨28, 2, 0, [spanC (partS a.M a.Op a.Ch a.S a.Depth)]⟩), (4, some ⟨28, 2, 0, [spanC (partS a.M a.Op a.Ch a.S 1)]⟩)], [], 5⟩) (x := IntKind.i64.wrap (t.W * IntKind.i64.wrap (a.X.getD t.At.toNat default))) (y := IntKind.i64.wrap (t.W * (a.M.Ops.getD (IntKind.i64.wrap (a.Op - 1)).toNat default).Pad)) h167 (le_fit ⟨rfl, rfl, rfl, rfl, rfl, rfl, rfl, rfl, rfl, rfl, rfl, rfl, rfl, trivial⟩ ⟨.inr rfl, .inr rfl, .inr rfl, .inr rfl, .inr rfl, trivial⟩ trivial rfl rfl rfl rfl rfl)⟩
      refine zs ?_
      refine zs ?_
      refine zR ?_
      simp only [g2]
      refine zLG [.int _ _, .int _ _] ?_
      refine zLI ?_
      refine zLc (span_Has _ _) ?_
      refine zLB ?_
      refine zLB ?_
      refine zgLG [.int _ _, .int _ _] ?_
      refine zgLI ?_
      refine L_callg (hr := fun hg => span_Has _ _) rfl rfl rfl rfl rfl (fun hg => ⟨⟨(by exact hg), True.intro⟩, ⟨⟨(by exact hg), True.intro⟩, True.intro⟩⟩) rfl rfl ?_
      refine zgLB ?_
      refine zpLB ?_
      refine zn ?_
      refine W_cond (b := _) rfl (fun h198 => ?_) (fun h198 => ?_)
      · exfalso
        have h' : (bif !hasF (runS a.M a.Op a.Ch a.S) (SS k) then true else !hasF (partS a.M a.Op a.Ch a.S 1) (t.W * v t)) = true := h198
        rw [g7, g8 (g5 m167)] at h'; simp at h'
      · refine zk ?_
        refine zs ?_
        refine zR ?_
        refine zLI ?_
        refine zLI ?_
        refine zLI ?_
        refine zLI ?_
        refine zn ?_
        refine zs ?_
        refine zR ?_
        simp only [g6]
        refine zLI ?_
        refine zLB ?_
        refine zLB ?_
        refine zgLP ?_
        refine zgLI ?_
        refine zgLB ?_
        refine zpLB ?_
        refine zn ?_
        refine W_cond (b := _) rfl (fun h208 => ?_) (fun h208 => ?_)
        · have hd : partE a.M a.Op a.Ch a.S a.Depth = 0 := by
            have h' : (bif partE a.M a.Op a.Ch a.S a.Depth == 0 then decide (a.Depth > 0) else false) = true := h208
            by_cases c : partE a.M a.Op a.Ch a.S a.Depth = 0
            · exact c
            · simp [c] at h'
          have hd0 : a.Depth ≠ 0 := by have := H.pd hd; omega
          have g11 := g9 hd
          refine zs ?_
          refine zs ?_
          refine zR ?_
          refine zLI ?_
          refine zLP ?_
          refine zLI ?_
          refine L_v Tb_ok (v := .int _ _) (av rfl ⟨trivial, (by exact hd0)⟩) rfl ?_
          refine zLB ?_
          refine zn ?_
          refine W_ift (b := _) (M := ⟨[(1, .ptr 0 0 0), (4, .int .i64 (SS (k + 1))), (6, .ptr 1 0 0), (8, .ptr 2 0 0), (10, .ptr 3 0 0), (11, .int .i64 (partE a.M a.Op a.Ch a.S a.Depth)), (12, .ptr 4 0 0), (16, .int .i64 ((bif (k : Int).tmod a.Depth == 0 then (0 : Int) else PP k))), (17, .int .i64 (k : Int)), (19, .int .i64 (t.W * v t)), (138, .ro (T.map termC)), (139, .int .i64 ((T.map termC).length : Int)), (140, .int .i64 (k : Int))], [(0, some ⟨31, 14, 0, [ask13C a]⟩), (1, some ⟨28, 2, 0, [spanC (totS a.M a.Op a.Ch a.S)]⟩), (2, some ⟨28, 2, 0, [spanC (runS a.M a.Op a.Ch a.S)]⟩), (3, some ⟨28, 2, 0, [spanC (partS a.M a.Op a.Ch a.S a.Depth)]⟩), (4, some ⟨28, 2, 0, [spanC (partS a.M a.Op a.Ch a.S 1)]⟩)], [], 5⟩) (p := True) rfl (fun h213 => ?_) (fun h213 => ?_) (fun m213 => ?_)
          · refine zR ?_
            refine zLI ?_
            refine zn ?_
            exact ⟨trivial, le_t (F := fun X => ⟨[(1, .ptr 0 0 0), (4, .int .i64 (SS (k + 1))), (6, .ptr 1 0 0), (8, .ptr 2 0 0), (10, .ptr 3 0 0), (11, .int .i64 (partE a.M a.Op a.Ch a.S a.Depth)), (12, .ptr 4 0 0), (16, .int .i64 (X)), (17, .int .i64 (k : Int)), (19, .int .i64 (t.W * v t)), (138, .ro (T.map termC)), (139, .int .i64 ((T.map termC).length : Int)), (140, .int .i64 (k : Int))], [(0, some ⟨31, 14, 0, [ask13C a]⟩), (1, some ⟨28, 2, 0, [spanC (totS a.M a.Op a.Ch a.S)]⟩), (2, some ⟨28, 2, 0, [spanC (runS a.M a.Op a.Ch a.S)]⟩), (3, some ⟨28, 2, 0, [spanC (partS a.M a.Op a.Ch a.S a.Depth)]⟩), (4, some ⟨28, 2, 0, [spanC (partS a.M a.Op a.Ch a.S 1)]⟩)], [], 5⟩) (x := (0 : Int)) (y := PP k) h213 (le_fit ⟨rfl, rfl, rfl, rfl, rfl, rfl, rfl, rfl, rfl, rfl, rfl, rfl, rfl, trivial⟩ ⟨.inr rfl, .inr rfl, .inr rfl, .inr rfl, .inr rfl, trivial⟩ trivial rfl rfl rfl rfl rfl)⟩
          · refine zk ?_
            exact ⟨trivial, le_f (F := fun X => ⟨[(1, .ptr 0 0 0), (4, .int .i64 (SS (k + 1))), (6, .ptr 1 0 0), (8, .ptr 2 0 0), (10, .ptr 3 0 0), (11, .int .i64 (partE a.M a.Op a.Ch a.S a.Depth)), (12, .ptr 4 0 0), (16, .int .i64 (X)), (17, .int .i64 (k : Int)), (19, .int .i64 (t.W * v t)), (138, .ro (T.map termC)), (139, .int .i64 ((T.map termC).length : Int)), (140, .int .i64 (k : Int))], [(0, some ⟨31, 14, 0, [ask13C a]⟩), (1, some ⟨28, 2, 0, [spanC (totS a.M a.Op a.Ch a.S)]⟩), (2, some ⟨28, 2, 0, [spanC (runS a.M a.Op a.Ch a.S)]⟩), (3, some ⟨28, 2, 0, [spanC (partS a.M a.Op a.Ch a.S a.Depth)]⟩), (4, some ⟨28, 2, 0, [spanC (partS a.M a.Op a.Ch a.S 1)]⟩)], [], 5⟩) (x := (0 : Int)) (y := PP k) h213 (le_fit ⟨rfl, rfl, rfl, rfl, rfl, rfl, rfl, rfl, rfl, rfl, rfl, rfl, rfl, trivial⟩ ⟨.inr rfl, .inr rfl, .inr rfl, .inr rfl, .inr rfl, trivial⟩ trivial rfl rfl rfl rfl rfl)⟩
          refine zs ?_
          refine zR ?_
          refine zLI ?_
          refine zLI ?_
          refine zLI ?_
          refine zLI ?_
          refine zn ?_
          refine zs ?_
          refine zR ?_
          simp only [g11]
          refine zLG [.int _ _, .int _ _] ?_
          refine zLI ?_
          refine zLc (span_Has _ _) ?_
          refine zLB ?_
          refine zLB ?_
          refine zgLG [.int _ _, .int _ _] ?_
          refine zgLI ?_
          refine L_callg (hr := fun hg => span_Has _ _) rfl rfl rfl rfl rfl (fun hg => ⟨⟨(by exact hg), True.intro⟩, ⟨⟨(by exact hg), True.intro⟩, True.intro⟩⟩) rfl rfl ?_
          refine zgLB ?_
          refine zpLB ?_
          refine zn ?_
          refine W_cond (b := _) rfl (fun h226 => ?_) (fun h226 => ?_)
          · exfalso
            have h' : (bif !hasF (partS a.M a.Op a.Ch a.S a.Depth) (PP (k + 1)) then true else !hasF (partS a.M a.Op a.Ch a.S a.Depth) (t.W * v t)) = true := h226
            rw [(g10 hd (g5 m167)).1, (g10 hd (g5 m167)).2] at h'; simp at h'
          · refine zk ?_
            refine zR ?_
            refine zLI ?_
            refine zLI ?_
            refine zn ?_
            first
            | (refine round_end (Q := fun _ _ => True) ⟨k + 1, hkt, g5 m167⟩ (by dsimp only; omega) (le_fit ⟨rfl, rfl, rfl, rfl, rfl, rfl, rfl, rfl, rfl, rfl, congrArg _ (w_succ hkt (by omega)), trivial⟩ ⟨.inr rfl, .inr rfl, .inr rfl, .inr rfl, .inr rfl, trivial⟩ trivial rfl rfl rfl rfl rfl); done)
            | (refine round_end (Q := fun _ _ => True) ⟨k + 1, hkt, g5 m167⟩ (by dsimp only; omega) (le_fit ⟨rfl, rfl, rfl, rfl, rfl, rfl, rfl, congrArg (AV.int .i64) ((H.pn hdn k).trans (H.pn hdn (k + 1)).symm), rfl, rfl, congrArg _ (w_succ hkt (by omega)), trivial⟩ ⟨.inr rfl, .inr rfl, .inr rfl, .inr rfl, .inr rfl, trivial⟩ trivial rfl rfl rfl rfl rfl); done)
        · have hdn : partE a.M a.Op a.Ch a.S a.Depth ≠ 0 := by
            intro c
            have h' : (bif partE a.M a.Op a.Ch a.S a.Depth == 0 then decide (a.Depth > 0) else false) = false := h208
            rw [c, decide_eq_true (H.pd c)] at h'
            simp at h'
          refine zk ?_
          refine zR ?_
          refine zLI ?_
          refine zLI ?_
          refine zn ?_
          first
          | (refine round_end (Q := fun _ _ => True) ⟨k + 1, hkt, g5 m167⟩ (by dsimp only; omega) (le_fit ⟨rfl, rfl, rfl, rfl, rfl, rfl, rfl, rfl, rfl, rfl, congrArg _ (w_succ hkt (by omega)), trivial⟩ ⟨.inr rfl, .inr rfl, .inr rfl, .inr rfl, .inr rfl, trivial⟩ trivial rfl rfl rfl rfl rfl); done)
          | (refine round_end (Q := fun _ _ => True) ⟨k + 1, hkt, g5 m167⟩ (by dsimp only; omega) (le_fit ⟨rfl, rfl, rfl, rfl, rfl, rfl, rfl, congrArg (AV.int .i64) ((H.pn hdn k).trans (H.pn hdn (k + 1)).symm), rfl, rfl, congrArg _ (w_succ hkt (by omega)), trivial⟩ ⟨.inr rfl, .inr rfl, .inr rfl, .inr rfl, .inr rfl, trivial⟩ trivial rfl rfl rfl rfl rfl); done)
    · have hke : k = T.length := by have := of_decide_eq_false h141; rw [List.length_map] at this; omega
      refine W_exit ?_
      repeat (first | refine pass_then ?_ | refine pass_round ?_)
      refine blockQ_hit ?_
      refine zs ?_
      refine zR ?_
      refine zLG [.int _ _, .int _ _] ?_
      refine zLI ?_
      refine zLc (span_Has _ _) ?_
      refine zLB ?_
      refine zgLG [.int _ _, .int _ _] ?_
      refine zgLI ?_
      refine L_callg (hr := fun hg => span_Has _ _) rfl rfl rfl rfl rfl (fun hg => ⟨⟨(by exact hg), True.intro⟩, ⟨⟨(by exact hg), True.intro⟩, True.intro⟩⟩) rfl rfl ?_
      refine zpLB ?_
      refine zLB ?_
      refine zn ?_
      refine zt ?_
      refine ends (l := [.bool _]) (q := .bool _) (.inr rfl) rfl ⟨trivial, trivial⟩ rfl rfl ?_
      (subst hke; rw [H.hr _ (Nat.le_refl _) hok, H.ht hok]; rfl)
end Go.AM
end
section
open Go Go.AM Go.Proofs
set_option maxRecDepth 10000
set_option linter.unusedVariables false
set_option linter.unusedSimpArgs false
namespace Go.AM
theorem rf0' (m : Model) (op : Int) : rfE m op 0 = findE m op ∧ rfS m op 0 = findS m op := by
  have hE : rfE m op 0 = findE m op := by
    unfold rfE
    split
    · rename_i h0
      obtain ⟨hS, _⟩ := site_ok h0
      have B := shapeB_iff.1 hS.outB
      have c1 : ¬ (0 : Int) > (findS m op).Out.C := by omega
      simp [c1, h0]
    · rfl
  refine ⟨hE, ?_⟩
  unfold rfS
  rw [hE]
  split
  · rfl
  · rename_i h0
    have : fi1 m = true ∨ (fi1 m = false ∧ fi2 m op = true) ∨ (fi1 m = false ∧ fi2 m op = false ∧ fi3 m op = true) := by
      cases h1 : fi1 m <;> cases h2 : fi2 m op <;> cases h3 : fi3 m op <;> simp [findE, h1, h2, h3] at h0 ⊢
    rcases this with h1 | ⟨h1, h2⟩ | ⟨h1, h2, h3⟩ <;> simp [findS, *]
theorem boundHolds (a : Ask13) (ha : a.Wf) : Ok Try.prog 6 [.agg (ask13C a)] (.bool true) := by
  have hO := terms_Of a.M a.Op a.Ch a.At
  have hTo := bound_Total a.M ha.1 a.Op a.Ch a.S
  have hRu := bound_Run a.M ha.1 a.Op a.Ch a.S
  have hPr := bound_Product a.M ha.1 a.Op a.Ch a.S
  rw [partE_one] at hPr
  have hPa := bound_Part a.M ha.1 a.Op a.Ch a.S a.Depth
  by_cases hz : askE a.M a.Op a.Ch a.S = 0
  · by_cases he : ofE a.M a.Op a.Ch a.At = 0
    · obtain ⟨z, hs, f0⟩ := askE_zero hz
      have B := shapeB_iff.1 (site_ok f0).1.inB
      have hFd := ref10_Find a.M ha.1 a.Op 0
      rw [(rf0' a.M a.Op).1, (rf0' a.M a.Op).2, f0] at hFd
      have c0 : 0 ≤ (findS a.M a.Op).In.H * (findS a.M a.Op).In.W := Int.mul_nonneg (by omega) (by omega)
      have c1 : (findS a.M a.Op).In.H * (findS a.M a.Op).In.W ≤ 1024 * 1024 := Int.mul_le_mul B.1.2 B.2.1.2 (by omega) (by omega)
      have c2 : 0 ≤ (findS a.M a.Op).In.H * (findS a.M a.Op).In.W * (findS a.M a.Op).In.C := Int.mul_nonneg c0 (by omega)
      have hel : w64 (w64 ((findS a.M a.Op).In.H * (findS a.M a.Op).In.W) * (findS a.M a.Op).In.C) = (findS a.M a.Op).In.H * (findS a.M a.Op).In.W * (findS a.M a.Op).In.C := by
        rw [show w64 ((findS a.M a.Op).In.H * (findS a.M a.Op).In.W) = _ from w64_id (by omega)]; exact w64_id (by omega)
      by_cases hX : (a.X.length : Int) = (findS a.M a.Op).In.H * (findS a.M a.Op).In.W * (findS a.M a.Op).In.C
      · obtain ⟨v, SS, PP, H⟩ := hoF ha hz he hX
        exact boundHolds_ok ha hz he rfl (fun _ => H) hFd hel
      · exact boundHolds_ok (v := fun _ => 0) (SS := fun _ => 0) (PP := fun _ => 0) ha hz he rfl (fun h => absurd h hX) hFd hel
    · rw [hz] at hTo hRu hPr
      have hc107 : (bif ofE a.M a.Op a.Ch a.At != 0 then true else ((0 : Int) != 0)) = true := by simp [he]
      --@@1
      skip
      refine fn_ok Tb_ok (fn := Try.f6) Try.func6 rfl rfl (e := [(0, _)]) rfl (by decide) rfl ?_
      refine zs ?_
      refine zR ?_
      refine zbx [.int _ _, .int _ _, .int _ _, .int _ _, .int _ _, _, .int _ _, .int _ _, .int _ _, .int _ _, .int _ _, .int _ _, .int _ _, _] 14 ?_
      refine zLB ?_
      refine zn ?_
      refine zs ?_
      refine zs ?_
      refine zR ?_
      refine zLc (law13_fixed) ?_
      refine zLB ?_
      refine zn ?_
      refine W_cond_f (b := _) rfl (by rfl) ?_
      refine zk ?_
      refine zs ?_
      refine zR ?_
      refine zLP ?_
      refine zLG [.int _ _, .int _ _, .int _ _, .int _ _, .int _ _, _, .int _ _] ?_
      refine zLP ?_
      refine zLI ?_
      refine zLP ?_
      refine zLI ?_
      refine zLP ?_
      refine zLI ?_
      refine zLc (hO) ?_
      refine zLT [_, _, _] ?_
      refine zLO ?_
      refine zLI ?_
      refine zLI ?_
      refine zLO ?_
      refine zLI ?_
      refine zLI ?_
      refine zn ?_
      refine zs ?_
      refine zR ?_
      refine zLP ?_
      refine zLG [.int _ _, .int _ _, .int _ _, .int _ _, .int _ _, _, .int _ _] ?_
      refine zLP ?_
      refine zLI ?_
      refine zLP ?_
      refine zLI ?_
      refine zLP ?_
      refine zLG [.int _ _, .int _ _] ?_
      refine zLc (hTo) ?_
      refine zLT [_, _] ?_
      refine zLG [.int _ _, .int _ _] ?_
      refine zLI ?_
      refine zal [.int .i64 0, .int .i64 0] 2 ?_
      refine zst (.agg [.int _ _, .int _ _]) [_, _] [[_, _]] ?_
      refine zLI ?_
      refine zn ?_
      refine zs ?_
      refine zR ?_
      refine zLP ?_
      refine zLG [.int _ _, .int _ _, .int _ _, .int _ _, .int _ _, _, .int _ _] ?_
      refine zLP ?_
      refine zLI ?_
      refine zLP ?_
      refine zLI ?_
      refine zLP ?_
      refine zLG [.int _ _, .int _ _] ?_
      refine zLc (hRu) ?_
      refine zLT [_, _] ?_
      refine zLG [.int _ _, .int _ _] ?_
      refine zLI ?_
      refine zal [.int .i64 0, .int .i64 0] 2 ?_
      refine zst (.agg [.int _ _, .int _ _]) [_, _] [[_, _]] ?_
      refine zLI ?_
      refine zn ?_
      refine zs ?_
      refine zR ?_
      refine zLP ?_
      refine zLG [.int _ _, .int _ _, .int _ _, .int _ _, .int _ _, _, .int _ _] ?_
      refine zLP ?_
      refine zLI ?_
      refine zLP ?_
      refine zLI ?_
      refine zLP ?_
      refine zLG [.int _ _, .int _ _] ?_
      refine zLP ?_
      refine zLI ?_
      refine zLc (hPa) ?_
      refine zLT [_, _] ?_
      refine zLG [.int _ _, .int _ _] ?_
      refine zLI ?_
      refine zal [.int .i64 0, .int .i64 0] 2 ?_
      refine zst (.agg [.int _ _, .int _ _]) [_, _] [[_, _]] ?_
      refine zLI ?_
      refine zn ?_
      refine zs ?_
      refine zR ?_
      refine zLP ?_
      refine zLG [.int _ _, .int _ _, .int _ _, .int _ _, .int _ _, _, .int _ _] ?_
      refine zLP ?_
      refine zLI ?_
      refine zLP ?_
      refine zLI ?_
      refine zLP ?_
      refine zLG [.int _ _, .int _ _] ?_
      refine zLc (hPr) ?_
      refine zLT [_, _] ?_
      refine zLG [.int _ _, .int _ _] ?_
      refine zLI ?_
      refine zal [.int .i64 0, .int .i64 0] 2 ?_
      refine zst (.agg [.int _ _, .int _ _]) [_, _] [[_, _]] ?_
      refine zLI ?_
      refine zn ?_
      refine zs ?_
      refine zs ?_
      refine zR ?_
      refine zLI ?_
      refine zLI ?_
      refine zLB ?_
      refine zLB ?_
      refine zgLI ?_
      refine zgLI ?_
      refine zgLB ?_
      refine zpLB ?_
      refine zLB ?_
      refine zgLI ?_
      refine zgLB ?_
      refine zgLB ?_
      refine zgLI ?_
      refine zgLI ?_
      refine zgLB ?_
      refine zqLB ?_
      refine zpLB ?_
      refine zn ?_
      refine W_cond_f (b := _) rfl (by rfl) ?_
      refine zk ?_
      refine zs ?_
      refine zs ?_
      refine zR ?_
      refine zLI ?_
      refine zLB ?_
      refine zLB ?_
      refine zgLI ?_
      refine zgLB ?_
      refine zpLB ?_
      refine zn ?_
      refine W_cond_t (b := _) rfl (by exact hc107) ?_
      refine zs ?_
      refine zR ?_
      refine zLI ?_
      refine zLB ?_
      refine zLB ?_
      refine zgLG [.int _ _, .int _ _] ?_
      refine zgLG [.int _ _, .int _ _] ?_
      refine zgLB ?_
      refine zpLB ?_
      refine zLB ?_
      refine zn ?_
      refine zt ?_
      refine ends (l := [.bool _]) (q := .bool _) (.inr rfl) rfl ⟨trivial, trivial⟩ rfl rfl ?_
      rfl
  · have hpe : partE a.M a.Op a.Ch a.S a.Depth = askE a.M a.Op a.Ch a.S := by unfold partE; rw [if_neg hz]
    have hts : totS a.M a.Op a.Ch a.S = ⟨0, 0⟩ := by unfold totS; rw [if_neg hz]
    rw [hpe] at hPa
    rw [hts] at hTo
    generalize askE a.M a.Op a.Ch a.S = q at *
    have hc101 : (bif (bif q != q then true else q != q) then true else (bif q != 0 then q != q else false)) = false := by simp
    have hc107 : (bif ofE a.M a.Op a.Ch a.At != 0 then true else (q != 0)) = true := by simp [hz]
    --@@2
    skip
    refine fn_ok Tb_ok (fn := Try.f6) Try.func6 rfl rfl (e := [(0, _)]) rfl (by decide) rfl ?_
    refine zs ?_
    refine zR ?_
    refine zbx [.int _ _, .int _ _, .int _ _, .int _ _, .int _ _, _, .int _ _, .int _ _, .int _ _, .int _ _, .int _ _, .int _ _, .int _ _, _] 14 ?_
    refine zLB ?_
    refine zn ?_
    refine zs ?_
    refine zs ?_
    refine zR ?_
    refine zLc (law13_fixed) ?_
    refine zLB ?_
    refine zn ?_
    refine W_cond_f (b := _) rfl (by rfl) ?_
    refine zk ?_
    refine zs ?_
    refine zR ?_
    refine zLP ?_
    refine zLG [.int _ _, .int _ _, .int _ _, .int _ _, .int _ _, _, .int _ _] ?_
    refine zLP ?_
    refine zLI ?_
    refine zLP ?_
    refine zLI ?_
    refine zLP ?_
    refine zLI ?_
    refine zLc (hO) ?_
    refine zLT [_, _, _] ?_
    refine zLO ?_
    refine zLI ?_
    refine zLI ?_
    refine zLO ?_
    refine zLI ?_
    refine zLI ?_
    refine zn ?_
    refine zs ?_
    refine zR ?_
    refine zLP ?_
    refine zLG [.int _ _, .int _ _, .int _ _, .int _ _, .int _ _, _, .int _ _] ?_
    refine zLP ?_
    refine zLI ?_
    refine zLP ?_
    refine zLI ?_
    refine zLP ?_
    refine zLG [.int _ _, .int _ _] ?_
    refine zLc (hTo) ?_
    refine zLT [_, _] ?_
    refine zLG [.int _ _, .int _ _] ?_
    refine zLI ?_
    refine zal [.int .i64 0, .int .i64 0] 2 ?_
    refine zst (.agg [.int _ _, .int _ _]) [_, _] [[_, _]] ?_
    refine zLI ?_
    refine zn ?_
    refine zs ?_
    refine zR ?_
    refine zLP ?_
    refine zLG [.int _ _, .int _ _, .int _ _, .int _ _, .int _ _, _, .int _ _] ?_
    refine zLP ?_
    refine zLI ?_
    refine zLP ?_
    refine zLI ?_
    refine zLP ?_
    refine zLG [.int _ _, .int _ _] ?_
    refine zLc (hRu) ?_
    refine zLT [_, _] ?_
    refine zLG [.int _ _, .int _ _] ?_
    refine zLI ?_
    refine zal [.int .i64 0, .int .i64 0] 2 ?_
    refine zst (.agg [.int _ _, .int _ _]) [_, _] [[_, _]] ?_
    refine zLI ?_
    refine zn ?_
    refine zs ?_
    refine zR ?_
    refine zLP ?_
    refine zLG [.int _ _, .int _ _, .int _ _, .int _ _, .int _ _, _, .int _ _] ?_
    refine zLP ?_
    refine zLI ?_
    refine zLP ?_
    refine zLI ?_
    refine zLP ?_
    refine zLG [.int _ _, .int _ _] ?_
    refine zLP ?_
    refine zLI ?_
    refine zLc (hPa) ?_
    refine zLT [_, _] ?_
    refine zLG [.int _ _, .int _ _] ?_
    refine zLI ?_
    refine zal [.int .i64 0, .int .i64 0] 2 ?_
    refine zst (.agg [.int _ _, .int _ _]) [_, _] [[_, _]] ?_
    refine zLI ?_
    refine zn ?_
    refine zs ?_
    refine zR ?_
    refine zLP ?_
    refine zLG [.int _ _, .int _ _, .int _ _, .int _ _, .int _ _, _, .int _ _] ?_
    refine zLP ?_
    refine zLI ?_
    refine zLP ?_
    refine zLI ?_
    refine zLP ?_
    refine zLG [.int _ _, .int _ _] ?_
    refine zLc (hPr) ?_
    refine zLT [_, _] ?_
    refine zLG [.int _ _, .int _ _] ?_
    refine zLI ?_
    refine zal [.int .i64 0, .int .i64 0] 2 ?_
    refine zst (.agg [.int _ _, .int _ _]) [_, _] [[_, _]] ?_
    refine zLI ?_
    refine zn ?_
    refine zs ?_
    refine zs ?_
    refine zR ?_
    refine zLI ?_
    refine zLI ?_
    refine zLB ?_
    refine zLB ?_
    refine zgLI ?_
    refine zgLI ?_
    refine zgLB ?_
    refine zpLB ?_
    refine zLB ?_
    refine zgLI ?_
    refine zgLB ?_
    refine zgLB ?_
    refine zgLI ?_
    refine zgLI ?_
    refine zgLB ?_
    refine zqLB ?_
    refine zpLB ?_
    refine zn ?_
    refine W_cond_f (b := _) rfl (by exact hc101) ?_
    refine zk ?_
    refine zs ?_
    refine zs ?_
    refine zR ?_
    refine zLI ?_
    refine zLB ?_
    refine zLB ?_
    refine zgLI ?_
    refine zgLB ?_
    refine zpLB ?_
    refine zn ?_
    refine W_cond_t (b := _) rfl (by exact hc107) ?_
    refine zs ?_
    refine zR ?_
    refine zLI ?_
    refine zLB ?_
    refine zLB ?_
    refine zgLG [.int _ _, .int _ _] ?_
    refine zgLG [.int _ _, .int _ _] ?_
    refine zgLB ?_
    refine zpLB ?_
    refine zLB ?_
    refine zn ?_
    refine zt ?_
    refine ends (l := [.bool _]) (q := .bool _) (.inr rfl) rfl ⟨trivial, trivial⟩ rfl rfl ?_
    simp [hz]
end Go.AM
end
section
open Go Go.AM Go.Proofs
set_option maxRecDepth 10000
set_option linter.unusedVariables false
set_option linter.unusedSimpArgs false
namespace Go.AM
theorem term_same {S : Site} (hS : SiteOk S) {ch k : Int} (hch : 1 ≤ ch ∧ ch ≤ S.Out.C) (hk : 0 ≤ k ∧ k < S.Out.H * S.Out.W) : ∀ t ∈ tlF S ch k, ∀ u ∈ tlF S ch k, 0 ≤ t.At → t.At = u.At → t = u := by
  intro t ht u hu h0 he
  obtain ⟨i, hi, rfl⟩ := List.getElem_of_mem ht
  obtain ⟨j, hj, rfl⟩ := List.getElem_of_mem hu
  have hl := tlF_len hS ch k
  have gi := tlF_get hS hch k (i := i) (by omega)
  have gj := tlF_get hS hch k (i := j) (by omega)
  rw [List.getD_eq_getElem?_getD, List.getElem?_eq_getElem hi] at gi
  rw [List.getD_eq_getElem?_getD, List.getElem?_eq_getElem hj] at gj
  simp only [Option.getD_some] at gi gj
  have e : i = j := at_inj hS hch k hk (by omega) (by omega) (by rw [gi] at h0; exact h0) (by rw [gi, gj] at he; exact he)
  subst e; rfl
theorem val_ends {S : Site} (hS : SiteOk S) {ch k : Int} (hch : 1 ≤ ch ∧ ch ≤ S.Out.C) (hk : 0 ≤ k ∧ k < S.Out.H * S.Out.W) {s : Span} (hs : -128 ≤ s.Lo ∧ s.Lo ≤ s.Hi ∧ s.Hi ≤ 127) {M : Nat} (hM : (M : Int) = S.In.H * S.In.W * S.In.C) (hW : ∀ t ∈ tlF S ch k, -32768 ≤ t.W ∧ t.W ≤ 32767) :
    (∀ t ∈ tlF S ch k, w64 (t.W * vT (rowT (fun w => !decide (w > 0)) s.Lo s.Hi M (tlF S ch k)) S.Op.Pad t) = (endF S.Op.Pad s t).Lo) ∧ ∀ t ∈ tlF S ch k, w64 (t.W * vT (rowT (fun w => decide (w > 0)) s.Lo s.Hi M (tlF S ch k)) S.Op.Pad t) = (endF S.Op.Pad s t).Hi := by
  have hp := (pad_bd hS).1
  have both : ∀ (c : Int → Bool), ∀ t ∈ tlF S ch k, vT (rowT c s.Lo s.Hi M (tlF S ch k)) S.Op.Pad t = if t.At < 0 then S.Op.Pad else if c t.W = true then s.Hi else s.Lo := by
    intro c t ht
    unfold vT
    rcases tlF_at hS hch k t ht with h | ⟨h1, h2⟩
    · rw [if_neg (by omega), if_pos (by omega)]
    · rw [if_pos (by omega), if_neg (by omega), rowT_at (fun t ht u hu h0 he => by rw [term_same hS hch hk t ht u hu h0 he]) ht h1 (by omega)]
      split <;> exact w64_id (by omega)
  have m1 := fun t ht => mul_small (hW t ht) (show -128 ≤ s.Lo ∧ s.Lo ≤ 127 by omega)
  have m2 := fun t ht => mul_small (hW t ht) (show -128 ≤ s.Hi ∧ s.Hi ≤ 127 by omega)
  have m3 := fun t ht => mul_small (hW t ht) hp
  refine ⟨fun t ht => ?_, fun t ht => ?_⟩
  · rw [both _ t ht]
    have a1 := m1 t ht; have a2 := m2 t ht; have a3 := m3 t ht
    unfold endF tmS
    by_cases c : t.At < 0
    · rw [if_pos c, if_pos c]; split <;> (dsimp only; rw [Int.mul_comm S.Op.Pad]; exact w64_id (by omega))
    · rw [if_neg c, if_neg c]
      by_cases d : t.W < 0
      · rw [if_pos d, if_pos (by simp; omega)]; dsimp only; rw [Int.mul_comm s.Hi]; exact w64_id (by omega)
      · rw [if_neg d]
        by_cases e : t.W > 0
        · rw [if_neg (by simp [e])]; dsimp only; rw [Int.mul_comm s.Lo]; exact w64_id (by omega)
        · rw [show t.W = 0 by omega]; simp [w64, IntKind.wrap_i64]
  · rw [both _ t ht]
    have a1 := m1 t ht; have a2 := m2 t ht; have a3 := m3 t ht
    unfold endF tmS
    by_cases c : t.At < 0
    · rw [if_pos c, if_pos c]; split <;> (dsimp only; rw [Int.mul_comm S.Op.Pad]; exact w64_id (by omega))
    · rw [if_neg c, if_neg c]
      by_cases d : t.W < 0
      · rw [if_pos d, if_neg (by simp; omega)]; dsimp only; rw [Int.mul_comm s.Lo]; exact w64_id (by omega)
      · rw [if_neg d]
        by_cases e : t.W > 0
        · rw [if_pos (by simp [e])]; dsimp only; rw [Int.mul_comm s.Hi]; exact w64_id (by omega)
        · rw [show t.W = 0 by omega]; simp [w64, IntKind.wrap_i64]
end Go.AM
end
section
open Go Go.AM Go.Proofs
set_option maxRecDepth 10000
set_option linter.unusedVariables false
set_option linter.unusedSimpArgs false
namespace Go.AM
theorem boundReached_in {a : Ask13} (ha : a.Wf) (hz : askE a.M a.Op a.Ch a.S = 0) : Ok Try.prog 8 [.agg (ask13C a)] (.bool true) := by
  obtain ⟨z, hs, f0⟩ := askE_zero hz
  obtain ⟨_, fb, _⟩ := ofE_op z
  obtain ⟨hS, ⟨o1, o2⟩, hop, _⟩ := site_ok f0
  obtain ⟨hch, hat0⟩ := (ofBad_iff hS).1 fb
  obtain ⟨p1, p2, p3⟩ := out_pos hS
  have B := shapeB_iff.1 hS.inB
  have O := shapeB_iff.1 hS.outB
  have c0 : 0 ≤ (findS a.M a.Op).In.H * (findS a.M a.Op).In.W := Int.mul_nonneg (by omega) (by omega)
  have c1 : (findS a.M a.Op).In.H * (findS a.M a.Op).In.W ≤ 1024 * 1024 := Int.mul_le_mul B.1.2 B.2.1.2 (by omega) (by omega)
  have c2 : 0 ≤ (findS a.M a.Op).In.H * (findS a.M a.Op).In.W * (findS a.M a.Op).In.C := Int.mul_nonneg c0 (by omega)
  obtain ⟨M, hM⟩ : ∃ M : Nat, (M : Int) = (findS a.M a.Op).In.H * (findS a.M a.Op).In.W * (findS a.M a.Op).In.C := ⟨_, Int.toNat_of_nonneg c2⟩
  have hel : IntKind.i64.wrap (IntKind.i64.wrap ((findS a.M a.Op).In.H * (findS a.M a.Op).In.W) * (findS a.M a.Op).In.C) = (M : Int) := by
    show w64 (w64 _ * _) = _
    rw [show w64 ((findS a.M a.Op).In.H * (findS a.M a.Op).In.W) = _ from w64_id (by omega), hM]; exact w64_id (by omega)
  have hTo := bound_Total a.M ha.1 a.Op a.Ch a.S
  rw [hz] at hTo
  have hPo := terms_Positions a.M a.Op
  rw [f0, p1, show (findS a.M a.Op).Out.H * (findS a.M a.Op).Out.W = (posN a.M a.Op : Int) by unfold posN; omega] at hPo
  have hFd := ref10_Find a.M ha.1 a.Op 0
  rw [(rf0' a.M a.Op).1, (rf0' a.M a.Op).2, f0] at hFd
  have hk2 : ∀ k : Nat, k < posN a.M a.Op → 0 ≤ (k : Int) ∧ (k : Int) < (findS a.M a.Op).Out.H * (findS a.M a.Op).Out.W := fun k hk => ⟨by omega, by unfold posN at hk; omega⟩
  have hbk : ∀ k : Nat, k < posN a.M a.Op → ofBad (findS a.M a.Op) a.Ch k = false := fun k hk => (ofBad_iff hS).2 ⟨hch, hk2 k hk⟩
  have heq : ∀ k : Nat, k < posN a.M a.Op → biasF a.M a.Op a.Ch k = biasF a.M a.Op a.Ch 0 := fun k hk => by
    have h1 := hbk k hk
    have hb0 : ofBad (findS a.M a.Op) a.Ch 0 = false := fb
    simp [biasF, f0, h1, hb0]
  have hOf : ∀ k : Nat, k < posN a.M a.Op → Ok Try.prog 20 [.agg (modelC a.M), .int .i64 a.Op, .int .i64 a.Ch, .int .i64 (k : Int)] (.tup [.ro ((termsF a.M a.Op a.Ch k).map termC), .int .i64 (biasF a.M a.Op a.Ch 0), .int .i64 0]) := fun k hk => by
    have h := terms_Of a.M a.Op a.Ch k
    rw [heq k hk, show ofE a.M a.Op a.Ch k = 0 by unfold ofE; rw [if_pos f0, if_neg (by rw [hbk k hk]; simp)]] at h
    exact h
  have htot : ∀ r : List Int, r.length = M → Ok Try.prog 26 [.agg (modelC a.M), .int .i64 a.Op, .ro (r.map i8C)] (.tup [.ro ((sumsF a.M a.Op r).map intC), .int .i64 0]) := fun r hr => by
    have h := plain_Totals a.M a.Op r
    have e : totE a.M a.Op r = 0 := by unfold totE elemsI; rw [if_pos f0, if_pos (by rw [hr]; exact hM)]
    rw [totL, if_pos e, e] at h
    exact h
  have hcn : ((a.Ch - 1).toNat : Int) = a.Ch - 1 := by omega
  have hC : ((findS a.M a.Op).Out.C.toNat : Int) = (findS a.M a.Op).Out.C := by omega
  have hP3 : ∀ k : Nat, k < posN a.M a.Op → k * (findS a.M a.Op).Out.C.toNat + (a.Ch - 1).toNat < posN a.M a.Op * (findS a.M a.Op).Out.C.toNat := fun k hk => mul_lt_two' hk (by omega)
  have hPC : posN a.M a.Op * (findS a.M a.Op).Out.C.toNat = ((findS a.M a.Op).Out.H * (findS a.M a.Op).Out.W * (findS a.M a.Op).Out.C).toNat := by unfold posN; exact (Int.toNat_mul (show 0 ≤ (findS a.M a.Op).Out.H * (findS a.M a.Op).Out.W by omega) (show 0 ≤ (findS a.M a.Op).Out.C by omega)).symm
  have hIX : ∀ k : Nat, k < posN a.M a.Op → IntKind.i64.wrap (IntKind.i64.wrap (IntKind.i64.wrap ((k : Int) * (findS a.M a.Op).Out.C) + a.Ch) - 1) = ((k * (findS a.M a.Op).Out.C.toNat + (a.Ch - 1).toNat : Nat) : Int) := fun k hk => by
    have h1 := hP3 k hk
    have h2 : ((k * (findS a.M a.Op).Out.C.toNat : Nat) : Int) = (k : Int) * (findS a.M a.Op).Out.C := by rw [Int.natCast_mul, hC]
    have h3 : ((k * (findS a.M a.Op).Out.C.toNat : Nat) : Int) ≤ 16384 := by omega
    show w64 (w64 (w64 ((k : Int) * (findS a.M a.Op).Out.C) + a.Ch) - 1) = _
    rw [← h2, show w64 ((k * (findS a.M a.Op).Out.C.toNat : Nat) : Int) = _ from w64_id (by omega), show w64 (_ + a.Ch) = _ from w64_id (by omega), show w64 _ = _ from w64_id (by omega)]
    omega
  have hlen : ∀ r, (sumsF a.M a.Op r).length = posN a.M a.Op * (findS a.M a.Op).Out.C.toNat := fun r => by rw [hPC]; simp [sumsF]
  have hget : ∀ (r : List Int) (k : Nat), k < posN a.M a.Op → (sumsF a.M a.Op r).getD (k * (findS a.M a.Op).Out.C.toNat + (a.Ch - 1).toNat) default = sumT (biasF a.M a.Op a.Ch 0) (termsF a.M a.Op a.Ch k) r (findS a.M a.Op).Op.Pad := fun r k hk => by
    have h1 := hP3 k hk
    rw [hPC] at h1
    have e1 : (k * (findS a.M a.Op).Out.C.toNat + (a.Ch - 1).toNat) / (findS a.M a.Op).Out.C.toNat = k := by rw [Nat.mul_comm, Nat.mul_add_div (by omega), Nat.div_eq_of_lt (by omega), Nat.add_zero]
    have e2 : (k * (findS a.M a.Op).Out.C.toNat + (a.Ch - 1).toNat) % (findS a.M a.Op).Out.C.toNat = (a.Ch - 1).toNat := by rw [Nat.mul_comm, Nat.mul_add_mod, Nat.mod_eq_of_lt (by omega)]
    have e3 : (((a.Ch - 1).toNat : Nat) : Int) + 1 = a.Ch := by omega
    have : (sumsF a.M a.Op r).getD (k * (findS a.M a.Op).Out.C.toNat + (a.Ch - 1).toNat) default = oneSum a.M a.Op r k (a.Ch - 1).toNat := by
      unfold sumsF
      rw [List.getD_eq_getElem?_getD, List.getElem?_map, List.getElem?_range h1]
      simp only [Option.map_some, Option.getD_some, e1, e2]
    rw [this, oneSum, e3, heq k hk, ← hop]
  have hve := fun (k : Nat) (hk : k < posN a.M a.Op) => val_ends hS hch (hk2 k hk) hs hM (by have h := termsF_W ha.1 a.Op a.Ch k; rw [termsF_eq f0 (hbk k hk)] at h; exact h)
  have hrow : ∀ k : Nat, k < posN a.M a.Op → (rowsF a.M a.Op a.Ch a.S).getD k default = (termsF a.M a.Op a.Ch k).map (endF (findS a.M a.Op).Op.Pad a.S) := fun k hk => by simp [rowsF, rowF, List.getD_eq_getElem?_getD, hk]
  have hrl : (rowsF a.M a.Op a.Ch a.S).length = posN a.M a.Op := by simp [rowsF]
  have hp1 := posN_pos f0
  have hnb := rowsF_len hz
  rw [hrl] at hnb
  have hvalid : ∀ k : Nat, k < posN a.M a.Op → (sumS (biasF a.M a.Op a.Ch 0) ((rowsF a.M a.Op a.Ch a.S).getD k default)).Lo ≤ (sumS (biasF a.M a.Op a.Ch 0) ((rowsF a.M a.Op a.Ch a.S).getD k default)).Hi := fun k hk => by
    rw [hrow k hk]
    have hl := termsF_len a.M a.Op a.Ch k
    exact sum_valid _ (end_ok ha.1 hz _) 2147483648 _ (bb ha.1 a.Op a.Ch) (by omega) (Int.le_refl _)
  have hhas := fun (k : Nat) (hk : k < posN a.M a.Op) => tot_has (biasF a.M a.Op a.Ch 0) (l := rowsF a.M a.Op a.Ch a.S) (k := k) (by rw [hrl]; exact hk)
  obtain ⟨⟨k1, hk1, e1⟩, k2, hk2', e2⟩ := tot_ends (biasF a.M a.Op a.Ch 0) (l := rowsF a.M a.Op a.Ch a.S) (fun h => by rw [h] at hrl; simp at hrl; omega)
  rw [hrl] at hk1 hk2'
  have hts : totS a.M a.Op a.Ch a.S = hullS (totH (biasF a.M a.Op a.Ch 0) (rowsF a.M a.Op a.Ch a.S)) := by rw [totS, if_pos hz]
  refine boundReached_ok (a := a) ha (findS a.M a.Op) (totS a.M a.Op a.Ch a.S) (posN a.M a.Op) M (fun k => termsF a.M a.Op a.Ch k) (biasF a.M a.Op a.Ch 0)
    (fun k => (List.range k).any fun j => (sumS (biasF a.M a.Op a.Ch 0) ((rowsF a.M a.Op a.Ch a.S).getD j default)).Lo == (totS a.M a.Op a.Ch a.S).Lo)
    (fun k => (List.range k).any fun j => (sumS (biasF a.M a.Op a.Ch 0) ((rowsF a.M a.Op a.Ch a.S).getD j default)).Hi == (totS a.M a.Op a.Ch a.S).Hi)
    (fun k => (sumS (biasF a.M a.Op a.Ch 0) ((rowsF a.M a.Op a.Ch a.S).getD k default)).Lo) (fun k => (sumS (biasF a.M a.Op a.Ch 0) ((rowsF a.M a.Op a.Ch a.S).getD k default)).Hi)
    (fun k => sumsF a.M a.Op (rowT (fun w => !decide (w > 0)) a.S.Lo a.S.Hi M (termsF a.M a.Op a.Ch k))) (fun k => sumsF a.M a.Op (rowT (fun w => decide (w > 0)) a.S.Lo a.S.Hi M (termsF a.M a.Op a.Ch k)))
    hTo hPo hFd hOf hel (by omega) hs (fun k _ => htot _ (rowT_len _ _ _ _ _)) (fun k _ => htot _ (rowT_len _ _ _ _ _)) (fun k hk => ?_) (fun k hk => ?_) (fun k hk => ?_) (fun k hk => ?_) (fun k hk => ?_) rfl rfl (fun k _ => ?_) (fun k _ => ?_) ⟨?_, ?_⟩ hnb (fun k => termsF_len _ _ _ _)
  · rw [hIX k hk, hlen, hlen]; have := hP3 k hk; omega
  · rw [hIX k hk, Int.toNat_natCast, hget _ k hk, hrow k hk]
    refine sumT_lo _ _ _ ?_
    rw [termsF_eq f0 (hbk k hk)]; exact (hve k hk).1
  · rw [hIX k hk, Int.toNat_natCast, hget _ k hk, hrow k hk]
    refine sumT_hi _ _ _ ?_
    rw [termsF_eq f0 (hbk k hk)]; exact (hve k hk).2
  · have h1 := hhas k hk; have h2 := hvalid k hk
    rw [hts]; unfold hasF; rw [decide_eq_true_eq]
    exact ⟨h1.2.1, Int.le_trans h2 h1.2.2⟩
  · have h1 := hhas k hk; have h2 := hvalid k hk
    rw [hts]; unfold hasF; rw [decide_eq_true_eq]
    exact ⟨Int.le_trans h1.2.1 h2, h1.2.2⟩
  · rw [List.range_succ, List.any_append]; simp [Bool.cond_true_left]
  · rw [List.range_succ, List.any_append]; simp [Bool.cond_true_left]
  · exact List.any_eq_true.2 ⟨k1, List.mem_range.2 hk1, by rw [hts]; simp [hullS, e1]⟩
  · exact List.any_eq_true.2 ⟨k2, List.mem_range.2 hk2', by rw [hts]; simp [hullS, e2]⟩
theorem boundReached (a : Ask13) (ha : a.Wf) : Ok Try.prog 8 [.agg (ask13C a)] (.bool true) := by
  by_cases hz : askE a.M a.Op a.Ch a.S = 0
  · exact boundReached_in ha hz
  · have hTo := bound_Total a.M ha.1 a.Op a.Ch a.S
    rw [show totS a.M a.Op a.Ch a.S = ⟨0, 0⟩ by unfold totS; rw [if_neg hz]] at hTo
    have hPo := terms_Positions a.M a.Op
    have hc52 : (bif askE a.M a.Op a.Ch a.S != 0 then true else findE a.M a.Op != 0) = true := by simp [hz]
    --@@1
    skip
    refine fn_ok Tb_ok (fn := Try.f8) Try.func8 rfl rfl (e := [(0, _)]) rfl (by decide) rfl ?_
    refine zs ?_
    refine zR ?_
    refine zbx [.int _ _, .int _ _, .int _ _, .int _ _, .int _ _, _, .int _ _, .int _ _, .int _ _, .int _ _, .int _ _, .int _ _, .int _ _, _] 14 ?_
    refine zLB ?_
    refine zn ?_
    refine zs ?_
    refine zs ?_
    refine zR ?_
    refine zLc (law13_fixed) ?_
    refine zLB ?_
    refine zn ?_
    refine W_cond_f (b := _) rfl (by rfl) ?_
    refine zk ?_
    refine zs ?_
    refine zR ?_
    refine zLP ?_
    refine zLG [.int _ _, .int _ _, .int _ _, .int _ _, .int _ _, _, .int _ _] ?_
    refine zLP ?_
    refine zLI ?_
    refine zLP ?_
    refine zLI ?_
    refine zLP ?_
    refine zLG [.int _ _, .int _ _] ?_
    refine zLc (hTo) ?_
    refine zLT [_, _] ?_
    refine zLG [.int _ _, .int _ _] ?_
    refine zLI ?_
    refine zal [.int .i64 0, .int .i64 0] 2 ?_
    refine zst (.agg [.int _ _, .int _ _]) [_, _] [[_, _]] ?_
    refine zLI ?_
    refine zn ?_
    refine zs ?_
    refine zR ?_
    refine zLP ?_
    refine zLG [.int _ _, .int _ _, .int _ _, .int _ _, .int _ _, _, .int _ _] ?_
    refine zLP ?_
    refine zLI ?_
    refine zLc (hPo) ?_
    refine zLT [_, _] ?_
    refine zLI ?_
    refine zLI ?_
    refine zLI ?_
    refine zLI ?_
    refine zn ?_
    refine zs ?_
    refine zs ?_
    refine zR ?_
    refine zLI ?_
    refine zLB ?_
    refine zLB ?_
    refine zgLI ?_
    refine zgLB ?_
    refine zpLB ?_
    refine zn ?_
    refine W_cond_t (b := _) rfl (by exact hc52) ?_
    refine zs ?_
    refine zR ?_
    refine zLG [.int _ _, .int _ _] ?_
    refine zLG [.int _ _, .int _ _] ?_
    refine zLB ?_
    refine zLB ?_
    refine zn ?_
    refine zt ?_
    refine ends (l := [.bool _]) (q := .bool _) (.inr rfl) rfl ⟨trivial, trivial⟩ rfl rfl ?_
    rfl
end Go.AM
end
section
namespace Go.Proofs.Ytlomapfdjdhmfaa.boundReached
open Go.ChangeShapes Go.WideShapes Go.ChangeAt Go.RowKit
open Go.ChangeMaps (open_string shut_string)
set_option linter.unusedVariables false
theorem own : ownKnob Try.prog.godebug = none := by kernel_rfl
theorem laidOut : laidOutB Try.prog = true := by kernel_rfl
set_option maxRecDepth 100000 in
theorem lifted (os : Os) (started : os.Started) (H : Type) (enc : TypeId × Value → H) :
    ReturnsInHanded {} Try.checked os 8 .any (Rows.boundReachedSpec.pre6 enc Try.prog Try.f8 Rows.boundReachedRow.domain false) (Rows.boundReachedSpec.post enc Try.prog Try.f8 false true false false) := by
  refine returnsInHanded_of_change_sized (C := Try.checked) own started (by kernel_rfl) Try.func8
    (ChangeSpec.witness6 (enc := enc) (C := Try.checked) false ⟨#[], #[.agg #[.int .i64 0, .int .i64 0, .int .i64 0, .int .i64 0, .int .i64 0, .slice none 0 0, .int .i64 0, .int .i64 0, .int .i64 0, .int .i64 0, .int .i64 0, .int .i64 0, .int .i64 0, .slice none 0 0]], []⟩ 8 (by kernel_rfl) (by kernel_rfl) (by kernel_rfl) (by kernel_rfl)) ?_
  intro W base args ds gs before hval0 hW hcnd hsz0 _
  have hsz : (DataW.weightsEach Try.prog (Try.f8.params.toList ++ Rows.boundReachedSpec.plain.varTypes Try.prog) (ds ++ gs)).all (· ≤ reachBytes) = true := hsz0
  have hval : ∀ (j : Nat) t v, Try.f8.params[j]? = some t → args[j]? = some v → Value.okWide Try.prog W .any base t v := hval0
  have hW' := hW
  obtain ⟨p, q, hA0, hV, rfl, hfz, hnd⟩ := hW
  have hA : DataW.TrodAll enc Try.prog W 0 (fun _ => true) true Try.f8.params.toList args.toList ds p := hA0
  rw [Try.params8] at hA hval hsz
  obtain ⟨v0, vs0, d0, ds0, p0, q0, hargs, rfl, rfl, h0, r0⟩ := trodAll_cons hA
  obtain ⟨rfl, rfl, rfl⟩ := trodAll_nil r0
  obtain rfl : args = #[v0] := by cases args; simp_all
  obtain ⟨rfl, rfl⟩ := trodVars_none hV
  have k0 := h0
  have lt0 : ∀ x ∈ p0, x.block < W.heap.size := by obtain ⟨m, hm⟩ := k0; exact DataW.trod_lt m _ _ _ hm
  obtain ⟨y0, K0, w0⟩ := Go.AM.Opn.arg Go.AM.arg0 h0 (j := 0) (t := 31) hsz rfl rfl
  have R0 := Go.AM.arg_agg Try.underlying31 (hval 0 31 v0 rfl rfl) K0
  clear hA0 hval0 hsz0 hsz
  refine (Go.AM.Ok.law (Go.AM.boundReached y0 w0) (Go.AM.rel1 R0)).mono fun e W' ⟨he, bel⟩ => ?_
  subst he
  exact ⟨_, rfl, _, _, _, [], _, [], hW', trodAll_mk1 (shut_bool Try.underlying4 _), (trodAll_cons_mk (Below.trod laidOut (by kernel_rfl) (of_decide_eq_true (by kernel_rfl)) k0 bel lt0) trodAll_mk0), rfl, bel.frame _, fun h => by cases h⟩
theorem over : Rows.boundReachedRow.holds Try.pinned (OpenSpec.ofChange Rows.boundReachedSpec) :=
  OpenClaim.holds_of_wide 8 Try.f8 rfl rfl rfl rfl rfl rfl rfl ⟨rfl, rfl, rfl, rfl, rfl⟩ rfl rfl rfl rfl rfl (by kernel_rfl) Try.func8 (by kernel_rfl)
    (of_decide_eq_true (by kernel_rfl)) (by unfold Func.isWrapper; first | (rw [if_pos (by decide +kernel)]; kernel_rfl) | (rw [if_neg (by decide +kernel)]; exact ⟨rfl, rfl⟩))
    (fun os started H enc _ => lifted os started H enc)
theorem proved : Rows.BoundReachedSaid := over
end Go.Proofs.Ytlomapfdjdhmfaa.boundReached
namespace Go.Proofs.Ytlomapfdjdhmfaa
/-- The row, under a short name, for the claim. -/
theorem boundReached_holds : Rows.BoundReachedSaid := boundReached.proved
end Go.Proofs.Ytlomapfdjdhmfaa
end
