/- The law PlainSteps answers true, whatever its arguments: part 6 of 6 of its proof. -/
import Derived.Test.YtmjbfnnnejmmjaaRows
import Derived.WalkKit
import Derived.Test.YtmjbfnnnejmmjaaZPlainSteps4
section
open Go Go.AM Go.Proofs
set_option maxRecDepth 10000
set_option linter.unusedVariables false
set_option linter.unusedSimpArgs false
namespace Go.AM
theorem bif_sa {k e : Int} (h : k ≠ 4 → e = 0) : (bif k == 4 then (0 : Int) else e) = 0 := by
  by_cases c : k = 4
  · rw [c]; rfl
  · rw [h c]; cases (k == 4) <;> rfl
theorem map_getD {α : Type} [Inhabited α] {l : List α} (f : α → Int) {k : Nat} (h : k < l.length) : (l.map f).getD k default = f (l.getD k default) := by
  simp [List.getD_eq_getElem?_getD, h]
theorem plainSteps (q : Step11) (hq : q.Wf) : Ok Try.prog 4 [.agg (step11C q)] (.bool true) := by
  obtain ⟨m, x, op, pick⟩ := q
  obtain ⟨hm, hxl, _, _⟩ := hq
  dsimp only at hm hxl
  have hx : B8 x := fun v hv => I8.iff.1 (hxl.2 v hv)
  have hc35 : (!true) = false := rfl
  show Ok Try.prog 4 [.agg (modelC m ++ ([.ro (x.map i8C)] ++ [.int .i64 op, .int .i64 pick]))] (.bool true)
  --@@1
  skip
  refine fn_ok Tb_ok (fn := Try.f4) Try.func4 rfl rfl (e := [(0, _)]) rfl (by decide) rfl ?_
  refine zs ?_
  refine zR ?_
  refine zbx [.int _ _, .int _ _, .int _ _, .int _ _, .int _ _, _, .int _ _, _, .int _ _, .int _ _] 10 ?_
  refine zLB ?_
  refine zn ?_
  refine zs ?_
  refine W_drawF (fun e => []) 8 [[8, 9, 10, 11, 12]] Tb_mixed rfl (by decide) (by kernel_rfl) ?_
  refine zSP ?_
  refine zSG [.int _ _, .int _ _, .int _ _, .int _ _, .int _ _, _, .int _ _] ?_
  refine zSP ?_
  refine zSO ?_
  refine zSP ?_
  refine zSI ?_
  refine zSP ?_
  refine zSI ?_
  refine S_nil ?_
  refine TT_one ?_
  refine TT_alloc Tb_ok (OSub_forget _ _) rfl (z := [.int .i64 0, .int .i64 0, .int .i64 0, .int .i64 0, .int .i64 0, .nils, .int .i64 0]) (n := 7) rfl rfl rfl rfl rfl rfl (fun ht1 => ?_)
  refine TT_store Tb_ok ht1 rfl (v := .agg [.int _ _, .int _ _, .int _ _, .int _ _, .int _ _, _, .int _ _]) (cs := [_, _, _, _, _, _, _]) (es' := [[_, _, _, _, _, _, _]]) rfl rfl rfl rfl rfl rfl rfl rfl rfl rfl rfl ⟨trivial, trivial⟩ (fun ht2 => ?_)
  (refine TT_v Tb_ok ht2 rfl (v := .ro _) (av rfl ⟨trivial, trivial⟩) rfl (fun ht3 => ?_))
  refine TT_v Tb_ok ht3 rfl (v := .int _ _) (av rfl ⟨trivial, trivial⟩) rfl (fun ht4 => ?_)
  refine TT_v Tb_ok ht4 rfl (v := .int _ _) (av rfl ⟨trivial, trivial⟩) rfl (fun ht5 => ?_)
  refine TT_nil ?_
  try clear ht5
  try clear ht4
  try clear ht3
  try clear ht2
  try clear ht1
  refine zs ?_
  refine zs ?_
  refine zR ?_
  refine zLc (law11_fixed) ?_
  refine zLB ?_
  refine zn ?_
  refine W_cond_f (b := _) rfl (by exact hc35) ?_
  refine zk ?_
  refine zs ?_
  refine zR ?_
  refine zLG [.int _ _, .int _ _, .int _ _, .int _ _, .int _ _, _, .int _ _] ?_
  refine zLO ?_
  refine zLc (plain_Tensors m hm x hx) ?_
  refine zLT [_, _] ?_
  refine zLO ?_
  refine zLG [.int _ _, .int _ _, .int _ _] ?_
  refine zal [.int .i64 0, .int .i64 0, .int .i64 0] 3 ?_
  refine zLO ?_
  refine zst (.agg [.int _ _, .int _ _, .int _ _]) [_, _, _] [[_, _, _]] ?_
  refine zn ?_
  refine zs ?_
  refine zs ?_
  refine zR ?_
  refine zLP ?_
  refine zLI ?_
  refine zLB ?_
  refine zn ?_
  refine W_cond (b := _) rfl (fun h44 => ?_) (fun h44 => ?_)
  · have hz : ¬ (tensFt m x).Err = 0 := by simpa using h44
    refine zs ?_
    refine zR ?_
    refine zLO ?_
    refine zLI ?_
    refine zLB ?_
    refine zLB ?_
    refine zn ?_
    refine zt ?_
    refine ends (l := [.bool _]) (q := .bool _) (.inr rfl) rfl ⟨trivial, trivial⟩ rfl rfl ?_
    rw [tensL, if_neg hz]; rfl
  · have hz : (tensFt m x).Err = 0 := by simpa using h44
    have A := all_ok hx hz
    have hn1 := A.n
    have hal := A.len
    have wl : IntKind.i64.wrap (((m.Ops.map opC).length : Int) + 1) = (m.Ops.length : Int) + 1 := by rw [List.length_map]; exact w64_id (by omega)
    have hll : (((tensL m x).map rowI).length : Int) = (m.Ops.length : Int) + 1 := by rw [List.length_map, hal]; omega
    refine zk ?_
    refine zs ?_
    refine zs ?_
    refine zR ?_
    refine zLO ?_
    refine zLI ?_
    refine zLP ?_
    refine zLO ?_
    refine zLI ?_
    refine zLI ?_
    refine zLB ?_
    refine zLB ?_
    refine zgLI ?_
    refine zgLB ?_
    refine zpLB ?_
    refine zLB ?_
    refine zgLI ?_
    refine zgLP ?_
    refine zgLO ?_
    refine zgLI ?_
    refine zgLB ?_
    refine zpLB ?_
    refine zn ?_
    refine W_cond (b := _) rfl (fun h65 => ?_) (fun h65 => ?_)
    · refine zs ?_
      refine zR ?_
      refine zLO ?_
      refine zLI ?_
      refine zLP ?_
      refine zLO ?_
      refine zLI ?_
      refine zLI ?_
      refine zLB ?_
      refine zLB ?_
      refine zn ?_
      refine zt ?_
      refine ends (l := [.bool _]) (q := .bool _) (.inr rfl) rfl ⟨trivial, trivial⟩ rfl rfl ?_
      rw [hll, wl]; simp
    · have h12 : 1 ≤ op ∧ op ≤ m.Ops.length := by
        have h' : (bif (bif ((((tensL m x).map rowI).length : Int) != IntKind.i64.wrap (((m.Ops.map opC).length : Int) + 1)) then true else decide (op < 1)) then true else decide (op > ((m.Ops.map opC).length : Int))) = false := h65
        rw [List.length_map, List.length_map] at h'
        by_cases c1 : op < 1
        · rw [decide_eq_true c1] at h'; simp at h'
        · by_cases c2 : op > (m.Ops.length : Int)
          · rw [decide_eq_true c2] at h'; simp at h'
          · omega
      obtain ⟨i, hi⟩ : ∃ i : Nat, (i : Int) = op - 1 := ⟨(op - 1).toNat, by omega⟩
      have hw : IntKind.i64.wrap (op - 1) = (i : Int) := (w64_id (by omega)).trans hi.symm
      refine zk ?_
      refine zs ?_
      refine zR ?_
      refine zLP ?_
      refine zLO ?_
      refine zLI ?_
      refine zLI ?_
      simp only [hw]
      (refine L_v Tb_ok (v := _) (ave_index_ro rfl rfl rfl (fun _ => rfl) rfl (by first | omega | (rw [List.length_map]; omega)) (by first | omega | (rw [List.length_map]; omega)) trivial) rfl ?_)
      simp only [Int.toNat_natCast]
      refine zLG [.int _ _, .int _ _, .int _ _, .int _ _, .int _ _, .int _ _, .int _ _, .int _ _, .int _ _, .int _ _, .int _ _, .int _ _, _, _, .int _ _, .int _ _, .int _ _, .int _ _, .int _ _, .int _ _, .int _ _, .int _ _] ?_
      refine zal [.int .i64 0, .int .i64 0, .int .i64 0, .int .i64 0, .int .i64 0, .int .i64 0, .int .i64 0, .int .i64 0, .int .i64 0, .int .i64 0, .int .i64 0, .int .i64 0, .nils, .nils, .int .i64 0, .int .i64 0, .int .i64 0, .int .i64 0, .int .i64 0, .int .i64 0, .int .i64 0, .int .i64 0] 22 ?_
      refine zst (.agg [.int _ _, .int _ _, .int _ _, .int _ _, .int _ _, .int _ _, .int _ _, .int _ _, .int _ _, .int _ _, .int _ _, .int _ _, _, _, .int _ _, .int _ _, .int _ _, .int _ _, .int _ _, .int _ _, .int _ _, .int _ _]) [_, _, _, _, _, _, _, _, _, _, _, _, _, _, _, _, _, _, _, _, _, _] [[_, _, _, _, _, _, _, _, _, _, _, _, _, _, _, _, _, _, _, _, _, _]] ?_
      refine zn ?_
      refine zs ?_
      refine zs ?_
      refine zR ?_
      refine zLP ?_
      refine zLI ?_
      refine zLB ?_
      refine zn ?_
      refine W_cond (b := _) rfl (fun h81 => ?_) (fun h81 => ?_)
      · have k4 : ¬ (m.Ops.getD i default).Kind ≤ 4 := by have := of_decide_eq_true h81; omega
        refine zs ?_
        refine zR ?_
        refine zLB ?_
        refine zn ?_
        refine zt ?_
        refine ends (l := [.bool _]) (q := .bool _) (.inr rfl) rfl ⟨trivial, trivial⟩ rfl rfl ?_
        rfl
      · have k4 : (m.Ops.getD i default).Kind ≤ 4 := by have := of_decide_eq_false h81; omega
        obtain ⟨i', k, c, p, a, S⟩ := step_h hm hx hz (pick := pick) h12.1 h12.2 (by rw [← hi, Int.toNat_natCast]; exact k4)
        obtain rfl : i' = i := by have := S.eop; omega
        have eop := S.eop
        have hTo := plain_Totals m op a
        rw [S.tot.1, S.tot.2] at hTo
        have ea := S.ea
        have A0 := S.A0
        have A1 := S.A1
        have hLe := terms_Length m op
        rw [S.f0] at hLe
        have hCh := terms_Channels m op
        rw [S.f0] at hCh
        have heo : op.toNat = i' + 1 := by omega
        have hlen := S.len
        have hC := S.C
        have hk := S.ek
        have hOf := terms_Of m op (((k % c : Nat) : Int) + 1) (p : Int)
        rw [S.of] at hOf
        have hTl := termsF_len m op (((k % c : Nat) : Int) + 1) (p : Int)
        refine zk ?_
        refine zs ?_
        refine W_draw 13 Tb_mixed rfl (by decide) (by kernel_rfl) (by kernel_rfl) ?_
        refine zEG [.int _ _, .int _ _, .int _ _, .int _ _, .int _ _, _, .int _ _] ?_
        refine zEI ?_
        refine zEO ?_
        refine zEP ?_
        refine zEI ?_
        (refine E_v Tb_ok (v := _) (ave_index_ro rfl rfl rfl (fun _ => rfl) rfl (by first | omega | exact hm2 | exact hp | exact hnz | exact hC0 | exact A0 | exact A1 | (rw [List.length_map]; omega) | (rw [List.length_map]; exact A1) | (rw [heo, S.row, List.length_map]; omega)) (by first | omega | exact hm2 | exact hp | exact hnz | exact hC0 | exact A0 | exact A1 | (rw [List.length_map]; omega) | (rw [List.length_map]; exact A1) | (rw [heo, S.row, List.length_map]; omega)) trivial) rfl ?_)
        refine zEO ?_
        simp only [← ea]
        refine zEc (hTo) ?_
        refine zET [_, _] ?_
        refine zEO ?_
        refine zEI ?_
        refine zEO ?_
        refine zEI ?_
        refine LexE_nil ?_
        refine zn ?_
        refine zs ?_
        refine zR ?_
        refine zLG [.int _ _, .int _ _, .int _ _, .int _ _, .int _ _, _, .int _ _] ?_
        refine zLI ?_
        refine zLc (hLe) ?_
        refine zLT [_, _] ?_
        refine zLI ?_
        refine zLI ?_
        refine zLI ?_
        refine zLI ?_
        refine zn ?_
        refine zs ?_
        refine zR ?_
        refine zLG [.int _ _, .int _ _, .int _ _, .int _ _, .int _ _, _, .int _ _] ?_
        refine zLI ?_
        refine zLc (hCh) ?_
        refine zLT [_, _] ?_
        refine zLI ?_
        refine zLI ?_
        refine zLI ?_
        refine zLI ?_
        refine zn ?_
        refine zs ?_
        refine zs ?_
        refine zR ?_
        refine zLI ?_
        refine zLB ?_
        refine zLB ?_
        refine zgLI ?_
        refine zgLB ?_
        refine zpLB ?_
        refine zLB ?_
        refine zgLI ?_
        refine zgLB ?_
        refine zpLB ?_
        refine zLB ?_
        refine zgLO ?_
        refine zgLI ?_
        refine zgLO ?_
        refine zgLI ?_
        (refine L_g Tb_ok (v := _) rfl rfl ((fun hg => (ave_index_ro rfl rfl rfl (fun _ => rfl) rfl (by first | omega | exact hm2 | exact hp | exact hnz | exact hC0 | exact A0 | exact A1 | (rw [List.length_map]; omega) | (rw [List.length_map]; exact A1) | (rw [heo, S.row, List.length_map]; omega)) (by first | omega | exact hm2 | exact hp | exact hnz | exact hC0 | exact A0 | exact A1 | (rw [List.length_map]; omega) | (rw [List.length_map]; exact A1) | (rw [heo, S.row, List.length_map]; omega)) ⟨⟨(by first | exact hg | (simp_all; done) | (simp at hg ⊢; simp [hg])), True.intro⟩, ⟨⟨(by first | exact hg | (simp_all; done) | (simp at hg ⊢; simp [hg])), True.intro⟩, True.intro⟩⟩))) rfl rfl ?_)
        simp only [heo]
        have hc133 : (bif (bif (bif (bif (bif (0 : Int) != 0 then true else (0 : Int) != 0) then true else (0 : Int) != 0) then true else ((((sumsF m op a).map intC).length : Int) != ((((tensL m x).getD (i' + 1) default).map i8C).length : Int))) then true else ((((sumsF m op a).map intC).length : Int) == 0)) then true else decide ((findS m op).Out.C < 1)) = false := by
          rw [S.row, List.length_map, List.length_map, List.length_map, hC.1, decide_eq_false (by omega)]
          have : ¬ ((sumsF m op a).length : Int) = 0 := by omega
          simp
          exact fun e => this (by rw [e]; rfl)
        obtain ⟨hpk0, hnz⟩ := pick_eq pick (k := ((sumsF m op a).map intC).length) (by rw [List.length_map]; omega) (by rw [List.length_map]; omega)
        have hpk : IntKind.i64.wrap ((IntKind.u64.wrap pick).tmod (IntKind.u64.wrap (((sumsF m op a).map intC).length : Int))) = (k : Int) := by rw [hpk0, List.length_map, ← hk.1]
        clear hpk0
        have hkC : IntKind.i64.wrap (((k : Int)).tmod ((findS m op).Out.C) + 1) = ((k % c : Nat) : Int) + 1 := by
          rw [hC.1, Int.tmod_eq_emod_of_nonneg (by omega), show (k : Int) % (c : Int) = ((k % c : Nat) : Int) from rfl]
          have : k % c < c := Nat.mod_lt _ (by omega)
          exact w64_id (by omega)
        have hkD : IntKind.i64.wrap (((k : Int)).tdiv ((findS m op).Out.C)) = (p : Int) := by
          rw [hC.1, Int.tdiv_eq_ediv_of_nonneg (by omega), show (k : Int) / (c : Int) = (p : Int) by rw [S.ep]; rfl]
          have : p ≤ k := by rw [S.ep]; exact Nat.div_le_self _ _
          exact w64_id (by omega)
        have hC0 : (findS m op).Out.C ≠ 0 := by omega
        refine zgLO ?_
        refine zgLI ?_
        refine zgLB ?_
        refine zpLB ?_
        refine zLB ?_
        refine zgLO ?_
        refine zgLI ?_
        refine zgLB ?_
        refine zpLB ?_
        refine zLB ?_
        refine zgLI ?_
        refine zgLB ?_
        refine zpLB ?_
        refine zn ?_
        refine W_cond_f (b := _) rfl (by exact hc133) ?_
        refine zk ?_
        refine zs ?_
        refine zR ?_
        refine zLI ?_
        refine zLI ?_
        refine zLO ?_
        refine zLI ?_
        refine zLI ?_
        refine L_v Tb_ok (v := .int _ _) (av rfl ⟨trivial, (by omega)⟩) rfl ?_
        refine zLI ?_
        simp only [hpk]
        refine zLI ?_
        refine zn ?_
        refine zs ?_
        refine W_draw 17 Tb_mixed rfl (by decide) (by kernel_rfl) (by kernel_rfl) ?_
        refine zEG [.int _ _, .int _ _, .int _ _, .int _ _, .int _ _, _, .int _ _] ?_
        refine zEI ?_
        refine zEI ?_
        refine zEI ?_
        refine E_v Tb_ok (v := .int _ _) (av rfl ⟨trivial, (by omega)⟩) rfl ?_
        refine zEI ?_
        refine zEI ?_
        refine zEI ?_
        refine E_v Tb_ok (v := .int _ _) (av rfl ⟨trivial, (by omega)⟩) rfl ?_
        simp only [hkC, hkD]
        refine zEc (hOf) ?_
        refine zET [_, _, _] ?_
        refine zEO ?_
        refine zEI ?_
        refine zEI ?_
        refine zEO ?_
        refine zEI ?_
        refine zEI ?_
        refine LexE_nil ?_
        refine zn ?_
        refine zs ?_
        refine zs ?_
        refine zR ?_
        refine zLO ?_
        refine zLI ?_
        refine zLI ?_
        refine zn ?_
        refine W_block ?_
        refine W_forE ((termsF m op (((k % c : Nat) : Int) + 1) (p : Int)).length) [(5, .int _ _), (7, .ro _), (9, .ptr 3 0 0), (10, .ro _), (12, .int _ _), (16, .int _ _), (19, .int _ _), (155, .ro _), (156, .int _ _)] (fun (j : Nat) => [(157, .int .i64 (j : Int)), (18, .int .i64 (sumT (biasF m op (((k % c : Nat) : Int) + 1) (p : Int)) ((termsF m op (((k % c : Nat) : Int) + 1) (p : Int)).take j) a (m.Ops.getD i' default).Pad))]) [(3, some ⟨_, _, _, _⟩)] (fun (j : Nat) => []) [] (fun (j : Nat) => []) 4 (le_fit (sub_cat ⟨rfl, rfl, trivial⟩ ⟨rfl, rfl, rfl, rfl, rfl, rfl, rfl, rfl, rfl, trivial⟩) (subO_cat trivial ⟨.inr rfl, trivial⟩) (subK_cat trivial trivial) rfl rfl rfl (by rfl) rfl) ?_
        intro j hj
        refine W.of_le (s' := ⟨[(157, .int .i64 (j : Int)), (18, .int .i64 (sumT (biasF m op (((k % c : Nat) : Int) + 1) (p : Int)) ((termsF m op (((k % c : Nat) : Int) + 1) (p : Int)).take j) a (m.Ops.getD i' default).Pad)), (5, .int _ _), (7, .ro _), (9, .ptr 3 0 0), (10, .ro _), (12, .int _ _), (16, .int _ _), (19, .int _ _), (155, .ro _), (156, .int _ _)], [(3, some ⟨_, _, _, _⟩)], [], 4⟩) (le_fit ⟨rfl, rfl, rfl, rfl, rfl, rfl, rfl, rfl, rfl, rfl, rfl, trivial⟩ ⟨.inr rfl, trivial⟩ trivial rfl rfl rfl (by rfl) rfl) ?_
        refine zs ?_
        refine zR ?_
        refine zLB ?_
        refine zn ?_
        refine zs ?_
        refine W_cond (b := _) rfl (fun h158 => ?_) (fun h158 => ?_)
        · have hjt : j < (termsF m op (((k % c : Nat) : Int) + 1) (p : Int)).length := by (have := of_decide_eq_true h158; simp only [List.length_map, List.length_take, List.length_drop] at this; omega)
          have hm2 := S.at_ ((termsF m op (((k % c : Nat) : Int) + 1) (p : Int)).getD j default) (by rw [List.getD_eq_getElem?_getD, List.getElem?_eq_getElem hjt]; exact List.getElem_mem hjt)
          refine zk ?_
          refine zs ?_
          refine W_block ?_
          refine zs ?_
          refine zR ?_
          (refine L_v Tb_ok (v := _) (ave_index_ro rfl rfl rfl (fun _ => rfl) rfl (by first | omega | exact hm2 | exact hp | exact hnz | exact hC0 | exact A0 | exact A1 | (rw [List.length_map]; omega) | (rw [List.length_map]; exact A1) | (rw [heo, S.row, List.length_map]; omega)) (by first | omega | exact hm2 | exact hp | exact hnz | exact hC0 | exact A0 | exact A1 | (rw [List.length_map]; omega) | (rw [List.length_map]; exact A1) | (rw [heo, S.row, List.length_map]; omega)) trivial) rfl ?_)
          refine zLG [.int _ _, .int _ _] ?_
          refine zal [.int .i64 0, .int .i64 0] 2 ?_
          refine zst (.agg [.int _ _, .int _ _]) [_, _] [[_, _]] ?_
          refine zn ?_
          refine zs ?_
          refine zR ?_
          refine zLP ?_
          refine zLI ?_
          refine zLB ?_
          refine zn ?_
          refine W_cond (b := _) rfl (fun h163 => ?_) (fun h163 => ?_)
          · have hp : ¬ ((termsF m op (((k % c : Nat) : Int) + 1) (p : Int)).getD j default).At ≥ 0 := by have : ((termsF m op (((k % c : Nat) : Int) + 1) (p : Int)).getD j default).At < 0 := of_decide_eq_true h163; omega
            refine zR ?_
            refine zLI ?_
            refine zLP ?_
            refine zLI ?_
            refine zLP ?_
            refine zLI ?_
            refine zLI ?_
            refine zLI ?_
            refine zLI ?_
            refine zn ?_
            refine zR ?_
            refine zLI ?_
            refine zLI ?_
            refine zn ?_
            refine for_end hjt (le_fit (sub_cat ⟨congrArg _ (w_succ hjt (by omega)), congrArg (AV.int .i64) (by unfold sumT; rw [foldl_take' _ _ _ _ hjt, vT]; (rw [if_neg hp]; rfl)), trivial⟩ ⟨rfl, rfl, rfl, rfl, rfl, rfl, rfl, rfl, rfl, trivial⟩) (subO_cat trivial ⟨.inr rfl, trivial⟩) (subK_cat trivial trivial) rfl rfl rfl (by rfl) rfl)
          · have hp : ((termsF m op (((k % c : Nat) : Int) + 1) (p : Int)).getD j default).At ≥ 0 := by have : ¬ ((termsF m op (((k % c : Nat) : Int) + 1) (p : Int)).getD j default).At < 0 := of_decide_eq_false h163; omega
            have hc179 : decide (((termsF m op (((k % c : Nat) : Int) + 1) (p : Int)).getD j default).At < ((a.map i8C).length : Int)) = true := by rw [List.length_map]; exact decide_eq_true hm2
            refine zs ?_
            refine W_draw 9 Tb_mixed rfl (by decide) (by kernel_rfl) (by kernel_rfl) ?_
            refine zEP ?_
            refine zEI ?_
            refine zEO ?_
            refine zEP ?_
            refine zEI ?_
            (refine E_v Tb_ok (v := _) (ave_index_ro rfl rfl rfl (fun _ => rfl) rfl (by first | omega | exact hm2 | exact hp | exact hnz | exact hC0 | exact A0 | exact A1 | (rw [List.length_map]; omega) | (rw [List.length_map]; exact A1) | (rw [heo, S.row, List.length_map]; omega)) (by first | omega | exact hm2 | exact hp | exact hnz | exact hC0 | exact A0 | exact A1 | (rw [List.length_map]; omega) | (rw [List.length_map]; exact A1) | (rw [heo, S.row, List.length_map]; omega)) trivial) rfl ?_)
            refine zEO ?_
            simp only [← ea]
            refine zEI ?_
            refine zEB ?_
            refine LexE_nil ?_
            refine zn ?_
            refine W_cond_t (b := _) rfl (by exact hc179) ?_
            refine W_draw 16 Tb_mixed rfl (by decide) (by kernel_rfl) (by kernel_rfl) ?_
            refine zEI ?_
            refine zEP ?_
            refine zEI ?_
            refine zEO ?_
            refine zEP ?_
            refine zEI ?_
            (refine E_v Tb_ok (v := _) (ave_index_ro rfl rfl rfl (fun _ => rfl) rfl (by first | omega | exact hm2 | exact hp | exact hnz | exact hC0 | exact A0 | exact A1 | (rw [List.length_map]; omega) | (rw [List.length_map]; exact A1) | (rw [heo, S.row, List.length_map]; omega)) (by first | omega | exact hm2 | exact hp | exact hnz | exact hC0 | exact A0 | exact A1 | (rw [List.length_map]; omega) | (rw [List.length_map]; exact A1) | (rw [heo, S.row, List.length_map]; omega)) trivial) rfl ?_)
            refine zEO ?_
            simp only [← ea]
            refine zEP ?_
            refine zEI ?_
            (refine E_v Tb_ok (v := _) (ave_index_ro rfl rfl rfl (fun _ => rfl) rfl (by first | omega | exact hm2 | exact hp | exact hnz | exact hC0 | exact A0 | exact A1 | (rw [List.length_map]; omega) | (rw [List.length_map]; exact A1) | (rw [heo, S.row, List.length_map]; omega)) (by first | omega | exact hm2 | exact hp | exact hnz | exact hC0 | exact A0 | exact A1 | (rw [List.length_map]; omega) | (rw [List.length_map]; exact A1) | (rw [heo, S.row, List.length_map]; omega)) trivial) rfl ?_)
            refine zEI ?_
            refine zEI ?_
            refine zEI ?_
            refine zEI ?_
            refine zEI ?_
            refine LexE_nil ?_
            refine zn ?_
            refine zR ?_
            refine zLI ?_
            refine zLI ?_
            refine zn ?_
            refine for_end hjt (le_fit (sub_cat ⟨congrArg _ (w_succ hjt (by omega)), congrArg (AV.int .i64) (by unfold sumT; rw [foldl_take' _ _ _ _ hjt, vT]; (rw [if_pos hp]; rfl)), trivial⟩ ⟨rfl, rfl, rfl, rfl, rfl, rfl, rfl, rfl, rfl, trivial⟩) (subO_cat trivial ⟨.inr rfl, trivial⟩) (subK_cat trivial trivial) rfl rfl rfl (by rfl) rfl)
        · have hje : j = (termsF m op (((k % c : Nat) : Int) + 1) (p : Int)).length := by (have := of_decide_eq_false h158; simp only [List.length_map, List.length_take, List.length_drop] at this; omega)
          have hsm : sumT (biasF m op (((k % c : Nat) : Int) + 1) (p : Int)) ((termsF m op (((k % c : Nat) : Int) + 1) (p : Int)).take j) a (m.Ops.getD i' default).Pad = (sumsF m op a).getD k default := by rw [hje, List.take_length]; exact S.get.symm
          refine W_exit ?_
          repeat (first | refine pass_then ?_ | refine pass_for ?_)
          refine blockQ_hit ?_
          refine zs ?_
          refine zR ?_
          refine zLI ?_
          refine zLP ?_
          refine zLG [.int _ _, .int _ _] ?_
          simp only [hsm]
          refine zLc (fixq_Apply _ _ S.bd) ?_
          refine zLT [_, _] ?_
          refine zLI ?_
          refine zLI ?_
          refine zLI ?_
          refine zLI ?_
          refine zn ?_
          refine zs ?_
          refine zs ?_
          refine zR ?_
          refine zLP ?_
          refine zLI ?_
          refine zLB ?_
          refine zn ?_
          refine W_iftB (b := _) rfl [(5, .int _ _), (7, .ro _), (9, .ptr 3 0 0), (10, .ro _), (16, .int _ _), (18, .int _ _), (19, .int _ _)] (fun (z : Bool) => [(22, .int .i64 (bif z then rhI ((sumsF m op a).getD k default) (findS m op).Len else applyV ((sumsF m op a).getD k default) (m.Ops.getD i' default).SA)), (23, .int .i64 (bif z then 0 else applyE (m.Ops.getD i' default).SA))]) [(3, some ⟨_, _, _, _⟩)] (fun (z : Bool) => []) [] (fun (z : Bool) => []) 4 ⟨rfl, rfl, rfl, rfl, rfl, rfl, rfl, trivial⟩ ⟨.inr rfl, trivial⟩ trivial (fun h205 => ?_) (fun h205 => ?_) ?_
          · refine zR ?_
            refine zLI ?_
            refine zLI ?_
            refine L_call (hr := fixq_Mean _ _ (by have := S.bd; omega) (by have := S.L; omega)) rfl rfl trivial rfl rfl ?_
            refine zLT [_, _] ?_
            refine zLI ?_
            refine zLI ?_
            refine zLI ?_
            refine zLI ?_
            refine zn ?_
            exact ⟨trivial, (le_fit (sub_cat ⟨rfl, rfl, trivial⟩ ⟨rfl, rfl, rfl, rfl, rfl, rfl, rfl, trivial⟩) (subO_cat trivial ⟨.inr rfl, trivial⟩) (subK_cat trivial trivial) rfl rfl rfl (by rfl) rfl)⟩
          · refine zk ?_
            exact ⟨trivial, (le_fit (sub_cat ⟨rfl, rfl, trivial⟩ ⟨rfl, rfl, rfl, rfl, rfl, rfl, rfl, trivial⟩) (subO_cat trivial ⟨.inr rfl, trivial⟩) (subK_cat trivial trivial) rfl rfl rfl (by rfl) rfl)⟩
          refine W.of_le (s' := ⟨[(22, .int .i64 (bif _ then rhI ((sumsF m op a).getD k default) (findS m op).Len else applyV ((sumsF m op a).getD k default) (m.Ops.getD i' default).SA)), (23, .int .i64 (bif _ then 0 else applyE (m.Ops.getD i' default).SA)), (5, .int _ _), (7, .ro _), (9, .ptr 3 0 0), (10, .ro _), (16, .int _ _), (18, .int _ _), (19, .int _ _)], [(3, some ⟨_, _, _, _⟩)], [], 4⟩) (le_fit ⟨rfl, rfl, rfl, rfl, rfl, rfl, rfl, rfl, rfl, trivial⟩ ⟨.inr rfl, trivial⟩ trivial rfl rfl rfl (by rfl) rfl) ?_
          have hbb : (bif (m.Ops.getD i' default).Kind == 4 then rhI ((sumsF m op a).getD k default) (findS m op).Len else applyV ((sumsF m op a).getD k default) (m.Ops.getD i' default).SA) = _ := cond_beq' _ _ _ _
          simp only [hbb]
          have hbe : (bif (m.Ops.getD i' default).Kind == 4 then (0 : Int) else applyE (m.Ops.getD i' default).SA) = 0 := bif_sa S.sa
          simp only [hbe]
          refine zs ?_
          refine zR ?_
          refine zLI ?_
          refine zLP ?_
          refine zLI ?_
          refine zLP ?_
          refine zLI ?_
          refine zLP ?_
          refine zLI ?_
          refine zLc (fixq_Finish _ _ _ _ (redV_arg S.L.1 S.bd) S.ends.z S.ends.l) ?_
          refine zLT [_, _] ?_
          refine zLI ?_
          refine zLI ?_
          refine zLI ?_
          refine zLI ?_
          refine zn ?_
          refine zs ?_
          refine zR ?_
          refine zLI ?_
          refine zLB ?_
          refine zLB ?_
          refine zgLI ?_
          refine zgLB ?_
          refine zpLB ?_
          refine zLB ?_
          refine zgLI ?_
          refine zgLB ?_
          refine zpLB ?_
          refine zLB ?_
          refine zgLO ?_
          refine zgLI ?_
          (refine L_g Tb_ok (v := _) rfl rfl ((fun hg => (ave_index_ro rfl rfl rfl (fun _ => rfl) rfl (by first | omega | exact hm2 | exact hp | exact hnz | exact hC0 | exact A0 | exact A1 | (rw [List.length_map]; omega) | (rw [List.length_map]; exact A1) | (rw [heo, S.row, List.length_map]; omega)) (by first | omega | exact hm2 | exact hp | exact hnz | exact hC0 | exact A0 | exact A1 | (rw [List.length_map]; omega) | (rw [List.length_map]; exact A1) | (rw [heo, S.row, List.length_map]; omega)) ⟨⟨(by first | exact hg | (simp_all; done) | (simp at hg ⊢; simp [hg])), True.intro⟩, ⟨⟨(by first | exact hg | (simp_all; done) | (simp at hg ⊢; simp [hg])), True.intro⟩, True.intro⟩⟩))) rfl rfl ?_)
          refine zgLI ?_
          refine zgLI ?_
          refine zgLB ?_
          refine zpLB ?_
          refine zLB ?_
          refine zgLO ?_
          refine zgLI ?_
          (refine L_g Tb_ok (v := _) rfl rfl ((fun hg => (ave_index_ro rfl rfl rfl (fun _ => rfl) rfl (by first | omega | exact hm2 | exact hp | exact hnz | exact hC0 | exact A0 | exact A1 | (rw [List.length_map]; omega) | (rw [List.length_map]; exact A1) | (rw [heo, S.row, List.length_map]; omega)) (by first | omega | exact hm2 | exact hp | exact hnz | exact hC0 | exact A0 | exact A1 | (rw [List.length_map]; omega) | (rw [List.length_map]; exact A1) | (rw [heo, S.row, List.length_map]; omega)) ⟨⟨(by first | exact hg | (simp_all; done) | (simp at hg ⊢; simp [hg])), True.intro⟩, ⟨⟨(by first | exact hg | (simp_all; done) | (simp at hg ⊢; simp [hg])), True.intro⟩, True.intro⟩⟩))) rfl rfl ?_)
          refine zgLO ?_
          refine zgLI ?_
          (refine L_g Tb_ok (v := _) rfl rfl ((fun hg => (ave_index_ro rfl rfl rfl (fun _ => rfl) rfl (by first | omega | exact hm2 | exact hp | exact hnz | exact hC0 | exact A0 | exact A1 | (rw [List.length_map]; omega) | (rw [List.length_map]; exact A1) | (rw [heo, S.row, List.length_map]; omega)) (by first | omega | exact hm2 | exact hp | exact hnz | exact hC0 | exact A0 | exact A1 | (rw [List.length_map]; omega) | (rw [List.length_map]; exact A1) | (rw [heo, S.row, List.length_map]; omega)) ⟨⟨(by first | exact hg | (simp_all; done) | (simp at hg ⊢; simp [hg])), True.intro⟩, ⟨⟨(by first | exact hg | (simp_all; done) | (simp at hg ⊢; simp [hg])), True.intro⟩, True.intro⟩⟩))) rfl rfl ?_)
          refine zgLI ?_
          refine zgLI ?_
          refine zgLI ?_
          refine zgLB ?_
          refine zpLB ?_
          refine zLB ?_
          refine zn ?_
          refine zt ?_
          refine ends (l := [.bool _]) (q := .bool _) (.inr rfl) rfl ⟨trivial, trivial⟩ rfl rfl ?_
          have hrow : ((tensL m x).getD op.toNat default).getD ((k : Nat) : Int).toNat default = homeV (m.Ops.getD i' default) (if (m.Ops.getD i' default).Kind = 4 then rhI ((sumsF m op a).getD k default) (findS m op).Len else applyV ((sumsF m op a).getD k default) (m.Ops.getD i' default).SA) := by
            rw [heo, S.row, Int.toNat_natCast, map_getD _ hk.2]; rfl
          have hbd := homeV_bd S.ends (if (m.Ops.getD i' default).Kind = 4 then rhI ((sumsF m op a).getD k default) (findS m op).Len else applyV ((sumsF m op a).getD k default) (m.Ops.getD i' default).SA)
          rw [hrow, show IntKind.i64.wrap (homeV (m.Ops.getD i' default) _) = homeV (m.Ops.getD i' default) _ from w64_id (by omega), Int.toNat_natCast]
          simp [homeV]
end Go.AM
end
section
namespace Go.Proofs.Ytmjbfnnnejmmjaa.plainSteps
open Go.ChangeShapes Go.WideShapes Go.ChangeAt Go.RowKit
open Go.ChangeMaps (open_string shut_string)
set_option linter.unusedVariables false
theorem own : ownKnob Try.prog.godebug = none := by kernel_rfl
theorem laidOut : laidOutB Try.prog = true := by kernel_rfl
set_option maxRecDepth 100000 in
theorem lifted (os : Os) (started : os.Started) (H : Type) (enc : TypeId × Value → H) :
    ReturnsInHanded {} Try.checked os 4 .any (Rows.plainStepsSpec.pre6 enc Try.prog Try.f4 Rows.plainStepsRow.domain false) (Rows.plainStepsSpec.post enc Try.prog Try.f4 false true false false) := by
  refine returnsInHanded_of_change_sized (C := Try.checked) own started (by kernel_rfl) Try.func4
    (ChangeSpec.witness6 (enc := enc) (C := Try.checked) false ⟨#[], #[.agg #[.int .i64 0, .int .i64 0, .int .i64 0, .int .i64 0, .int .i64 0, .slice none 0 0, .int .i64 0, .slice none 0 0, .int .i64 0, .int .i64 0]], []⟩ 8 (by kernel_rfl) (by kernel_rfl) (by kernel_rfl) (by kernel_rfl)) ?_
  intro W base args ds gs before hval0 hW hcnd hsz0 _
  have hsz : (DataW.weightsEach Try.prog (Try.f4.params.toList ++ Rows.plainStepsSpec.plain.varTypes Try.prog) (ds ++ gs)).all (· ≤ reachBytes) = true := hsz0
  have hval : ∀ (j : Nat) t v, Try.f4.params[j]? = some t → args[j]? = some v → Value.okWide Try.prog W .any base t v := hval0
  have hW' := hW
  obtain ⟨p, q, hA0, hV, rfl, hfz, hnd⟩ := hW
  have hA : DataW.TrodAll enc Try.prog W 0 (fun _ => true) true Try.f4.params.toList args.toList ds p := hA0
  rw [Try.params4] at hA hval hsz
  obtain ⟨v0, vs0, d0, ds0, p0, q0, hargs, rfl, rfl, h0, r0⟩ := trodAll_cons hA
  obtain ⟨rfl, rfl, rfl⟩ := trodAll_nil r0
  obtain rfl : args = #[v0] := by cases args; simp_all
  obtain ⟨rfl, rfl⟩ := trodVars_none hV
  have k0 := h0
  have lt0 : ∀ x ∈ p0, x.block < W.heap.size := by obtain ⟨m, hm⟩ := k0; exact DataW.trod_lt m _ _ _ hm
  obtain ⟨y0, K0, w0⟩ := Go.AM.Opn.arg Go.AM.arg0 h0 (j := 0) (t := 48) hsz rfl rfl
  have R0 := Go.AM.arg_agg Try.underlying48 (hval 0 48 v0 rfl rfl) K0
  clear hA0 hval0 hsz0 hsz
  refine (Go.AM.Ok.law (Go.AM.plainSteps y0 w0) (Go.AM.rel1 R0)).mono fun e W' ⟨he, bel⟩ => ?_
  subst he
  exact ⟨_, rfl, _, _, _, [], _, [], hW', trodAll_mk1 (shut_bool Try.underlying4 _), (trodAll_cons_mk (Below.trod laidOut (by kernel_rfl) (of_decide_eq_true (by kernel_rfl)) k0 bel lt0) trodAll_mk0), rfl, bel.frame _, fun h => by cases h⟩
theorem over : Rows.plainStepsRow.holds Try.pinned (OpenSpec.ofChange Rows.plainStepsSpec) :=
  OpenClaim.holds_of_wide 4 Try.f4 rfl rfl rfl rfl rfl rfl rfl ⟨rfl, rfl, rfl, rfl, rfl⟩ rfl rfl rfl rfl rfl (by kernel_rfl) Try.func4 (by kernel_rfl)
    (of_decide_eq_true (by kernel_rfl)) (by unfold Func.isWrapper; first | (rw [if_pos (by decide +kernel)]; kernel_rfl) | (rw [if_neg (by decide +kernel)]; exact ⟨rfl, rfl⟩))
    (fun os started H enc _ => lifted os started H enc)
theorem proved : Rows.PlainStepsSaid := over
end Go.Proofs.Ytmjbfnnnejmmjaa.plainSteps
namespace Go.Proofs.Ytmjbfnnnejmmjaa
/-- The row, under a short name, for the claim. -/
theorem plainSteps_holds : Rows.PlainStepsSaid := plainSteps.proved
end Go.Proofs.Ytmjbfnnnejmmjaa
end
