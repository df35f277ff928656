/- The law PlainSteps answers true, whatever its arguments: part 5 of 6 of its proof (the machine on trees, the functions' contracts). -/

import Derived.Test.YtmjbfnnnejmmjaaZPlainSteps3
section
open Go Go.AM Go.Proofs
set_option maxRecDepth 10000
set_option linter.unusedVariables false
set_option linter.unusedSimpArgs false
namespace Go.AM
def rowI (l : List Int) : List AV := [.ro (l.map i8C)]
def inputB (m : Model) (x : List Int) : Bool := decide ((x.length : Int) = elemsN m.In) && !x.any (outP m)
def tensFt (m : Model) (x : List Int) : Fault := if (wholeF m).2.2.Err = 0 then if inputB m x = true then ⟨0, 0, 0⟩ else ⟨220, 0, 0⟩ else (wholeF m).2.2
def tensL (m : Model) (x : List Int) : List (List Int) := if (tensFt m x).Err = 0 then tensG m x m.Ops.length else []
theorem elems_in {s : Shape} (h : shapeB s = true) : w64 (w64 (s.H * s.W) * s.C) = elemsN s ∧ 0 ≤ elemsN s ∧ elemsN s ≤ 16384 := by
  have B := shapeB_iff.1 h
  have c0 : 0 ≤ s.H * s.W := Int.mul_nonneg (by omega) (by omega)
  have c1 : s.H * s.W ≤ 1024 * 1024 := Int.mul_le_mul B.1.2 B.2.1.2 (by omega) (by omega)
  have c2 : 0 ≤ s.H * s.W * s.C := Int.mul_nonneg c0 (by omega)
  unfold elemsN
  rw [show w64 (s.H * s.W) = _ from w64_id (by omega)]
  exact ⟨w64_id (by omega), c2, by omega⟩
/-- what is known at the head of a round -/
structure RoundH (m : Model) (x : List Int) (i : Nat) : Prop where
  A0 : 0 ≤ (m.Ops.getD i default).A
  A1 : (m.Ops.getD i default).A < ((tensG m x i).length : Int)
  A2 : (m.Ops.getD i default).A < ((wholeF m).1.length : Int)
  B0 : 0 ≤ (m.Ops.getD i default).B
  B1 : (m.Ops.getD i default).B < ((tensG m x i).length : Int)
  red : inB (m.Ops.getD i default).Kind 1 4 = true → Ok Try.prog 30 [.agg (modelC m), .int .i64 (IntKind.i64.wrap ((i : Int) + 1)), .ro (((tensG m x i).getD (m.Ops.getD i default).A.toNat default).map i8C)] (.ro ((makeF m i (tensG m x i)).map i8C))
  max : ¬ inB (m.Ops.getD i default).Kind 1 4 = true → (m.Ops.getD i default).Kind = 5 → Ok Try.prog 31 [.agg (opC (m.Ops.getD i default)), .agg (shapeC ((wholeF m).1.getD (m.Ops.getD i default).A.toNat default)), .ro (((tensG m x i).getD (m.Ops.getD i default).A.toNat default).map i8C)] (.ro ((makeF m i (tensG m x i)).map i8C))
  each : ¬ inB (m.Ops.getD i default).Kind 1 4 = true → (m.Ops.getD i default).Kind ≠ 5 → Ok Try.prog 32 [.agg (opC (m.Ops.getD i default)), .ro (((tensG m x i).getD (m.Ops.getD i default).A.toNat default).map i8C), .ro (((tensG m x i).getD (m.Ops.getD i default).B.toNat default).map i8C)] (.ro ((makeF m i (tensG m x i)).map i8C))
theorem round_h {m : Model} (hm : m.Wf) (h : (wholeF m).2.2.Err = 0) {x : List Int} (hx : B8 x) (hxl : (x.length : Int) = elemsN m.In) {i : Nat} (hi : i < m.Ops.length) : RoundH m x i := by
  have O := op_at h hi
  have hn := (whole_ok h).1
  have hwl := (whole_ok h).2.2.2.1
  have hA := O.A
  have hB := O.B
  have TA := tens_ok h hx hxl (m.Ops.getD i default).A.toNat (by omega)
  have TB := tens_ok h hx hxl (m.Ops.getD i default).B.toNat (by omega)
  have ga : (tensG m x i).getD (m.Ops.getD i default).A.toNat default = tens m x (m.Ops.getD i default).A.toNat := tensG_get m x (by omega)
  have gb : (tensG m x i).getD (m.Ops.getD i default).B.toNat default = tens m x (m.Ops.getD i default).B.toNat := tensG_get m x (by omega)
  have w1 : IntKind.i64.wrap ((i : Int) + 1) = (i : Int) + 1 := w64_id (by omega)
  have eA := elems_in O.inB
  refine ⟨hA.1, by rw [tensG_len]; omega, by rw [hwl]; omega, hB.1, by rw [tensG_len]; omega, fun k1 => ?_, fun k1 k5 => ?_, fun k1 k5 => ?_⟩
  · have h0 := red_find h hi k1
    obtain ⟨s1, s2, s3⟩ := red_site h0
    obtain ⟨hS, _⟩ := site_ok h0
    have hl := hS.len
    have hL := terms_Length m ((i : Int) + 1)
    rw [h0] at hL
    have hSs := plain_sums m ((i : Int) + 1) (tens m x (m.Ops.getD i default).A.toNat) h0 (by rw [s2]; exact TA.2)
    have e1 : ((i : Int) + 1 - 1).toNat = i := by omega
    have ew : IntKind.i64.wrap ((i : Int) + 1 - 1) = (i : Int) := (w64_id (by omega)).trans (by omega)
    have hsl : (sumsF m ((i : Int) + 1) (tens m x (m.Ops.getD i default).A.toNat)).length ≤ 16384 := by
      have Ob := elems_in O.outB
      rw [sumsF, List.length_map, List.length_range, s3]
      unfold elemsN at Ob; omega
    have := plain_reduce' m ((i : Int) + 1) (tens m x (m.Ops.getD i default).A.toNat) (sumsF m ((i : Int) + 1) (tens m x (m.Ops.getD i default).A.toNat)) (findS m ((i : Int) + 1)).Len (m.Ops.getD i default) hl hsl
      (fun t ht => by
        obtain ⟨q, _, rfl⟩ := List.mem_map.1 ht
        exact oneSum_bd hm TA.1 (by rw [e1]; exact O.pad) _ _) O.ends (by rw [ew, Int.toNat_natCast]) (by rw [ew]; omega) (by rw [ew]; omega) hL hSs
    rw [w1, ga, makeF, if_pos k1, ga, reduceF, e1]
    exact this
  · rw [ga, makeF, if_neg k1, if_pos k5, ga]
    exact plain_greatest _ _ _ _ (O.max k5) O.ends TA.1 TA.2
  · rw [ga, gb, makeF, if_neg k1, if_neg k5, ga, gb]
    refine plain_each _ _ _ (by have := TA.2; omega) TA.1 TB.1 O.ends (fun k6 => ?_)
    have a1 := TA.2
    have b1 := TB.2
    rw [O.add k6] at b1; omega
theorem plain_Tensors (m : Model) (hm : m.Wf) (x : List Int) (hx : B8 x) : Ok Try.prog 10 [.agg (modelC m), .ro (x.map i8C)] (.tup [.ro ((tensL m x).map rowI), .agg (faultC (tensFt m x))]) := by
  by_cases h : (wholeF m).2.2.Err = 0
  · have hc20 : ((wholeF m).2.2.Err != 0) = false := by simp [h]
    have hn := (whole_ok h).1
    have hIn : shapeB m.In = true := by have := shapes_ok h (i := 0) (by omega); rwa [(whole_ok h).2.2.2.2.1] at this
    obtain ⟨el, e0, e1⟩ := elems_in hIn
    have hlen : (!(((x.map i8C).length : Int) != w64 (w64 (m.In.H * m.In.W) * m.In.C))) = true → x.length ≤ 1048576 := fun q => by
      rw [el] at q
      have q2 : ((x.map i8C).length : Int) = elemsN m.In := by simpa using q
      rw [List.length_map] at q2; omega
    --@@1
    skip
    refine fn_ok Tb_ok (fn := Try.f10) Try.func10 rfl rfl (e := [(0, _), (1, _)]) rfl (by decide) rfl ?_
    refine zs ?_
    refine zR ?_
    refine zbx [.int _ _, .int _ _, .int _ _, .int _ _, .int _ _, _, .int _ _] 7 ?_
    refine zLN ?_
    refine zal [.int .i64 0, .int .i64 0, .int .i64 0] 3 ?_
    refine zn ?_
    refine zs ?_
    refine zR ?_
    refine zLG [.int _ _, .int _ _, .int _ _, .int _ _, .int _ _, _, .int _ _] ?_
    refine zLc (model_Shapes m) ?_
    refine zLT [_, _] ?_
    refine zLO ?_
    refine zLG [.int _ _, .int _ _, .int _ _] ?_
    refine zal [.int .i64 0, .int .i64 0, .int .i64 0] 3 ?_
    refine zLO ?_
    refine zst (.agg [.int _ _, .int _ _, .int _ _]) [_, _, _] [[_, _, _]] ?_
    refine zn ?_
    refine zs ?_
    refine zs ?_
    refine zR ?_
    refine zLP ?_
    refine zLI ?_
    refine zLB ?_
    refine zn ?_
    refine W_cond_f (b := _) rfl (by exact hc20) ?_
    refine zk ?_
    refine zs ?_
    refine zR ?_
    refine L_freezeP (t := 2) (c' := _) rfl rfl rfl rfl ?_
    refine zLF ?_
    refine zLF ?_
    refine zn ?_
    refine zs ?_
    refine zs ?_
    refine zR ?_
    refine zLO ?_
    refine zLI ?_
    refine zLQ ?_
    refine zLQ ?_
    refine zLI ?_
    refine zLQ ?_
    refine zLQ ?_
    refine zLI ?_
    refine zLI ?_
    refine zLQ ?_
    refine zLQ ?_
    refine zLI ?_
    refine zLI ?_
    refine zLB ?_
    refine zLB ?_
    refine zgLO ?_
    refine zgLF ?_
    refine L_callg (hr := fun hg => (slices_ContainsFunc x (hlen hg) 26 (modelC m) (outP m) (fun v hv => plain_beyond m v (hx v hv)))) rfl rfl rfl rfl rfl (fun hg => ⟨⟨(by exact hg), True.intro⟩, ⟨⟨(by exact hg), True.intro⟩, True.intro⟩⟩) rfl rfl ?_
    refine zpLB ?_
    refine zn ?_
    refine W_cond (b := _) rfl (fun h41 => ?_) (fun h41 => ?_)
    · have hib : inputB m x = false := by
        have q : (bif ((x.map i8C).length : Int) != w64 (w64 (m.In.H * m.In.W) * m.In.C) then true else x.any (outP m)) = true := h41
        rw [el, List.length_map] at q
        unfold inputB
        by_cases c : (x.length : Int) = elemsN m.In
        · simp [c] at q ⊢; simpa using q
        · simp [c]
      refine zs ?_
      refine zR ?_
      refine zLG [.int _ _, .int _ _, .int _ _] ?_
      refine zLN ?_
      refine zst (.agg [.int _ _, .int _ _, .int _ _]) [_, _, _] [[_, _, _]] ?_
      refine zn ?_
      refine zt ?_
      (refine ends (l := [.nils, .agg [.int _ _, .int _ _, .int _ _]]) (q := .tup [.ro _, .agg [.int _ _, .int _ _, .int _ _]]) (.inr rfl) rfl ⟨trivial, rfl, trivial⟩ rfl rfl ?_)
      simp [tensL, tensFt, h, hib, demC]; rfl
    · have hib : inputB m x = true ∧ (x.length : Int) = elemsN m.In := by
        have q : (bif ((x.map i8C).length : Int) != w64 (w64 (m.In.H * m.In.W) * m.In.C) then true else x.any (outP m)) = false := h41
        rw [el, List.length_map] at q
        unfold inputB
        by_cases c : (x.length : Int) = elemsN m.In
        · simp [c] at q ⊢; simpa using q
        · simp [c] at q
      refine zk ?_
      refine zs ?_
      refine zR ?_
      refine zLO ?_
      refine zLc (slices_Clone x (by omega)) ?_
      refine L_build Tb_ok (t := 49) (len := 1) (el := 27) (sz := 1) (es := [[_]]) (z := [.nils]) rfl rfl rfl rfl rfl (by decide) trivial rfl rfl rfl rfl rfl ?_
      refine zLW ?_
      refine zn ?_
      refine zs ?_
      refine zs ?_
      refine zR ?_
      refine zLQ ?_
      refine zLO ?_
      refine zLI ?_
      refine zLI ?_
      refine zn ?_
      refine W_block ?_
      refine W_tok (t := 9) (id := 3) (ty := 27) (sz := 1) (fz := 0) (es := [[.ro (x.map i8C)]]) (l := [[.ro (x.map i8C)]]) rfl rfl rfl rfl rfl rfl rfl ?_
      refine W_forE (m.Ops.length) [(2, .rptr _), (5, .ptr 1 0 0), (6, .ro _), (47, .ro _), (48, .int _ _)] (fun (i : Nat) => [(49, .int .i64 (i : Int)), (9, .app 4 ((tensG m x i).map rowI))]) [(1, some ⟨_, _, _, _⟩)] (fun (i : Nat) => []) [] (fun (i : Nat) => [(4, some (27, 1, (tensG m x i).length))]) 5 (le_fit (sub_cat ⟨rfl, rfl, trivial⟩ ⟨rfl, rfl, rfl, rfl, rfl, trivial⟩) (subO_cat trivial ⟨.inr rfl, trivial⟩) (subK_cat ⟨.inr rfl, trivial⟩ trivial) rfl rfl rfl (by rfl) rfl) ?_
      intro i hi
      refine W.of_le (s' := ⟨[(49, .int .i64 (i : Int)), (9, .app 4 ((tensG m x i).map rowI)), (2, .rptr _), (5, .ptr 1 0 0), (6, .ro _), (47, .ro _), (48, .int _ _)], [(1, some ⟨_, _, _, _⟩)], [(4, some (27, 1, (tensG m x i).length))], 5⟩) (le_fit ⟨rfl, rfl, rfl, rfl, rfl, rfl, rfl, trivial⟩ ⟨.inr rfl, trivial⟩ ⟨.inr rfl, trivial⟩ rfl rfl rfl (by rfl) rfl) ?_
      refine zs ?_
      refine zR ?_
      refine zLB ?_
      refine zn ?_
      refine zs ?_
      refine W_cond (b := _) rfl (fun h50 => ?_) (fun h50 => ?_)
      · have hit : i < m.Ops.length := by (have := of_decide_eq_true h50; simp only [List.length_map, List.length_take, List.length_drop] at this; omega)
        have H := round_h hm h hx hib.2 hit
        refine zk ?_
        refine zs ?_
        refine W_block ?_
        refine zs ?_
        refine zR ?_
        refine zLI ?_
        (refine L_v Tb_ok (v := _) (ave_index_ro rfl rfl rfl (fun _ => rfl) rfl (by first | omega | exact H.A0 | exact H.A1 | exact H.A2 | exact H.B0 | exact H.B1 | assumption | decide | (simp_all; done) | (simp_all; omega)) (by first | omega | exact H.A0 | exact H.A1 | exact H.A2 | exact H.B0 | exact H.B1 | assumption | decide | (simp_all; done) | (simp_all; omega)) trivial) rfl ?_)
        simp only [Int.toNat_natCast]
        refine zLG [.int _ _, .int _ _, .int _ _, .int _ _, .int _ _, .int _ _, .int _ _, .int _ _, .int _ _, .int _ _, .int _ _, .int _ _, _, _, .int _ _, .int _ _, .int _ _, .int _ _, .int _ _, .int _ _, .int _ _, .int _ _] ?_
        refine zal [.int .i64 0, .int .i64 0, .int .i64 0, .int .i64 0, .int .i64 0, .int .i64 0, .int .i64 0, .int .i64 0, .int .i64 0, .int .i64 0, .int .i64 0, .int .i64 0, .nils, .nils, .int .i64 0, .int .i64 0, .int .i64 0, .int .i64 0, .int .i64 0, .int .i64 0, .int .i64 0, .int .i64 0] 22 ?_
        refine zLI ?_
        refine zst (.agg [.int _ _, .int _ _, .int _ _, .int _ _, .int _ _, .int _ _, .int _ _, .int _ _, .int _ _, .int _ _, .int _ _, .int _ _, _, _, .int _ _, .int _ _, .int _ _, .int _ _, .int _ _, .int _ _, .int _ _, .int _ _]) [_, _, _, _, _, _, _, _, _, _, _, _, _, _, _, _, _, _, _, _, _, _] [[_, _, _, _, _, _, _, _, _, _, _, _, _, _, _, _, _, _, _, _, _, _]] ?_
        refine zn ?_
        refine zs ?_
        refine zR ?_
        refine zLN ?_
        refine zn ?_
        refine zs ?_
        refine W_block ?_
        refine zs ?_
        refine zR ?_
        refine zLP ?_
        refine zLI ?_
        refine zLc (model_Reduces _) ?_
        refine zLB ?_
        refine zn ?_
        refine W_cond (b := _) rfl (fun h66 => ?_) (fun h66 => ?_)
        · have k1 : inB (m.Ops.getD i default).Kind 1 4 = true := h66
          refine W_draw 10 Tb_mixed rfl (by decide) (by kernel_rfl) (by kernel_rfl) ?_
          refine zEG [.int _ _, .int _ _, .int _ _, .int _ _, .int _ _, _, .int _ _] ?_
          refine zEI ?_
          refine zEI ?_
          refine zEA ?_
          refine zEP ?_
          refine zEI ?_
          (refine E_v Tb_ok (v := _) (ave_index_app rfl rfl rfl (fun _ => rfl) rfl (by first | omega | exact H.A0 | exact H.A1 | exact H.A2 | exact H.B0 | exact H.B1 | assumption | decide | (simp_all; done) | (simp_all; omega)) (by first | omega | exact H.A0 | exact H.A1 | exact H.A2 | exact H.B0 | exact H.B1 | assumption | decide | (simp_all; done) | (simp_all; omega)) trivial) rfl ?_)
          refine zEO ?_
          refine zEc (H.red k1) ?_
          refine zEO ?_
          refine LexE_nil ?_
          refine zn ?_
          refine zR ?_
          refine zLA ?_
          refine zLO ?_
          refine L_build Tb_ok (t := 49) (len := 1) (el := 27) (sz := 1) (es := [[_]]) (z := [.nils]) rfl rfl rfl rfl rfl (by decide) trivial rfl rfl rfl rfl rfl ?_
          refine L_app1 Tb_ok (f := rowI) (v := makeF m i (tensG m x i)) (tok := 4) (el := 27) (sz := 1) rfl rfl rfl rfl rfl ⟨trivial, trivial⟩ (fun _ => ⟨rfl, rfl⟩) (by rw [show (Tb.at 27).bytes = 24 from rfl, tensG_len]; omega) rfl ?_
          refine zLA ?_
          refine zn ?_
          refine zR ?_
          refine zLI ?_
          refine zLI ?_
          refine zn ?_
          refine for_end hit (le_fit (sub_cat ⟨congrArg _ (w_succ hit (by omega)), rfl, trivial⟩ ⟨rfl, rfl, rfl, rfl, rfl, trivial⟩) (subO_cat trivial ⟨.inr rfl, trivial⟩) (subK_cat ⟨.inr rfl, trivial⟩ trivial) rfl rfl rfl (by rfl) rfl)
        · have k1 : ¬ inB (m.Ops.getD i default).Kind 1 4 = true := by rw [show inB (m.Ops.getD i default).Kind 1 4 = false from h66]; simp
          refine zs ?_
          refine zR ?_
          refine zLP ?_
          refine zLI ?_
          refine zLB ?_
          refine zLB ?_
          refine zn ?_
          refine W_cond (b := _) rfl (fun h79 => ?_) (fun h79 => ?_)
          · have k5 : (m.Ops.getD i default).Kind = 5 := by simpa using h79
            refine W_draw 13 Tb_mixed rfl (by decide) (by kernel_rfl) (by kernel_rfl) ?_
            refine zEG [.int _ _, .int _ _, .int _ _, .int _ _, .int _ _, .int _ _, .int _ _, .int _ _, .int _ _, .int _ _, .int _ _, .int _ _, _, _, .int _ _, .int _ _, .int _ _, .int _ _, .int _ _, .int _ _, .int _ _, .int _ _] ?_
            refine zEO ?_
            refine zEP ?_
            refine zEI ?_
            (refine E_v Tb_ok (v := _) (ave_index_ro rfl rfl rfl (fun _ => rfl) rfl (by first | omega | exact H.A0 | exact H.A1 | exact H.A2 | exact H.B0 | exact H.B1 | assumption | decide | (simp_all; done) | (simp_all; omega)) (by first | omega | exact H.A0 | exact H.A1 | exact H.A2 | exact H.B0 | exact H.B1 | assumption | decide | (simp_all; done) | (simp_all; omega)) trivial) rfl ?_)
            refine zEG [.int _ _, .int _ _, .int _ _] ?_
            refine zEA ?_
            refine zEP ?_
            refine zEI ?_
            (refine E_v Tb_ok (v := _) (ave_index_app rfl rfl rfl (fun _ => rfl) rfl (by first | omega | exact H.A0 | exact H.A1 | exact H.A2 | exact H.B0 | exact H.B1 | assumption | decide | (simp_all; done) | (simp_all; omega)) (by first | omega | exact H.A0 | exact H.A1 | exact H.A2 | exact H.B0 | exact H.B1 | assumption | decide | (simp_all; done) | (simp_all; omega)) trivial) rfl ?_)
            refine zEO ?_
            refine zEc (H.max k1 k5) ?_
            refine zEO ?_
            refine LexE_nil ?_
            refine zn ?_
            refine zR ?_
            refine zLA ?_
            refine zLO ?_
            refine L_build Tb_ok (t := 49) (len := 1) (el := 27) (sz := 1) (es := [[_]]) (z := [.nils]) rfl rfl rfl rfl rfl (by decide) trivial rfl rfl rfl rfl rfl ?_
            refine L_app1 Tb_ok (f := rowI) (v := makeF m i (tensG m x i)) (tok := 4) (el := 27) (sz := 1) rfl rfl rfl rfl rfl ⟨trivial, trivial⟩ (fun _ => ⟨rfl, rfl⟩) (by rw [show (Tb.at 27).bytes = 24 from rfl, tensG_len]; omega) rfl ?_
            refine zLA ?_
            refine zn ?_
            refine zR ?_
            refine zLI ?_
            refine zLI ?_
            refine zn ?_
            refine for_end hit (le_fit (sub_cat ⟨congrArg _ (w_succ hit (by omega)), rfl, trivial⟩ ⟨rfl, rfl, rfl, rfl, rfl, trivial⟩) (subO_cat trivial ⟨.inr rfl, trivial⟩) (subK_cat ⟨.inr rfl, trivial⟩ trivial) rfl rfl rfl (by rfl) rfl)
          · have k5 : (m.Ops.getD i default).Kind ≠ 5 := by simpa using h79
            refine W_draw 13 Tb_mixed rfl (by decide) (by kernel_rfl) (by kernel_rfl) ?_
            refine zEG [.int _ _, .int _ _, .int _ _, .int _ _, .int _ _, .int _ _, .int _ _, .int _ _, .int _ _, .int _ _, .int _ _, .int _ _, _, _, .int _ _, .int _ _, .int _ _, .int _ _, .int _ _, .int _ _, .int _ _, .int _ _] ?_
            refine zEA ?_
            refine zEP ?_
            refine zEI ?_
            (refine E_v Tb_ok (v := _) (ave_index_app rfl rfl rfl (fun _ => rfl) rfl (by first | omega | exact H.A0 | exact H.A1 | exact H.A2 | exact H.B0 | exact H.B1 | assumption | decide | (simp_all; done) | (simp_all; omega)) (by first | omega | exact H.A0 | exact H.A1 | exact H.A2 | exact H.B0 | exact H.B1 | assumption | decide | (simp_all; done) | (simp_all; omega)) trivial) rfl ?_)
            refine zEO ?_
            refine zEA ?_
            refine zEP ?_
            refine zEI ?_
            (refine E_v Tb_ok (v := _) (ave_index_app rfl rfl rfl (fun _ => rfl) rfl (by first | omega | exact H.A0 | exact H.A1 | exact H.A2 | exact H.B0 | exact H.B1 | assumption | decide | (simp_all; done) | (simp_all; omega)) (by first | omega | exact H.A0 | exact H.A1 | exact H.A2 | exact H.B0 | exact H.B1 | assumption | decide | (simp_all; done) | (simp_all; omega)) trivial) rfl ?_)
            refine zEO ?_
            refine zEc (H.each k1 k5) ?_
            refine zEO ?_
            refine LexE_nil ?_
            refine zn ?_
            refine zR ?_
            refine zLA ?_
            refine zLO ?_
            refine L_build Tb_ok (t := 49) (len := 1) (el := 27) (sz := 1) (es := [[_]]) (z := [.nils]) rfl rfl rfl rfl rfl (by decide) trivial rfl rfl rfl rfl rfl ?_
            refine L_app1 Tb_ok (f := rowI) (v := makeF m i (tensG m x i)) (tok := 4) (el := 27) (sz := 1) rfl rfl rfl rfl rfl ⟨trivial, trivial⟩ (fun _ => ⟨rfl, rfl⟩) (by rw [show (Tb.at 27).bytes = 24 from rfl, tensG_len]; omega) rfl ?_
            refine zLA ?_
            refine zn ?_
            refine zR ?_
            refine zLI ?_
            refine zLI ?_
            refine zn ?_
            refine for_end hit (le_fit (sub_cat ⟨congrArg _ (w_succ hit (by omega)), rfl, trivial⟩ ⟨rfl, rfl, rfl, rfl, rfl, trivial⟩) (subO_cat trivial ⟨.inr rfl, trivial⟩) (subK_cat ⟨.inr rfl, trivial⟩ trivial) rfl rfl rfl (by rfl) rfl)
      · have hie : i = m.Ops.length := by (have := of_decide_eq_false h50; simp only [List.length_map, List.length_take, List.length_drop] at this; omega)
        refine W_exit ?_
        repeat (first | refine pass_then ?_ | refine pass_for ?_)
        refine blockQ_hit ?_
        refine zs ?_
        refine zR ?_
        refine zLA ?_
        refine zLG [.int _ _, .int _ _, .int _ _] ?_
        refine zLA ?_
        refine zst (.agg [.int _ _, .int _ _, .int _ _]) [_, _, _] [[_, _, _]] ?_
        refine zn ?_
        refine zt ?_
        (refine ends (l := [.app _ _, .agg [.int _ _, .int _ _, .int _ _]]) (q := .tup [.ro _, .agg [.int _ _, .int _ _, .int _ _]]) (.inr rfl) rfl ⟨trivial, rfl, trivial⟩ rfl rfl ?_)
        simp [tensL, tensFt, h, hib, hie]; rfl
  · have hc20 : ((wholeF m).2.2.Err != 0) = true := by simp [h]
    --@@2
    skip
    refine fn_ok Tb_ok (fn := Try.f10) Try.func10 rfl rfl (e := [(0, _), (1, _)]) rfl (by decide) rfl ?_
    refine zs ?_
    refine zR ?_
    refine zbx [.int _ _, .int _ _, .int _ _, .int _ _, .int _ _, _, .int _ _] 7 ?_
    refine zLN ?_
    refine zal [.int .i64 0, .int .i64 0, .int .i64 0] 3 ?_
    refine zn ?_
    refine zs ?_
    refine zR ?_
    refine zLG [.int _ _, .int _ _, .int _ _, .int _ _, .int _ _, _, .int _ _] ?_
    refine zLc (model_Shapes m) ?_
    refine zLT [_, _] ?_
    refine zLO ?_
    refine zLG [.int _ _, .int _ _, .int _ _] ?_
    refine zal [.int .i64 0, .int .i64 0, .int .i64 0] 3 ?_
    refine zLO ?_
    refine zst (.agg [.int _ _, .int _ _, .int _ _]) [_, _, _] [[_, _, _]] ?_
    refine zn ?_
    refine zs ?_
    refine zs ?_
    refine zR ?_
    refine zLP ?_
    refine zLI ?_
    refine zLB ?_
    refine zn ?_
    refine W_cond_t (b := _) rfl (by exact hc20) ?_
    refine zs ?_
    refine W_draw 2 Tb_mixed rfl (by decide) (by kernel_rfl) (by kernel_rfl) ?_
    refine zEG [.int _ _, .int _ _, .int _ _] ?_
    refine zEN ?_
    refine LexE_nil ?_
    refine zst (.agg [.int _ _, .int _ _, .int _ _]) [_, _, _] [[_, _, _]] ?_
    refine zn ?_
    refine zt ?_
    (refine ends (l := [.nils, .agg [.int _ _, .int _ _, .int _ _]]) (q := .tup [.ro _, .agg [.int _ _, .int _ _, .int _ _]]) (.inr rfl) rfl ⟨trivial, rfl, trivial⟩ rfl rfl ?_)
    simp [tensL, tensFt, h, demC]; rfl
end Go.AM
end
section
open Go Go.AM Go.Proofs
set_option maxRecDepth 10000
set_option linter.unusedVariables false
set_option linter.unusedSimpArgs false
namespace Go.AM
/-- how often a window of k fits, by steps -/
def cntN (n k step : Int) : Nat := if n < k then 0 else ((n - k) / step).toNat + 1
theorem cnt_lt {n k step : Int} {j : Nat} (hs : 1 ≤ step) : ((j : Int) * step + k ≤ n) ↔ j < cntN n k step := by
  unfold cntN
  by_cases h : n < k
  · rw [if_pos h]
    have : 0 ≤ (j : Int) * step := Int.mul_nonneg (by omega) (by omega)
    omega
  · rw [if_neg h]
    have h0 : 0 ≤ (n - k) / step := Int.ediv_nonneg (by omega) (by omega)
    have key : (j : Int) ≤ (n - k) / step ↔ (j : Int) * step ≤ n - k := Int.le_ediv_iff_mul_le (by omega)
    omega
theorem cnt_le {n k step : Int} (hs : 1 ≤ step) (hk : 0 ≤ k) (hn : n ≤ 100000) : cntN n k step ≤ 100001 := by
  unfold cntN
  split
  · omega
  · have : (n - k) / step ≤ n - k := by
      rcases Int.lt_or_le (n - k) 0 with h | h
      · omega
      · exact Int.ediv_le_self step h
    omega
theorem ref06_count (n k step : Int) (hk : 0 ≤ k ∧ k ≤ 32) (hs : 1 ≤ step ∧ step ≤ 32) (hn : 0 ≤ n ∧ n ≤ 100000) : Ok Try.prog 89 [.int .i64 n, .int .i64 k, .int .i64 step] (.int .i64 (cntN n k step : Int)) := by
  have hN := cnt_le (n := n) (k := k) (step := step) hs.1 hk.1 hn.2
  refine fn_ok Tb_ok (fn := Try.f89) Try.func89 rfl rfl (e := [(0, _), (1, _), (2, _)]) rfl (by decide) rfl ?_
  refine zs ?_
  refine zR ?_
  refine zLI ?_
  refine zn ?_
  refine zs ?_
  refine zR ?_
  refine zLI ?_
  refine zn ?_
  refine zs ?_
  refine zs ?_
  refine zR ?_
  refine zLI ?_
  refine zn ?_
  refine W_block ?_
  refine W_for (cntN n k step) (fun j => ⟨[(0, .int .i64 n), (1, .int .i64 k), (2, .int .i64 step), (7, .int .i64 (j : Int)), (8, .int .i64 ((j : Int) * step))], [], [], 0⟩) (le_fit ⟨rfl, rfl, rfl, rfl, congrArg (AV.int .i64) (show (0 : Int) = ((0 : Nat) : Int) * step by simp), trivial⟩ trivial trivial rfl rfl rfl rfl rfl) ?_
  intro j hj
  have b0 : 0 ≤ (j : Int) * step := Int.mul_nonneg (by omega) (by omega)
  have b1 : (j : Int) * step ≤ 100001 * 32 := Int.mul_le_mul (by omega) hs.2 (by omega) (by omega)
  have w1 : IntKind.i64.wrap ((j : Int) * step + k) = (j : Int) * step + k := w64_id (by omega)
  have w2 : IntKind.i64.wrap ((j : Int) * step + step) = ((j + 1 : Nat) : Int) * step := by rw [w64_id (by omega)]; rw [Int.natCast_add, Int.add_mul]; omega
  refine zs ?_
  refine zs ?_
  refine zR ?_
  refine zLI ?_
  refine zLI ?_
  refine zLI ?_
  refine zLI ?_
  refine zLB ?_
  refine zn ?_
  refine W_cond (b := _) rfl (fun h13 => ?_) (fun h13 => ?_)
  · have hlt : j < cntN n k step := by rw [w1] at h13; exact (cnt_lt hs.1).1 (of_decide_eq_true h13)
    refine zk ?_
    refine zs ?_
    refine W_block ?_
    refine zR ?_
    refine zLI ?_
    refine zLI ?_
    refine zLI ?_
    refine zn ?_
    refine zR ?_
    refine zLI ?_
    refine zLI ?_
    refine zLI ?_
    refine zLI ?_
    refine zn ?_
    refine for_end hlt (le_fit ⟨rfl, rfl, rfl, congrArg _ (w_succ hlt (by omega)), congrArg (AV.int .i64) w2, trivial⟩ trivial trivial rfl rfl rfl rfl rfl)
  · have hje : j = cntN n k step := by rw [w1] at h13; have := mt (cnt_lt hs.1).2 (of_decide_eq_false h13); omega
    refine W_exit ?_
    repeat (first | refine pass_then ?_ | refine pass_for ?_)
    refine blockQ_hit ?_
    refine zs ?_
    refine zR ?_
    refine zLI ?_
    refine zLI ?_
    refine zn ?_
    refine zt ?_
    refine ends (l := [.int _ _]) (q := .int _ _) (.inr rfl) rfl ⟨trivial, trivial⟩ rfl rfl ?_
    rw [hje]
theorem cnt_out {n k step : Int} (hs : 1 ≤ step) (hk : 0 ≤ k) (hn : n ≤ 100000) : (cntN n k step : Int) = if n - k < 0 then 0 else w64 (w64 ((n - k).tdiv step) + 1) := by
  unfold cntN
  by_cases h : n < k
  · rw [if_pos h, if_pos (by omega)]; rfl
  · rw [if_neg h, if_neg (by omega), Int.tdiv_eq_ediv_of_nonneg (by omega)]
    have h0 : 0 ≤ (n - k) / step := Int.ediv_nonneg (by omega) (by omega)
    have h1 : (n - k) / step ≤ n - k := Int.ediv_le_self step (by omega)
    rw [show w64 ((n - k) / step) = (n - k) / step from w64_id (by omega), show w64 _ = _ from w64_id (by omega)]
    omega
theorem ref06_Out (s : Shape) (w : Window) : Ok Try.prog 86 [.agg (shapeC s), .agg (windowC w)] (.tup [.int .i64 (outH s w), .int .i64 (outW s w), .int .i64 (outE s w)]) := by
  cases hs : shapeB s with
  | false =>
    have hc11 : (!shapeB s) = true := by simp [hs]
    --@@1
    skip
    refine fn_ok Tb_ok (fn := Try.f86) Try.func86 rfl rfl (e := [(0, _), (1, _)]) rfl (by decide) rfl ?_
    refine zs ?_
    refine zR ?_
    refine zbx [.int _ _, .int _ _, .int _ _] 3 ?_
    refine zbx [.int _ _, .int _ _, .int _ _, .int _ _, .int _ _, .int _ _, .int _ _, .int _ _] 8 ?_
    refine zLI ?_
    refine zLI ?_
    refine zLI ?_
    refine zn ?_
    refine zs ?_
    refine zs ?_
    refine zR ?_
    refine zLG [.int _ _, .int _ _, .int _ _] ?_
    refine zLc (ref05_Valid s) ?_
    refine zLB ?_
    refine zn ?_
    refine W_cond_t (b := _) rfl (by exact hc11) ?_
    refine zs ?_
    refine zR ?_
    refine zLI ?_
    refine zLI ?_
    refine zLI ?_
    refine zn ?_
    refine zt ?_
    refine ends (l := [.int _ _, .int _ _, .int _ _]) (q := .tup [.int _ _, .int _ _, .int _ _]) (.inr rfl) rfl ⟨trivial, trivial, trivial, trivial⟩ rfl rfl ?_
    simp [outH, outW, outE, hs]
  | true =>
    have hc11 : (!shapeB s) = false := by simp [hs]
    cases hw : windowB w with
    | false =>
      have hc14 : (!windowB w) = true := by simp [hw]
      --@@2
      skip
      refine fn_ok Tb_ok (fn := Try.f86) Try.func86 rfl rfl (e := [(0, _), (1, _)]) rfl (by decide) rfl ?_
      refine zs ?_
      refine zR ?_
      refine zbx [.int _ _, .int _ _, .int _ _] 3 ?_
      refine zbx [.int _ _, .int _ _, .int _ _, .int _ _, .int _ _, .int _ _, .int _ _, .int _ _] 8 ?_
      refine zLI ?_
      refine zLI ?_
      refine zLI ?_
      refine zn ?_
      refine zs ?_
      refine zs ?_
      refine zR ?_
      refine zLG [.int _ _, .int _ _, .int _ _] ?_
      refine zLc (ref05_Valid s) ?_
      refine zLB ?_
      refine zn ?_
      refine W_cond_f (b := _) rfl (by exact hc11) ?_
      refine zk ?_
      refine zs ?_
      refine zs ?_
      refine zR ?_
      refine zLG [.int _ _, .int _ _, .int _ _, .int _ _, .int _ _, .int _ _, .int _ _, .int _ _] ?_
      refine zLc (ref06_Valid w) ?_
      refine zLB ?_
      refine zn ?_
      refine W_cond_t (b := _) rfl (by exact hc14) ?_
      refine zs ?_
      refine zR ?_
      refine zLI ?_
      refine zLI ?_
      refine zLI ?_
      refine zn ?_
      refine zt ?_
      refine ends (l := [.int _ _, .int _ _, .int _ _]) (q := .tup [.int _ _, .int _ _, .int _ _]) (.inr rfl) rfl ⟨trivial, trivial, trivial, trivial⟩ rfl rfl ?_
      simp [outH, outW, outE, hs, hw]
    | true =>
      have hc14 : (!windowB w) = false := by simp [hw]
      have B := shapeB_iff.1 hs
      have W := windowB_iff hw
      have e1 : w64 (w64 (s.H + w.Top) + w.Bottom) = s.H + w.Top + w.Bottom := by rw [show w64 (s.H + w.Top) = _ from w64_id (by omega)]; exact w64_id (by omega)
      have e2 : w64 (w64 (s.W + w.Left) + w.Right) = s.W + w.Left + w.Right := by rw [show w64 (s.W + w.Left) = _ from w64_id (by omega)]; exact w64_id (by omega)
      have f1 : spanH s w = s.H + w.Top + w.Bottom - w.KH := by unfold spanH; rw [e1]; exact w64_id (by omega)
      have f2 : spanW s w = s.W + w.Left + w.Right - w.KW := by unfold spanW; rw [e2]; exact w64_id (by omega)
      have c1 := ref06_count (w64 (w64 (s.H + w.Top) + w.Bottom)) w.KH w.SH (by omega) (by omega) (by omega)
      have c2 := ref06_count (w64 (w64 (s.W + w.Left) + w.Right)) w.KW w.SW (by omega) (by omega) (by omega)
      have g1 := cnt_out (n := w64 (w64 (s.H + w.Top) + w.Bottom)) (k := w.KH) (step := w.SH) (by omega) (by omega) (by omega)
      have g2 := cnt_out (n := w64 (w64 (s.W + w.Left) + w.Right)) (k := w.KW) (step := w.SW) (by omega) (by omega) (by omega)
      have p1 : (cntN (w64 (w64 (s.H + w.Top) + w.Bottom)) w.KH w.SH : Int) = 0 ↔ spanH s w < 0 := by
        rw [f1, e1]; unfold cntN; split <;> omega
      have p2 : (cntN (w64 (w64 (s.W + w.Left) + w.Right)) w.KW w.SW : Int) = 0 ↔ spanW s w < 0 := by
        rw [f2, e2]; unfold cntN; split <;> omega
      have q1 : w64 (w64 (s.H + w.Top) + w.Bottom) - w.KH = spanH s w := by rw [e1, f1]
      have q2 : w64 (w64 (s.W + w.Left) + w.Right) - w.KW = spanW s w := by rw [e2, f2]
      rw [q1] at g1
      rw [q2] at g2
      generalize (cntN (w64 (w64 (s.H + w.Top) + w.Bottom)) w.KH w.SH : Int) = C1 at *
      generalize (cntN (w64 (w64 (s.W + w.Left) + w.Right)) w.KW w.SW : Int) = C2 at *
      --@@3
      skip
      refine fn_ok Tb_ok (fn := Try.f86) Try.func86 rfl rfl (e := [(0, _), (1, _)]) rfl (by decide) rfl ?_
      refine zs ?_
      refine zR ?_
      refine zbx [.int _ _, .int _ _, .int _ _] 3 ?_
      refine zbx [.int _ _, .int _ _, .int _ _, .int _ _, .int _ _, .int _ _, .int _ _, .int _ _] 8 ?_
      refine zLI ?_
      refine zLI ?_
      refine zLI ?_
      refine zn ?_
      refine zs ?_
      refine zs ?_
      refine zR ?_
      refine zLG [.int _ _, .int _ _, .int _ _] ?_
      refine zLc (ref05_Valid s) ?_
      refine zLB ?_
      refine zn ?_
      refine W_cond_f (b := _) rfl (by exact hc11) ?_
      refine zk ?_
      refine zs ?_
      refine zs ?_
      refine zR ?_
      refine zLG [.int _ _, .int _ _, .int _ _, .int _ _, .int _ _, .int _ _, .int _ _, .int _ _] ?_
      refine zLc (ref06_Valid w) ?_
      refine zLB ?_
      refine zn ?_
      refine W_cond_f (b := _) rfl (by exact hc14) ?_
      refine zk ?_
      refine zs ?_
      refine zR ?_
      refine zLP ?_
      refine zLI ?_
      refine zLP ?_
      refine zLI ?_
      refine zLI ?_
      refine zLP ?_
      refine zLI ?_
      refine zLI ?_
      refine zLP ?_
      refine zLI ?_
      refine zLP ?_
      refine zLI ?_
      refine zLc (c1) ?_
      refine zLI ?_
      refine zn ?_
      refine zs ?_
      refine zR ?_
      refine zLP ?_
      refine zLI ?_
      refine zLP ?_
      refine zLI ?_
      refine zLI ?_
      refine zLP ?_
      refine zLI ?_
      refine zLI ?_
      refine zLP ?_
      refine zLI ?_
      refine zLP ?_
      refine zLI ?_
      refine zLc (c2) ?_
      refine zLI ?_
      refine zn ?_
      refine zs ?_
      refine zs ?_
      refine zR ?_
      refine zLI ?_
      refine zLB ?_
      refine zLB ?_
      refine zgLI ?_
      refine zgLB ?_
      refine zpLB ?_
      refine zn ?_
      refine W_cond (b := _) rfl (fun h46 => ?_) (fun h46 => ?_)
      · refine zs ?_
        refine zR ?_
        refine zLI ?_
        refine zLI ?_
        refine zLI ?_
        refine zn ?_
        refine zt ?_
        refine ends (l := [.int _ _, .int _ _, .int _ _]) (q := .tup [.int _ _, .int _ _, .int _ _]) (.inr rfl) rfl ⟨trivial, trivial, trivial, trivial⟩ rfl rfl ?_
        have : spanH s w < 0 ∨ spanW s w < 0 := by
          cases hq : C1 == 0 with
          | true => exact .inl (p1.1 (by simpa using hq))
          | false => rw [hq] at h46; exact .inr (p2.1 (by simpa using h46))
        simp [outH, outW, outE, hs, hw, this]
      · refine zk ?_
        refine zs ?_
        refine zR ?_
        refine zLI ?_
        refine zLI ?_
        refine zLI ?_
        refine zLI ?_
        refine zLI ?_
        refine zn ?_
        refine zt ?_
        refine ends (l := [.int _ _, .int _ _, .int _ _]) (q := .tup [.int _ _, .int _ _, .int _ _]) (.inr rfl) rfl ⟨trivial, trivial, trivial, trivial⟩ rfl rfl ?_
        have : ¬ (spanH s w < 0 ∨ spanW s w < 0) := by
          cases hq : C1 == 0 with
          | true => rw [hq] at h46; simp at h46
          | false =>
            rw [hq] at h46
            have n1 : C1 ≠ 0 := by simpa using hq
            have n2 : C2 ≠ 0 := by simpa using h46
            rintro (h | h)
            · exact n1 (p1.2 h)
            · exact n2 (p2.2 h)
        have t1 : ¬ spanH s w < 0 := fun h => this (.inl h)
        have t2 : ¬ spanW s w < 0 := fun h => this (.inr h)
        rw [if_neg t1] at g1
        rw [if_neg t2] at g2
        simp [outH, outW, outE, hs, hw, t1, t2, g1, g2]
end Go.AM
end
section
open Go Go.AM Go.Proofs
set_option maxRecDepth 10000
set_option linter.unusedVariables false
set_option linter.unusedSimpArgs false
namespace Go.AM
def sp1 (o : MOp) : Bool := bif o.Kind != 6 then bif o.B != 0 then true else !(o.SB.Mult == 0 && (o.SB.Shift == 0 && true)) else false
def sp2 (o : MOp) : Bool := bif bif bif decide (o.Kind > 2) then o.M != 0 else false then true else bif !inB o.Kind 1 3 then decide (w64 (((o.Weights.map i16C).length : Int) + ((o.Bias.map i32C).length : Int)) > 0) else false then true
  else bif !scalesB o.Kind then bif !(o.SA.Mult == 0 && (o.SA.Shift == 0 && true)) then true else o.Zero != 0 else false
def sp3 (o : MOp) : Bool := bif bif !inB o.Kind 2 5 then !(o.Win.KH == 0 && (o.Win.KW == 0 && (o.Win.SH == 0 && (o.Win.SW == 0 && (o.Win.Top == 0 && (o.Win.Left == 0 && (o.Win.Bottom == 0 && (o.Win.Right == 0 && true)))))))) else false then true else bif bif o.Kind != 2 then o.Kind != 3 else false then o.Pad != 0 else false
def sp4 (o : MOp) : Bool := bif bif o.Kind != 4 then o.Kind != 5 else false then true else bif bif bif o.Win.Top == 0 then o.Win.Left == 0 else false then o.Win.Bottom == 0 else false then o.Win.Right == 0 else false
theorem cond_t {a b : Bool} : (bif a then true else b) = (a || b) := by cases a <;> rfl
theorem cond_x {a b : Bool} : (bif a then b else false) = (a && b) := by cases a <;> rfl
theorem spare_eq {o : MOp} (hk : inB o.Kind 1 8 = true) (hl : (o.Weights.length : Int) + o.Bias.length ≤ 4611686018427387904) : (!sp1 o && (!sp2 o && (!sp3 o && sp4 o))) = !op3 o := by
  have hw : w64 (((o.Weights.map i16C).length : Int) + ((o.Bias.map i32C).length : Int)) = (o.Weights.length : Int) + o.Bias.length := by
    rw [List.length_map, List.length_map]; exact w64_id (by omega)
  have hk' : o.Kind = 1 ∨ o.Kind = 2 ∨ o.Kind = 3 ∨ o.Kind = 4 ∨ o.Kind = 5 ∨ o.Kind = 6 ∨ o.Kind = 7 ∨ o.Kind = 8 := by simp [inB] at hk; omega
  unfold sp1 sp2 sp3 sp4 op3
  rw [hw, Bool.eq_iff_iff]
  obtain ⟨K, A, B, M, ⟨KH, KW, SH, SW, T, L, Bo, R⟩, Ws, Bs, ⟨a1, a2⟩, ⟨b1, b2⟩, Z, P, Lo, Hi⟩ := o
  clear hw hk
  dsimp only at hk' hl ⊢
  rcases hk' with rfl | rfl | rfl | rfl | rfl | rfl | rfl | rfl <;>
    simp only [ofU, bareF, bare8, bare7, bare6, bare5, bare4, bare3, bare2, bare1, emptyB, winEq, scalesB, inB, cond_true, cond_false, cond_t, cond_x, Bool.not_not, Bool.and_eq_true, Bool.or_eq_true, Bool.not_eq_true', Bool.or_eq_false_iff, Bool.and_eq_false_iff, beq_iff_eq, bne_iff_ne, bne_eq_false_iff_eq, decide_eq_true_eq, decide_eq_false_iff_not, beq_eq_false_iff_ne, List.length_nil, if_true, if_false, reduceIte, Int.reduceEq, Int.reduceLE, Int.reduceLT, Int.reduceGT, Int.reduceNe, Int.reduceBEq, Int.reduceBNe, Bool.and_true, Bool.true_and, Bool.and_false, Bool.false_and, Bool.or_true, Bool.true_or, Bool.or_false, Bool.false_or, Bool.not_true, Bool.not_false, decide_true, decide_false, Bool.false_eq_true, Bool.true_eq_false, Int.natCast_zero, Int.natCast_eq_zero, true_and, and_true, false_and, and_false, not_true_eq_false, not_false_eq_true, true_or, or_true, false_or, or_false, ne_eq, reduceCtorEq, Bool.not_eq_false'] <;> omega
theorem ref08_spare (o : MOp) (hk : inB o.Kind 1 8 = true) (hl : (o.Weights.length : Int) + o.Bias.length ≤ 4611686018427387904) : Ok Try.prog 65 [.agg (opC o)] (.bool (!op3 o)) := by
  rw [← spare_eq hk hl]
  refine fn_ok Tb_ok (fn := Try.f65) Try.func65 rfl rfl (e := [(0, _)]) rfl (by decide) rfl ?_
  refine zs ?_
  refine zR ?_
  refine zbx [.int _ _, .int _ _, .int _ _, .int _ _, .int _ _, .int _ _, .int _ _, .int _ _, .int _ _, .int _ _, .int _ _, .int _ _, _, _, .int _ _, .int _ _, .int _ _, .int _ _, .int _ _, .int _ _, .int _ _, .int _ _] 22 ?_
  refine zLB ?_
  refine zn ?_
  refine zs ?_
  refine zR ?_
  refine zLP ?_
  refine zLG [.int _ _, .int _ _, .int _ _, .int _ _, .int _ _, .int _ _, .int _ _, .int _ _] ?_
  refine zal [.int .i64 0, .int .i64 0, .int .i64 0, .int .i64 0, .int .i64 0, .int .i64 0, .int .i64 0, .int .i64 0] 8 ?_
  refine zst (.agg [.int _ _, .int _ _, .int _ _, .int _ _, .int _ _, .int _ _, .int _ _, .int _ _]) [_, _, _, _, _, _, _, _] [[_, _, _, _, _, _, _, _]] ?_
  refine zn ?_
  refine zs ?_
  refine zs ?_
  refine zR ?_
  refine zLP ?_
  refine zLI ?_
  refine zLB ?_
  refine zLB ?_
  refine zgLP ?_
  refine zgLI ?_
  refine zgLB ?_
  refine zgLB ?_
  refine zgLP ?_
  refine zgLG [.int _ _, .int _ _] ?_
  refine zgLG [.int _ _, .int _ _] ?_
  refine zgLB ?_
  refine zqLB ?_
  refine zpLB ?_
  refine zn ?_
  refine W_cond (b := _) rfl (fun h19 => ?_) (fun h19 => ?_)
  · replace h19 : sp1 o = true := h19
    refine zs ?_
    refine zR ?_
    refine zLB ?_
    refine zn ?_
    refine zt ?_
    refine ends (l := [.bool _]) (q := .bool _) (.inr rfl) rfl ⟨trivial, trivial⟩ rfl rfl ?_
    simp [*]
  · replace h19 : sp1 o = false := h19
    refine zk ?_
    refine zs ?_
    refine zs ?_
    refine zR ?_
    refine zLP ?_
    refine zLI ?_
    refine zLB ?_
    refine zLB ?_
    refine zgLP ?_
    refine zgLI ?_
    refine zgLB ?_
    refine zpLB ?_
    refine zLB ?_
    refine zgLP ?_
    refine zgLI ?_
    refine L_callg (hr := fun hg => ref08_Weighs _) rfl rfl rfl rfl rfl (fun hg => ⟨⟨(by exact hg), True.intro⟩, True.intro⟩) rfl rfl ?_
    refine zgLB ?_
    refine zgLB ?_
    refine zgLP ?_
    refine zgLO ?_
    refine zgLI ?_
    refine zgLP ?_
    refine zgLO ?_
    refine zgLI ?_
    refine zgLI ?_
    refine zgLB ?_
    refine zqLB ?_
    refine zpLB ?_
    refine zLB ?_
    refine zgLP ?_
    refine zgLI ?_
    refine L_callg (hr := fun hg => ref08_Scales _) rfl rfl rfl rfl rfl (fun hg => ⟨⟨(by exact hg), True.intro⟩, True.intro⟩) rfl rfl ?_
    refine zgLB ?_
    refine zgLB ?_
    refine zgLP ?_
    refine zgLG [.int _ _, .int _ _] ?_
    refine zgLG [.int _ _, .int _ _] ?_
    refine zgLB ?_
    refine zgLB ?_
    refine zgLP ?_
    refine zgLI ?_
    refine zgLB ?_
    refine zqLB ?_
    refine zqLB ?_
    refine zpLB ?_
    refine zn ?_
    refine W_cond (b := _) rfl (fun h60 => ?_) (fun h60 => ?_)
    · replace h60 : sp2 o = true := h60
      refine zs ?_
      refine zR ?_
      refine zLB ?_
      refine zn ?_
      refine zt ?_
      refine ends (l := [.bool _]) (q := .bool _) (.inr rfl) rfl ⟨trivial, trivial⟩ rfl rfl ?_
      simp [*]
    · replace h60 : sp2 o = false := h60
      refine zk ?_
      refine zs ?_
      refine zs ?_
      refine zR ?_
      refine zLP ?_
      refine zLI ?_
      refine zLc (ref08_Slides _) ?_
      refine zLB ?_
      refine zLB ?_
      refine zgLG [.int _ _, .int _ _, .int _ _, .int _ _, .int _ _, .int _ _, .int _ _, .int _ _] ?_
      refine zgLG [.int _ _, .int _ _, .int _ _, .int _ _, .int _ _, .int _ _, .int _ _, .int _ _] ?_
      refine zgLB ?_
      refine zpLB ?_
      refine zLB ?_
      refine zgLP ?_
      refine zgLI ?_
      refine zgLB ?_
      refine zgLB ?_
      refine zgLP ?_
      refine zgLI ?_
      refine zgLB ?_
      refine zqLB ?_
      refine zgLB ?_
      refine zgLP ?_
      refine zgLI ?_
      refine zgLB ?_
      refine zqLB ?_
      refine zpLB ?_
      refine zn ?_
      refine W_cond (b := _) rfl (fun h84 => ?_) (fun h84 => ?_)
      · replace h84 : sp3 o = true := h84
        refine zs ?_
        refine zR ?_
        refine zLB ?_
        refine zn ?_
        refine zt ?_
        refine ends (l := [.bool _]) (q := .bool _) (.inr rfl) rfl ⟨trivial, trivial⟩ rfl rfl ?_
        simp [*]
      · replace h84 : sp3 o = false := h84
        refine zk ?_
        refine zs ?_
        refine zR ?_
        refine zLP ?_
        refine zLI ?_
        refine zLB ?_
        refine zLB ?_
        refine zgLP ?_
        refine zgLI ?_
        refine zgLB ?_
        refine zpLB ?_
        refine zLB ?_
        refine zgLP ?_
        refine zgLI ?_
        refine zgLB ?_
        refine zgLB ?_
        refine zgLP ?_
        refine zgLI ?_
        refine zgLB ?_
        refine zqLB ?_
        refine zgLB ?_
        refine zgLP ?_
        refine zgLI ?_
        refine zgLB ?_
        refine zqLB ?_
        refine zgLB ?_
        refine zgLP ?_
        refine zgLI ?_
        refine zgLB ?_
        refine zqLB ?_
        refine zpLB ?_
        refine zLB ?_
        refine zn ?_
        refine zt ?_
        refine ends (l := [.bool _]) (q := .bool _) (.inr rfl) rfl ⟨trivial, trivial⟩ rfl rfl ?_
        simp only [*, Bool.not_false, Bool.true_and]; rfl
end Go.AM
end
section
open Go Go.AM Go.Proofs
set_option maxRecDepth 10000
set_option linter.unusedVariables false
set_option linter.unusedSimpArgs false
namespace Go.AM
theorem kinds8 {k : Int} (h : inB k 1 8 = true) : k = 1 ∨ k = 2 ∨ k = 3 ∨ k = 4 ∨ k = 5 ∨ k = 6 ∨ k = 7 ∨ k = 8 := by simp [inB] at h; omega
theorem mk_slide {o : MOp} {a : Shape} (h1 : (o.Kind == 1) = false) (h2 : inB o.Kind 2 5 = true) : mkE o a = outE a o.Win ∧ mkS o a = if outE a o.Win = 0 then ⟨outH a o.Win, outW a o.Win, if o.Kind = 2 then o.M else a.C⟩ else ⟨0, 0, 0⟩ := by
  have hk : o.Kind = 2 ∨ o.Kind = 3 ∨ o.Kind = 4 ∨ o.Kind = 5 := by simp [inB] at h2; omega
  have hw : (ofU o.Kind).win = true := by rcases hk with h | h | h | h <;> rw [h] <;> rfl
  have e : mkE o a = outE a o.Win := by unfold mkE; rw [hw]; rfl
  refine ⟨e, ?_⟩
  unfold mkS mkX
  rw [e, hw]
  have n1 : o.Kind ≠ 1 := by simpa using h1
  simp only [if_neg n1, cond_true]
  by_cases k2 : o.Kind = 2 <;> simp [k2]
theorem mk_plain {o : MOp} {a : Shape} (h0 : inB o.Kind 1 8 = true) (h2 : inB o.Kind 2 5 = false) : mkE o a = 0 ∧ mkS o a = if o.Kind = 1 then ⟨1, 1, o.M⟩ else a := by
  have hk : o.Kind = 1 ∨ o.Kind = 6 ∨ o.Kind = 7 ∨ o.Kind = 8 := by
    have := kinds8 h0; simp [inB] at h2; omega
  have hw : (ofU o.Kind).win = false := by rcases hk with h | h | h | h <;> rw [h] <;> rfl
  have e : mkE o a = 0 := by unfold mkE; rw [hw]; rfl
  refine ⟨e, ?_⟩
  unfold mkS mkX
  rw [e, hw, if_pos rfl]
  have n2 : o.Kind ≠ 2 := by omega
  simp only [if_neg n2, cond_false]
theorem ref08_Makes (o : MOp) (a : Shape) (h0 : inB o.Kind 1 8 = true) : Ok Try.prog 66 [.agg (opC o), .agg (shapeC a)] (.tup [.agg (shapeC (mkS o a)), .int .i64 (mkE o a)]) := by
  cases hc19 : inB o.Kind 2 5 with
  | true =>
    have hc13 : (o.Kind == 1) = false := by simp [inB] at hc19; simp; omega
    obtain ⟨e1, e2⟩ := mk_slide (a := a) hc13 hc19
    rw [e1, e2]
    --@@1
    skip
    refine fn_ok Tb_ok (fn := Try.f66) Try.func66 rfl rfl (e := [(0, _), (1, _)]) rfl (by decide) rfl ?_
    refine zs ?_
    refine zR ?_
    refine zbx [.int _ _, .int _ _, .int _ _, .int _ _, .int _ _, .int _ _, .int _ _, .int _ _, .int _ _, .int _ _, .int _ _, .int _ _, _, _, .int _ _, .int _ _, .int _ _, .int _ _, .int _ _, .int _ _, .int _ _, .int _ _] 22 ?_
    refine zbx [.int _ _, .int _ _, .int _ _] 3 ?_
    refine zal [.int .i64 0, .int .i64 0, .int .i64 0] 3 ?_
    refine zLI ?_
    refine zn ?_
    refine zs ?_
    refine zR ?_
    refine zLG [.int _ _, .int _ _, .int _ _] ?_
    refine zal [.int .i64 0, .int .i64 0, .int .i64 0] 3 ?_
    refine zst (.agg [.int _ _, .int _ _, .int _ _]) [_, _, _] [[_, _, _]] ?_
    refine zn ?_
    refine zs ?_
    refine zs ?_
    refine zR ?_
    refine zLP ?_
    refine zLI ?_
    refine zLB ?_
    refine zn ?_
    refine W_cond_f (b := _) rfl (by exact hc13) ?_
    refine zk ?_
    refine zs ?_
    refine zs ?_
    refine zR ?_
    refine zLP ?_
    refine zLI ?_
    refine zLc (ref08_Slides _) ?_
    refine zn ?_
    refine W_cond_t (b := _) rfl (by exact hc19) ?_
    refine zs ?_
    refine zR ?_
    refine zLG [.int _ _, .int _ _, .int _ _] ?_
    refine zLP ?_
    refine zLG [.int _ _, .int _ _, .int _ _, .int _ _, .int _ _, .int _ _, .int _ _, .int _ _] ?_
    refine zLc (ref06_Out a o.Win) ?_
    refine zLT [_, _, _] ?_
    refine zLI ?_
    refine zLI ?_
    refine zLI ?_
    refine zLI ?_
    refine zLI ?_
    refine zLI ?_
    refine zn ?_
    refine zs ?_
    refine zs ?_
    refine zR ?_
    refine zLI ?_
    refine zLB ?_
    refine zn ?_
    refine W_cond (b := _) rfl (fun h29 => ?_) (fun h29 => ?_)
    · refine zs ?_
      refine zR ?_
      refine zLG [.int _ _, .int _ _, .int _ _] ?_
      refine zLI ?_
      refine zst (.agg [.int _ _, .int _ _, .int _ _]) [_, _, _] [[_, _, _]] ?_
      refine zLI ?_
      refine zn ?_
      refine zt ?_
      refine ends (l := [.agg [.int _ _, .int _ _, .int _ _], .int _ _]) (q := .tup [.agg [.int _ _, .int _ _, .int _ _], .int _ _]) (.inr rfl) rfl ⟨rfl, trivial, trivial⟩ rfl rfl ?_
      have : outE a o.Win ≠ 0 := by simpa using h29
      simp [this, shapeC]
    · refine zk ?_
      refine zs ?_
      refine zR ?_
      refine zLI ?_
      refine zLP ?_
      refine zst (.int _ _) [_] [[_, _, _]] ?_
      refine zn ?_
      refine zs ?_
      refine zR ?_
      refine zLI ?_
      refine zLP ?_
      refine zst (.int _ _) [_] [[_, _, _]] ?_
      refine zn ?_
      refine zs ?_
      refine zR ?_
      refine zLP ?_
      refine zLI ?_
      refine zLB ?_
      refine zn ?_
      refine W_cond (b := _) rfl (fun h38 => ?_) (fun h38 => ?_)
      · refine zR ?_
        refine zLP ?_
        refine zLI ?_
        refine zLP ?_
        refine zst (.int _ _) [_] [[_, _, _]] ?_
        refine zn ?_
        refine zs ?_
        refine zR ?_
        refine zLG [.int _ _, .int _ _, .int _ _] ?_
        refine zst (.agg [.int _ _, .int _ _, .int _ _]) [_, _, _] [[_, _, _]] ?_
        refine zLI ?_
        refine zn ?_
        refine zt ?_
        refine ends (l := [.agg [.int _ _, .int _ _, .int _ _], .int _ _]) (q := .tup [.agg [.int _ _, .int _ _, .int _ _], .int _ _]) (.inr rfl) rfl ⟨rfl, trivial, trivial⟩ rfl rfl ?_
        have z : outE a o.Win = 0 := by simpa using h29
        have k2 : o.Kind = 2 := by simpa using h38
        simp [z, k2, shapeC]
      · refine zk ?_
        refine zs ?_
        refine zR ?_
        refine zLG [.int _ _, .int _ _, .int _ _] ?_
        refine zst (.agg [.int _ _, .int _ _, .int _ _]) [_, _, _] [[_, _, _]] ?_
        refine zLI ?_
        refine zn ?_
        refine zt ?_
        refine ends (l := [.agg [.int _ _, .int _ _, .int _ _], .int _ _]) (q := .tup [.agg [.int _ _, .int _ _, .int _ _], .int _ _]) (.inr rfl) rfl ⟨rfl, trivial, trivial⟩ rfl rfl ?_
        have z : outE a o.Win = 0 := by simpa using h29
        have k2 : o.Kind ≠ 2 := by simpa using h38
        simp [z, k2, shapeC]
  | false =>
    obtain ⟨e1, e2⟩ := mk_plain (a := a) h0 hc19
    rw [e1, e2]
    --@@2
    skip
    refine fn_ok Tb_ok (fn := Try.f66) Try.func66 rfl rfl (e := [(0, _), (1, _)]) rfl (by decide) rfl ?_
    refine zs ?_
    refine zR ?_
    refine zbx [.int _ _, .int _ _, .int _ _, .int _ _, .int _ _, .int _ _, .int _ _, .int _ _, .int _ _, .int _ _, .int _ _, .int _ _, _, _, .int _ _, .int _ _, .int _ _, .int _ _, .int _ _, .int _ _, .int _ _, .int _ _] 22 ?_
    refine zbx [.int _ _, .int _ _, .int _ _] 3 ?_
    refine zal [.int .i64 0, .int .i64 0, .int .i64 0] 3 ?_
    refine zLI ?_
    refine zn ?_
    refine zs ?_
    refine zR ?_
    refine zLG [.int _ _, .int _ _, .int _ _] ?_
    refine zal [.int .i64 0, .int .i64 0, .int .i64 0] 3 ?_
    refine zst (.agg [.int _ _, .int _ _, .int _ _]) [_, _, _] [[_, _, _]] ?_
    refine zn ?_
    refine zs ?_
    refine zs ?_
    refine zR ?_
    refine zLP ?_
    refine zLI ?_
    refine zLB ?_
    refine zn ?_
    refine W_cond (b := _) rfl (fun h13 => ?_) (fun h13 => ?_)
    · refine zR ?_
      refine zLP ?_
      refine zLI ?_
      refine zLG [.int _ _, .int _ _, .int _ _] ?_
      refine zst (.agg [.int _ _, .int _ _, .int _ _]) [_, _, _] [[_, _, _]] ?_
      refine zn ?_
      refine zs ?_
      refine zs ?_
      refine zR ?_
      refine zLP ?_
      refine zLI ?_
      refine zLc (ref08_Slides _) ?_
      refine zn ?_
      refine W_cond_f (b := _) rfl (by exact hc19) ?_
      refine zk ?_
      refine zs ?_
      refine zR ?_
      refine zLG [.int _ _, .int _ _, .int _ _] ?_
      refine zst (.agg [.int _ _, .int _ _, .int _ _]) [_, _, _] [[_, _, _]] ?_
      refine zLI ?_
      refine zn ?_
      refine zt ?_
      refine ends (l := [.agg [.int _ _, .int _ _, .int _ _], .int _ _]) (q := .tup [.agg [.int _ _, .int _ _, .int _ _], .int _ _]) (.inr rfl) rfl ⟨rfl, trivial, trivial⟩ rfl rfl ?_
      have k1 : o.Kind = 1 := by simpa using h13
      simp [k1, shapeC]
    · refine zk ?_
      refine zs ?_
      refine zs ?_
      refine zR ?_
      refine zLP ?_
      refine zLI ?_
      refine zLc (ref08_Slides _) ?_
      refine zn ?_
      refine W_cond_f (b := _) rfl (by exact hc19) ?_
      refine zk ?_
      refine zs ?_
      refine zR ?_
      refine zLG [.int _ _, .int _ _, .int _ _] ?_
      refine zst (.agg [.int _ _, .int _ _, .int _ _]) [_, _, _] [[_, _, _]] ?_
      refine zLI ?_
      refine zn ?_
      refine zt ?_
      refine ends (l := [.agg [.int _ _, .int _ _, .int _ _], .int _ _]) (q := .tup [.agg [.int _ _, .int _ _, .int _ _], .int _ _]) (.inr rfl) rfl ⟨rfl, trivial, trivial⟩ rfl rfl ?_
      have k1 : o.Kind ≠ 1 := by simpa using h13
      simp [k1, shapeC]
def r2 (o : MOp) (l : List Shape) : Bool := bif bif decide (o.A < 0) then true else decide (o.A ≥ (l.length : Int)) then true else bif o.Kind == 6 then bif decide (o.B < 0) then true else decide (o.B ≥ (l.length : Int)) else false
def r4 (o : MOp) : Bool := bif decide (o.Kind ≤ 2) then bif decide (o.M < 1) then true else decide (o.M > 1024) else false
def r6 (o : MOp) (l : List Shape) : Bool := bif bif o.Kind == 6 then !shapeQ (inS o l) (inA o l) else false then true else !shapeB (mkS o (inA o l))
def r7 (o : MOp) (a : Shape) : Bool := bif inB o.Kind 1 4 then decide (lenF o a > 512) else false
def r8 (o : MOp) (a : Shape) : Bool := bif ((o.Weights.map i16C).length : Int) != listW o a then true else ((o.Bias.map i32C).length : Int) != listB o a
def r9 (o : MOp) : Bool := bif bif scalesB o.Kind then !(inB o.SA.Mult 1 2147483647 && inB o.SA.Shift 0 62) else false then true else bif o.Kind == 6 then !(inB o.SB.Mult 1 2147483647 && inB o.SB.Shift 0 62) else false
def r10 (o : MOp) : Bool := bif bif bif bif !inB o.Lo (-128) 127 then true else !inB o.Hi (-128) 127 then true else decide (o.Lo > o.Hi) then true else !inB o.Zero (-128) 127 then true else !inB o.Pad (-128) 127
theorem ofU_b {k : Int} (h : inB k 1 8 = true) : (ofU k).b = (k == 6) ∧ (ofU k).m = decide (k ≤ 2) ∧ (ofU k).sa = scalesB k ∧ (ofU k).sb = (k == 6) ∧ (ofU k).weights = inB k 1 3 := by
  rcases kinds8 h with rfl | rfl | rfl | rfl | rfl | rfl | rfl | rfl <;> exact ⟨rfl, rfl, rfl, rfl, rfl⟩
theorem r2_eq {o : MOp} {l : List Shape} (h : inB o.Kind 1 8 = true) : op2 o l = r2 o l := by unfold op2 r2; rw [(ofU_b h).1, List.length_map]
theorem r4_eq {o : MOp} (h : inB o.Kind 1 8 = true) : op4 o = r4 o := by unfold op4 r4; rw [(ofU_b h).2.1]
theorem r6_eq {o : MOp} {l : List Shape} (h : inB o.Kind 1 8 = true) : op6 o l = r6 o l := by
  unfold op6 r6; rw [(ofU_b h).1]
  unfold shapeE
  cases shapeB (mkS o (inA o l)) <;> cases o.Kind == 6 <;> cases shapeQ (inS o l) (inA o l) <;> rfl
theorem mkL_eq {o : MOp} {a : Shape} (h : inB o.Kind 1 8 = true) (he : mkE o a = 0) : mkL o a = bif inB o.Kind 1 4 then lenF o a else 0 := by
  unfold mkL lenF
  rw [if_pos he]
  rcases kinds8 h with k | k | k | k | k | k | k | k <;> rw [k] <;> simp [inB, mkX, k, ofU]
theorem r7_eq {o : MOp} {l : List Shape} (h : inB o.Kind 1 8 = true) (he : mkE o (inA o l) = 0) : op7 o l = r7 o (inA o l) := by
  unfold op7 r7; rw [mkL_eq h he]; cases inB o.Kind 1 4 <;> rfl
theorem opR_eq {o : MOp} {l : List Shape} (h : inB o.Kind 1 8 = true) (he : mkE o (inA o l) = 0) : opR o l = listB o (inA o l) ∧ w64 (opR o l * mkL o (inA o l)) = listW o (inA o l) := by
  rw [mkL_eq h he]
  unfold opR listB listW mkS
  rw [if_pos he, (ofU_b h).2.2.2.2]
  rcases kinds8 h with k | k | k | k | k | k | k | k <;> rw [k] <;> simp [inB, mkX, k, ofU, w64, IntKind.wrap_i64]
theorem r8_eq {o : MOp} {l : List Shape} (h : inB o.Kind 1 8 = true) (he : mkE o (inA o l) = 0) : op8 o l = r8 o (inA o l) := by
  obtain ⟨h1, h2⟩ := opR_eq h he
  unfold op8 r8; rw [h2, h1]
theorem r9_eq {o : MOp} (h : inB o.Kind 1 8 = true) : op9 o = r9 o := by
  unfold op9 r9 scaleB; rw [(ofU_b h).2.2.1, (ofU_b h).2.2.2.1]
theorem r10_eq {o : MOp} : op10 o = r10 o := by
  unfold op10 r10 bytesB
  simp only [List.all_cons, List.all_nil, Bool.and_true]
  cases inB o.Lo (-128) 127 <;> cases inB o.Hi (-128) 127 <;> cases inB o.Zero (-128) 127 <;> cases inB o.Pad (-128) 127 <;> cases decide (o.Lo > o.Hi) <;> rfl
theorem ref08_one (o : MOp) (l : List Shape) (hl : (o.Weights.length : Int) + o.Bias.length ≤ 4611686018427387904) : Ok Try.prog 50 [.agg (opC o), .int .i64 (l.length : Int), .ro (l.map shapeC)] (.tup [.agg (shapeC (opS o l)), .int .i64 (opE o l)]) := by
  cases hc20 : op1 o with
  | true =>
    have hc20 : (bif decide (o.Kind < 1) then true else decide (o.Kind > 8)) = true := by
      unfold op1 inB at hc20; by_cases a : o.Kind < 1 <;> by_cases b : o.Kind > 8 <;> simp [a, b] at hc20 ⊢ <;> omega
    --@@1
    skip
    refine fn_ok Tb_ok (fn := Try.f50) Try.func50 rfl rfl (e := [(0, _), (1, _), (2, _)]) rfl (by decide) rfl ?_
    refine zs ?_
    refine zR ?_
    refine zbx [.int _ _, .int _ _, .int _ _, .int _ _, .int _ _, .int _ _, .int _ _, .int _ _, .int _ _, .int _ _, .int _ _, .int _ _, _, _, .int _ _, .int _ _, .int _ _, .int _ _, .int _ _, .int _ _, .int _ _, .int _ _] 22 ?_
    refine zal [.int .i64 0, .int .i64 0, .int .i64 0] 3 ?_
    refine zLI ?_
    refine zn ?_
    refine zs ?_
    refine zs ?_
    refine zR ?_
    refine zLP ?_
    refine zLI ?_
    refine zLB ?_
    refine zLB ?_
    refine zgLP ?_
    refine zgLI ?_
    refine zgLB ?_
    refine zpLB ?_
    refine zn ?_
    refine W_cond_t (b := _) rfl (by exact hc20) ?_
    refine zs ?_
    refine zR ?_
    refine zLG [.int _ _, .int _ _, .int _ _] ?_
    refine zst (.agg [.int _ _, .int _ _, .int _ _]) [_, _, _] [[_, _, _]] ?_
    refine zLI ?_
    refine zn ?_
    refine zt ?_
    refine ends (l := [.agg [.int _ _, .int _ _, .int _ _], .int _ _]) (q := .tup [.agg [.int _ _, .int _ _, .int _ _], .int _ _]) (.inr rfl) rfl ⟨rfl, trivial, trivial⟩ rfl rfl ?_
    simp [opS, opE, shapeC, *]
  | false =>
    have hk : inB o.Kind 1 8 = true := by simpa [op1] using hc20
    have q1 := hc20
    have hc20 : (bif decide (o.Kind < 1) then true else decide (o.Kind > 8)) = false := by
      unfold inB at hk; by_cases a : o.Kind < 1 <;> by_cases b : o.Kind > 8 <;> simp [a, b] at hk ⊢ <;> omega
    --@@2
    skip
    refine fn_ok Tb_ok (fn := Try.f50) Try.func50 rfl rfl (e := [(0, _), (1, _), (2, _)]) rfl (by decide) rfl ?_
    refine zs ?_
    refine zR ?_
    refine zbx [.int _ _, .int _ _, .int _ _, .int _ _, .int _ _, .int _ _, .int _ _, .int _ _, .int _ _, .int _ _, .int _ _, .int _ _, _, _, .int _ _, .int _ _, .int _ _, .int _ _, .int _ _, .int _ _, .int _ _, .int _ _] 22 ?_
    refine zal [.int .i64 0, .int .i64 0, .int .i64 0] 3 ?_
    refine zLI ?_
    refine zn ?_
    refine zs ?_
    refine zs ?_
    refine zR ?_
    refine zLP ?_
    refine zLI ?_
    refine zLB ?_
    refine zLB ?_
    refine zgLP ?_
    refine zgLI ?_
    refine zgLB ?_
    refine zpLB ?_
    refine zn ?_
    refine W_cond_f (b := _) rfl (by exact hc20) ?_
    refine zk ?_
    refine zs ?_
    refine zs ?_
    refine zR ?_
    refine zLP ?_
    refine zLI ?_
    refine zLB ?_
    refine zLB ?_
    refine zgLP ?_
    refine zgLI ?_
    refine zgLI ?_
    refine zgLB ?_
    refine zpLB ?_
    refine zLB ?_
    refine zgLP ?_
    refine zgLI ?_
    refine zgLB ?_
    refine zgLB ?_
    refine zgLP ?_
    refine zgLI ?_
    refine zgLB ?_
    refine zgLB ?_
    refine zgLP ?_
    refine zgLI ?_
    refine zgLI ?_
    refine zgLB ?_
    refine zqLB ?_
    refine zqLB ?_
    refine zpLB ?_
    refine zn ?_
    refine W_cond (b := _) rfl (fun h46 => ?_) (fun h46 => ?_)
    · have q2 : op2 o l = true := by rw [r2_eq hk]; simpa [r2] using h46
      refine zs ?_
      refine zR ?_
      refine zLG [.int _ _, .int _ _, .int _ _] ?_
      refine zst (.agg [.int _ _, .int _ _, .int _ _]) [_, _, _] [[_, _, _]] ?_
      refine zLI ?_
      refine zn ?_
      refine zt ?_
      refine ends (l := [.agg [.int _ _, .int _ _, .int _ _], .int _ _]) (q := .tup [.agg [.int _ _, .int _ _, .int _ _], .int _ _]) (.inr rfl) rfl ⟨rfl, trivial, trivial⟩ rfl rfl ?_
      simp [opS, opE, shapeC, *]
    · have q2 : op2 o l = false := by rw [r2_eq hk]; simpa [r2] using h46
      obtain ⟨a0, a1, a2⟩ := op2_ok q2
      have a1' : o.A < ((l.map shapeC).length : Int) := by rw [List.length_map]; exact a1
      refine zk ?_
      refine zs ?_
      refine zs ?_
      refine zR ?_
      refine zLG [.int _ _, .int _ _, .int _ _, .int _ _, .int _ _, .int _ _, .int _ _, .int _ _, .int _ _, .int _ _, .int _ _, .int _ _, _, _, .int _ _, .int _ _, .int _ _, .int _ _, .int _ _, .int _ _, .int _ _, .int _ _] ?_
      refine zLc (ref08_spare o hk hl) ?_
      refine zLB ?_
      refine zn ?_
      refine W_cond (b := _) rfl (fun h50 => ?_) (fun h50 => ?_)
      · have q3 : op3 o = true := by simpa using h50
        refine zs ?_
        refine zR ?_
        refine zLG [.int _ _, .int _ _, .int _ _] ?_
        refine zst (.agg [.int _ _, .int _ _, .int _ _]) [_, _, _] [[_, _, _]] ?_
        refine zLI ?_
        refine zn ?_
        refine zt ?_
        refine ends (l := [.agg [.int _ _, .int _ _, .int _ _], .int _ _]) (q := .tup [.agg [.int _ _, .int _ _, .int _ _], .int _ _]) (.inr rfl) rfl ⟨rfl, trivial, trivial⟩ rfl rfl ?_
        simp [opS, opE, shapeC, *]
      · have q3 : op3 o = false := by simpa using h50
        refine zk ?_
        refine zs ?_
        refine zs ?_
        refine zR ?_
        refine zLP ?_
        refine zLI ?_
        refine zLB ?_
        refine zLB ?_
        refine zgLP ?_
        refine zgLI ?_
        refine zgLB ?_
        refine zgLB ?_
        refine zgLP ?_
        refine zgLI ?_
        refine zgLB ?_
        refine zqLB ?_
        refine zpLB ?_
        refine zn ?_
        refine W_cond (b := _) rfl (fun h64 => ?_) (fun h64 => ?_)
        · have q4 : op4 o = true := by rw [r4_eq hk]; exact h64
          refine zs ?_
          refine zR ?_
          refine zLG [.int _ _, .int _ _, .int _ _] ?_
          refine zst (.agg [.int _ _, .int _ _, .int _ _]) [_, _, _] [[_, _, _]] ?_
          refine zLI ?_
          refine zn ?_
          refine zt ?_
          refine ends (l := [.agg [.int _ _, .int _ _, .int _ _], .int _ _]) (q := .tup [.agg [.int _ _, .int _ _, .int _ _], .int _ _]) (.inr rfl) rfl ⟨rfl, trivial, trivial⟩ rfl rfl ?_
          simp [opS, opE, shapeC, *]
        · have q4 : op4 o = false := by rw [r4_eq hk]; exact h64
          refine zk ?_
          refine zs ?_
          refine zR ?_
          refine zLO ?_
          refine zLP ?_
          refine zLI ?_
          (refine L_v Tb_ok (v := _) (ave_index_ro rfl rfl rfl (fun _ => rfl) rfl (by first | exact a0 | exact a1 | exact a1') (by first | exact a0 | exact a1 | exact a1') trivial) rfl ?_)
          refine zLG [.int _ _, .int _ _, .int _ _] ?_
          refine zal [.int .i64 0, .int .i64 0, .int .i64 0] 3 ?_
          refine zst (.agg [.int _ _, .int _ _, .int _ _]) [_, _, _] [[_, _, _]] ?_
          refine zn ?_
          refine zs ?_
          refine zR ?_
          refine zLG [.int _ _, .int _ _, .int _ _, .int _ _, .int _ _, .int _ _, .int _ _, .int _ _, .int _ _, .int _ _, .int _ _, .int _ _, _, _, .int _ _, .int _ _, .int _ _, .int _ _, .int _ _, .int _ _, .int _ _, .int _ _] ?_
          refine zLG [.int _ _, .int _ _, .int _ _] ?_
          refine zLc (ref08_Makes o (inA o l) hk) ?_
          refine zLT [_, _] ?_
          refine zLG [.int _ _, .int _ _, .int _ _] ?_
          refine zLI ?_
          refine zal [.int .i64 0, .int .i64 0, .int .i64 0] 3 ?_
          refine zst (.agg [.int _ _, .int _ _, .int _ _]) [_, _, _] [[_, _, _]] ?_
          refine zLI ?_
          refine zn ?_
          refine zs ?_
          refine zs ?_
          refine zR ?_
          refine zLI ?_
          refine zLB ?_
          refine zn ?_
          refine W_cond (b := _) rfl (fun h78 => ?_) (fun h78 => ?_)
          · have q5 : op5 o l = true := h78
            refine zs ?_
            refine zR ?_
            refine zLG [.int _ _, .int _ _, .int _ _] ?_
            refine zLI ?_
            refine zst (.agg [.int _ _, .int _ _, .int _ _]) [_, _, _] [[_, _, _]] ?_
            refine zLI ?_
            refine zn ?_
            refine zt ?_
            refine ends (l := [.agg [.int _ _, .int _ _, .int _ _], .int _ _]) (q := .tup [.agg [.int _ _, .int _ _, .int _ _], .int _ _]) (.inr rfl) rfl ⟨rfl, trivial, trivial⟩ rfl rfl ?_
            simp [opS, opE, shapeC, *]
          · have q5 : op5 o l = false := h78
            have e5 : mkE o (inA o l) = 0 := by simpa [op5] using q5
            refine zk ?_
            refine zs ?_
            refine zs ?_
            refine W_draw 17 Tb_mixed rfl (by decide) (by kernel_rfl) (by kernel_rfl) ?_
            refine zEP ?_
            refine zEI ?_
            refine zEB ?_
            refine zEB ?_
            refine zgEO ?_
            refine zgEP ?_
            refine zgEI ?_
            (refine E_g Tb_ok (v := _) rfl rfl ((fun hg => (ave_index_ro rfl rfl rfl (fun _ => rfl) rfl (by (have hb := a2 (by rw [(ofU_b hk).1]; simpa using hg)); first | exact hb.1 | exact hb.2 | (rw [List.length_map]; exact hb.2)) (by (have hb := a2 (by rw [(ofU_b hk).1]; simpa using hg)); first | exact hb.1 | exact hb.2 | (rw [List.length_map]; exact hb.2)) ⟨⟨(by first | exact hg | (simp_all; done) | (simp at hg ⊢; simp [hg])), True.intro⟩, ⟨⟨(by first | exact hg | (simp_all; done) | (simp at hg ⊢; simp [hg])), True.intro⟩, True.intro⟩⟩))) rfl rfl ?_)
            refine zgEG [.int _ _, .int _ _, .int _ _] ?_
            refine zgEG [.int _ _, .int _ _, .int _ _] ?_
            refine zgEB ?_
            refine zpEB ?_
            refine zEB ?_
            refine zgEG [.int _ _, .int _ _, .int _ _] ?_
            refine E_callg (hr := fun hg => ref05_Valid (mkS o (inA o l))) rfl rfl rfl rfl rfl (fun hg => ⟨⟨(by exact hg), True.intro⟩, True.intro⟩) rfl rfl ?_
            refine zgEB ?_
            refine zpEB ?_
            refine LexE_nil ?_
            refine zn ?_
            refine W_cond (b := _) rfl (fun h97 => ?_) (fun h97 => ?_)
            · have q6 : op6 o l = true := by rw [r6_eq hk]; exact h97
              refine zs ?_
              refine zR ?_
              refine zLG [.int _ _, .int _ _, .int _ _] ?_
              refine zst (.agg [.int _ _, .int _ _, .int _ _]) [_, _, _] [[_, _, _]] ?_
              refine zLI ?_
              refine zn ?_
              refine zt ?_
              refine ends (l := [.agg [.int _ _, .int _ _, .int _ _], .int _ _]) (q := .tup [.agg [.int _ _, .int _ _, .int _ _], .int _ _]) (.inr rfl) rfl ⟨rfl, trivial, trivial⟩ rfl rfl ?_
              simp [opS, opE, shapeC, *]
            · have q6 : op6 o l = false := by rw [r6_eq hk]; exact h97
              refine zk ?_
              refine zs ?_
              refine zs ?_
              refine zR ?_
              refine zLP ?_
              refine zLI ?_
              refine zLc (ref08_Reduces _) ?_
              refine zLB ?_
              refine zgLG [.int _ _, .int _ _, .int _ _, .int _ _, .int _ _, .int _ _, .int _ _, .int _ _, .int _ _, .int _ _, .int _ _, .int _ _, _, _, .int _ _, .int _ _, .int _ _, .int _ _, .int _ _, .int _ _, .int _ _, .int _ _] ?_
              refine zgLG [.int _ _, .int _ _, .int _ _] ?_
              refine L_callg (hr := fun hg => ref08_Length o (inA o l)) rfl rfl rfl rfl rfl (fun hg => ⟨⟨(by exact hg), True.intro⟩, ⟨⟨(by exact hg), True.intro⟩, True.intro⟩⟩) rfl rfl ?_
              refine zgLB ?_
              refine zpLB ?_
              refine zn ?_
              refine W_cond (b := _) rfl (fun h107 => ?_) (fun h107 => ?_)
              · have q7 : op7 o l = true := by rw [r7_eq hk e5]; exact h107
                refine zs ?_
                refine zR ?_
                refine zLG [.int _ _, .int _ _, .int _ _] ?_
                refine zst (.agg [.int _ _, .int _ _, .int _ _]) [_, _, _] [[_, _, _]] ?_
                refine zLI ?_
                refine zn ?_
                refine zt ?_
                refine ends (l := [.agg [.int _ _, .int _ _, .int _ _], .int _ _]) (q := .tup [.agg [.int _ _, .int _ _, .int _ _], .int _ _]) (.inr rfl) rfl ⟨rfl, trivial, trivial⟩ rfl rfl ?_
                simp [opS, opE, shapeC, *]
              · have q7 : op7 o l = false := by rw [r7_eq hk e5]; exact h107
                refine zk ?_
                refine zs ?_
                refine zR ?_
                refine zLG [.int _ _, .int _ _, .int _ _, .int _ _, .int _ _, .int _ _, .int _ _, .int _ _, .int _ _, .int _ _, .int _ _, .int _ _, _, _, .int _ _, .int _ _, .int _ _, .int _ _, .int _ _, .int _ _, .int _ _, .int _ _] ?_
                refine zLG [.int _ _, .int _ _, .int _ _] ?_
                refine zLc (ref08_Lists o (inA o l)) ?_
                refine zLT [_, _] ?_
                refine zLI ?_
                refine zLI ?_
                refine zLI ?_
                refine zLI ?_
                refine zn ?_
                refine zs ?_
                refine zs ?_
                refine zR ?_
                refine zLP ?_
                refine zLO ?_
                refine zLI ?_
                refine zLI ?_
                refine zLB ?_
                refine zLB ?_
                refine zgLP ?_
                refine zgLO ?_
                refine zgLI ?_
                refine zgLI ?_
                refine zgLB ?_
                refine zpLB ?_
                refine zn ?_
                refine W_cond (b := _) rfl (fun h126 => ?_) (fun h126 => ?_)
                · have q8 : op8 o l = true := by rw [r8_eq hk e5]; exact h126
                  refine zs ?_
                  refine zR ?_
                  refine zLG [.int _ _, .int _ _, .int _ _] ?_
                  refine zst (.agg [.int _ _, .int _ _, .int _ _]) [_, _, _] [[_, _, _]] ?_
                  refine zLI ?_
                  refine zn ?_
                  refine zt ?_
                  refine ends (l := [.agg [.int _ _, .int _ _, .int _ _], .int _ _]) (q := .tup [.agg [.int _ _, .int _ _, .int _ _], .int _ _]) (.inr rfl) rfl ⟨rfl, trivial, trivial⟩ rfl rfl ?_
                  simp [opS, opE, shapeC, *]
                · have q8 : op8 o l = false := by rw [r8_eq hk e5]; exact h126
                  refine zk ?_
                  refine zs ?_
                  refine zs ?_
                  refine zR ?_
                  refine zLP ?_
                  refine zLI ?_
                  refine zLc (ref08_Scales _) ?_
                  refine zLB ?_
                  refine zgLP ?_
                  refine zgLP ?_
                  refine zgLI ?_
                  refine zgLP ?_
                  refine zgLP ?_
                  refine zgLI ?_
                  refine L_callg (hr := fun hg => ref02_Valid _ _) rfl rfl rfl rfl rfl (fun hg => ⟨⟨(by exact hg), True.intro⟩, ⟨⟨(by exact hg), True.intro⟩, True.intro⟩⟩) rfl rfl ?_
                  refine zgLB ?_
                  refine zpLB ?_
                  refine zLB ?_
                  refine zgLP ?_
                  refine zgLI ?_
                  refine zgLB ?_
                  refine zgLB ?_
                  refine zgLP ?_
                  refine zgLP ?_
                  refine zgLI ?_
                  refine zgLP ?_
                  refine zgLP ?_
                  refine zgLI ?_
                  refine L_callg (hr := fun hg => ref02_Valid _ _) rfl rfl rfl rfl rfl (fun hg => ⟨⟨(by exact hg), True.intro⟩, ⟨⟨(by exact hg), True.intro⟩, True.intro⟩⟩) rfl rfl ?_
                  refine zgLB ?_
                  refine zqLB ?_
                  refine zpLB ?_
                  refine zn ?_
                  refine W_cond (b := _) rfl (fun h155 => ?_) (fun h155 => ?_)
                  · have q9 : op9 o = true := by rw [r9_eq hk]; exact h155
                    refine zs ?_
                    refine zR ?_
                    refine zLG [.int _ _, .int _ _, .int _ _] ?_
                    refine zst (.agg [.int _ _, .int _ _, .int _ _]) [_, _, _] [[_, _, _]] ?_
                    refine zLI ?_
                    refine zn ?_
                    refine zt ?_
                    refine ends (l := [.agg [.int _ _, .int _ _, .int _ _], .int _ _]) (q := .tup [.agg [.int _ _, .int _ _, .int _ _], .int _ _]) (.inr rfl) rfl ⟨rfl, trivial, trivial⟩ rfl rfl ?_
                    simp [opS, opE, shapeC, *]
                  · have q9 : op9 o = false := by rw [r9_eq hk]; exact h155
                    refine zk ?_
                    refine zs ?_
                    refine zs ?_
                    refine zR ?_
                    refine zLP ?_
                    refine zLI ?_
                    refine zLc (ref08_values _) ?_
                    refine zLB ?_
                    refine zLB ?_
                    refine zgLP ?_
                    refine zgLI ?_
                    refine L_callg (hr := fun hg => ref08_values _) rfl rfl rfl rfl rfl (fun hg => ⟨⟨(by exact hg), True.intro⟩, True.intro⟩) rfl rfl ?_
                    refine zgLB ?_
                    refine zpLB ?_
                    refine zLB ?_
                    refine zgLP ?_
                    refine zgLI ?_
                    refine zgLP ?_
                    refine zgLI ?_
                    refine zgLB ?_
                    refine zpLB ?_
                    refine zLB ?_
                    refine zgLP ?_
                    refine zgLI ?_
                    refine L_callg (hr := fun hg => ref08_values _) rfl rfl rfl rfl rfl (fun hg => ⟨⟨(by exact hg), True.intro⟩, True.intro⟩) rfl rfl ?_
                    refine zgLB ?_
                    refine zpLB ?_
                    refine zLB ?_
                    refine zgLP ?_
                    refine zgLI ?_
                    refine L_callg (hr := fun hg => ref08_values _) rfl rfl rfl rfl rfl (fun hg => ⟨⟨(by exact hg), True.intro⟩, True.intro⟩) rfl rfl ?_
                    refine zgLB ?_
                    refine zpLB ?_
                    refine zn ?_
                    refine W_cond (b := _) rfl (fun h185 => ?_) (fun h185 => ?_)
                    · have q10 : op10 o = true := by rw [r10_eq]; exact h185
                      refine zs ?_
                      refine zR ?_
                      refine zLG [.int _ _, .int _ _, .int _ _] ?_
                      refine zst (.agg [.int _ _, .int _ _, .int _ _]) [_, _, _] [[_, _, _]] ?_
                      refine zLI ?_
                      refine zn ?_
                      refine zt ?_
                      refine ends (l := [.agg [.int _ _, .int _ _, .int _ _], .int _ _]) (q := .tup [.agg [.int _ _, .int _ _, .int _ _], .int _ _]) (.inr rfl) rfl ⟨rfl, trivial, trivial⟩ rfl rfl ?_
                      simp [opS, opE, shapeC, *]
                    · have q10 : op10 o = false := by rw [r10_eq]; exact h185
                      refine zk ?_
                      refine zs ?_
                      refine zR ?_
                      refine zLG [.int _ _, .int _ _, .int _ _] ?_
                      refine zst (.agg [.int _ _, .int _ _, .int _ _]) [_, _, _] [[_, _, _]] ?_
                      refine zLI ?_
                      refine zn ?_
                      refine zt ?_
                      refine ends (l := [.agg [.int _ _, .int _ _, .int _ _], .int _ _]) (q := .tup [.agg [.int _ _, .int _ _, .int _ _], .int _ _]) (.inr rfl) rfl ⟨rfl, trivial, trivial⟩ rfl rfl ?_
                      simp [opS, opE, shapeC, *]
end Go.AM
end
section
open Go Go.AM Go.Proofs
set_option maxRecDepth 10000
set_option linter.unusedVariables false
set_option linter.unusedSimpArgs false
namespace Go.AM
theorem w64_add (x q : Int) : w64 (x + 18446744073709551616 * q) = w64 x := by unfold w64; rw [IntKind.wrap_i64, IntKind.wrap_i64]; omega
theorem w64_form (x : Int) : ∃ q, w64 x = x + 18446744073709551616 * q := by
  unfold w64; rw [IntKind.wrap_i64]
  exact ⟨-((x + 9223372036854775808) / 18446744073709551616), by omega⟩
theorem w64_mul (a b : Int) : w64 (w64 a * b) = w64 (a * b) := by
  obtain ⟨q, hq⟩ := w64_form a
  rw [hq, Int.add_mul, Int.mul_assoc]; exact w64_add _ _
theorem w64_mul' (a b : Int) : w64 (a * w64 b) = w64 (a * b) := by rw [Int.mul_comm, w64_mul, Int.mul_comm]
theorem w64_w64 (a : Int) : w64 (w64 a) = w64 a := by have := w64_mul a 1; simpa using this
theorem opE_kind {o : MOp} {l : List Shape} (h : opE o l = 0) : inB o.Kind 1 8 = true := by simpa [op1] using (opE_ok h).1
theorem lab_eq {o : MOp} {l : List Shape} (h : opE o l = 0) : labF o (inA o l) (opS o l) = opW o l := by
  have hk := opE_kind h
  obtain ⟨h1, h2, h3, h4, h5, h6, h7, h8, h9, h10⟩ := opE_ok h
  have e5 : op5 o l = false := by simp [op5, h5]
  have eW : opW o l = mkW o (inA o l) := by simp [opW, h1, h2, h3, h4, e5, h6, h7, h8, h9, h10]
  rw [opS_ok h, eW]
  generalize inA o l = a at *
  have eL := mkL_eq hk h5
  unfold labF mkW mkT elems
  rw [if_pos h5, eL]
  unfold lenF mkX
  rcases kinds8 hk with k | k | k | k | k | k | k | k <;> simp [k, inB, ofU] <;> simp only [w64_mul, w64_mul', w64_w64, Int.mul_assoc]
theorem lens_wf {m : Model} (hm : m.Wf) (i : Nat) : ((m.Ops.getD i default).Weights.length : Int) + (m.Ops.getD i default).Bias.length ≤ 4611686018427387904 := by
  rw [List.getD_eq_getElem?_getD]
  cases hq : m.Ops[i]? with
  | none => show ((0 : Nat) : Int) + ((0 : Nat) : Int) ≤ _; omega
  | some o =>
    obtain ⟨_, _, _, _, _, h1, h2, _⟩ := hm.2.2.2.1.2 o (List.mem_of_getElem? hq)
    have b1 := h1.1
    have b2 := h2.1
    have : reachBytes < 140737488355328 := by decide
    show (o.Weights.length : Int) + o.Bias.length ≤ _
    omega
theorem wh2_eq (m : Model) : (bif bif !inB m.Lo (-128) 127 then true else !inB m.Hi (-128) 127 then true else decide (m.Lo > m.Hi)) = wh2 m := by
  unfold wh2 bytesB
  simp only [List.all_cons, List.all_nil, Bool.and_true]
  cases inB m.Lo (-128) 127 <;> cases inB m.Hi (-128) 127 <;> cases decide (m.Lo > m.Hi) <;> rfl
theorem wh1_eq (m : Model) : (!shapeB m.In) = wh1 m := by unfold wh1 shapeE; cases shapeB m.In <;> rfl
theorem ref08_Look (m : Model) (hm : m.Wf) : Ok Try.prog 21 [.agg (modelC m)] (.tup [.ro ((wholeF m).1.map shapeC), .int .i64 (wholeF m).2.1, .agg (faultC (wholeF m).2.2)]) := by
  cases h1 : wh1 m with
  | true =>
    have hc15 := h1; rw [← wh1_eq] at hc15
    have he : shapeE m.In = 50 := by unfold shapeE; simp at hc15; rw [hc15]; rfl
    --@@1
    skip
    refine fn_ok Tb_ok (fn := Try.f21) Try.func21 rfl rfl (e := [(0, _)]) rfl (by decide) rfl ?_
    refine zs ?_
    refine zR ?_
    refine zbx [.int _ _, .int _ _, .int _ _, .int _ _, .int _ _, _, .int _ _] 7 ?_
    refine zLN ?_
    refine zLI ?_
    refine zal [.int .i64 0, .int .i64 0, .int .i64 0] 3 ?_
    refine zn ?_
    refine zs ?_
    refine zR ?_
    refine zLI ?_
    refine zn ?_
    refine zs ?_
    refine zs ?_
    refine zR ?_
    refine zLP ?_
    refine zLG [.int _ _, .int _ _, .int _ _] ?_
    refine zLc (ref05_Valid m.In) ?_
    refine zLB ?_
    refine zn ?_
    refine W_cond_t (b := _) rfl (by exact hc15) ?_
    refine zR ?_
    refine zLI ?_
    refine zn ?_
    refine zs ?_
    refine zs ?_
    refine zR ?_
    refine zLI ?_
    refine zLB ?_
    refine zn ?_
    refine W_cond_t (b := _) rfl (by rfl) ?_
    refine zs ?_
    refine zR ?_
    refine zLI ?_
    refine zLG [.int _ _, .int _ _, .int _ _] ?_
    refine zLN ?_
    refine zLI ?_
    refine zst (.agg [.int _ _, .int _ _, .int _ _]) [_, _, _] [[_, _, _]] ?_
    refine zn ?_
    refine zt ?_
    (refine ends (l := [.nils, .int _ _, .agg [.int _ _, .int _ _, .int _ _]]) (q := .tup [.ro _, .int _ _, .agg [.int _ _, .int _ _, .int _ _]]) (.inr rfl) rfl ⟨trivial, trivial, rfl, trivial⟩ rfl rfl ?_)
    simp [wholeF, h1, faultC, he]
  | false =>
  have hc15 := h1; rw [← wh1_eq] at hc15
  cases h2 : wh2 m with
  | true =>
    have hc32 := h2; rw [← wh2_eq] at hc32
    --@@2
    skip
    refine fn_ok Tb_ok (fn := Try.f21) Try.func21 rfl rfl (e := [(0, _)]) rfl (by decide) rfl ?_
    refine zs ?_
    refine zR ?_
    refine zbx [.int _ _, .int _ _, .int _ _, .int _ _, .int _ _, _, .int _ _] 7 ?_
    refine zLN ?_
    refine zLI ?_
    refine zal [.int .i64 0, .int .i64 0, .int .i64 0] 3 ?_
    refine zn ?_
    refine zs ?_
    refine zR ?_
    refine zLI ?_
    refine zn ?_
    refine zs ?_
    refine zs ?_
    refine zR ?_
    refine zLP ?_
    refine zLG [.int _ _, .int _ _, .int _ _] ?_
    refine zLc (ref05_Valid m.In) ?_
    refine zLB ?_
    refine zn ?_
    refine W_cond_f (b := _) rfl (by exact hc15) ?_
    refine zs ?_
    refine zR ?_
    refine zLP ?_
    refine zLI ?_
    refine zLc (ref08_values _) ?_
    refine zLB ?_
    refine zLB ?_
    refine zgLP ?_
    refine zgLI ?_
    refine L_callg (hr := fun hg => ref08_values _) rfl rfl rfl rfl rfl (fun hg => ⟨⟨(by exact hg), True.intro⟩, True.intro⟩) rfl rfl ?_
    refine zgLB ?_
    refine zpLB ?_
    refine zLB ?_
    refine zgLP ?_
    refine zgLI ?_
    refine zgLP ?_
    refine zgLI ?_
    refine zgLB ?_
    refine zpLB ?_
    refine zn ?_
    refine W_cond_t (b := _) rfl (by exact hc32) ?_
    refine zR ?_
    refine zLI ?_
    refine zn ?_
    refine zs ?_
    refine zs ?_
    refine zR ?_
    refine zLI ?_
    refine zLB ?_
    refine zn ?_
    refine W_cond_t (b := _) rfl (by rfl) ?_
    refine zs ?_
    refine zR ?_
    refine zLI ?_
    refine zLG [.int _ _, .int _ _, .int _ _] ?_
    refine zLN ?_
    refine zLI ?_
    refine zst (.agg [.int _ _, .int _ _, .int _ _]) [_, _, _] [[_, _, _]] ?_
    refine zn ?_
    refine zt ?_
    (refine ends (l := [.nils, .int _ _, .agg [.int _ _, .int _ _, .int _ _]]) (q := .tup [.ro _, .int _ _, .agg [.int _ _, .int _ _, .int _ _]]) (.inr rfl) rfl ⟨trivial, trivial, rfl, trivial⟩ rfl rfl ?_)
    simp [wholeF, h1, h2, faultC]
  | false =>
  have hc32 := h2; rw [← wh2_eq] at hc32
  cases h3 : wh3 m with
  | true =>
    have hc36 : decide (((m.Ops.map opC).length : Int) > 64) = true := h3
    --@@3
    skip
    refine fn_ok Tb_ok (fn := Try.f21) Try.func21 rfl rfl (e := [(0, _)]) rfl (by decide) rfl ?_
    refine zs ?_
    refine zR ?_
    refine zbx [.int _ _, .int _ _, .int _ _, .int _ _, .int _ _, _, .int _ _] 7 ?_
    refine zLN ?_
    refine zLI ?_
    refine zal [.int .i64 0, .int .i64 0, .int .i64 0] 3 ?_
    refine zn ?_
    refine zs ?_
    refine zR ?_
    refine zLI ?_
    refine zn ?_
    refine zs ?_
    refine zs ?_
    refine zR ?_
    refine zLP ?_
    refine zLG [.int _ _, .int _ _, .int _ _] ?_
    refine zLc (ref05_Valid m.In) ?_
    refine zLB ?_
    refine zn ?_
    refine W_cond_f (b := _) rfl (by exact hc15) ?_
    refine zs ?_
    refine zR ?_
    refine zLP ?_
    refine zLI ?_
    refine zLc (ref08_values _) ?_
    refine zLB ?_
    refine zLB ?_
    refine zgLP ?_
    refine zgLI ?_
    refine L_callg (hr := fun hg => ref08_values _) rfl rfl rfl rfl rfl (fun hg => ⟨⟨(by exact hg), True.intro⟩, True.intro⟩) rfl rfl ?_
    refine zgLB ?_
    refine zpLB ?_
    refine zLB ?_
    refine zgLP ?_
    refine zgLI ?_
    refine zgLP ?_
    refine zgLI ?_
    refine zgLB ?_
    refine zpLB ?_
    refine zn ?_
    refine W_cond_f (b := _) rfl (by exact hc32) ?_
    refine zs ?_
    refine zR ?_
    refine zLP ?_
    refine zLO ?_
    refine zLI ?_
    refine zLB ?_
    refine zn ?_
    refine W_cond_t (b := _) rfl (by exact hc36) ?_
    refine zR ?_
    refine zLI ?_
    refine zn ?_
    refine zs ?_
    refine zs ?_
    refine zR ?_
    refine zLI ?_
    refine zLB ?_
    refine zn ?_
    refine W_cond_t (b := _) rfl (by rfl) ?_
    refine zs ?_
    refine zR ?_
    refine zLI ?_
    refine zLG [.int _ _, .int _ _, .int _ _] ?_
    refine zLN ?_
    refine zLI ?_
    refine zst (.agg [.int _ _, .int _ _, .int _ _]) [_, _, _] [[_, _, _]] ?_
    refine zn ?_
    refine zt ?_
    (refine ends (l := [.nils, .int _ _, .agg [.int _ _, .int _ _, .int _ _]]) (q := .tup [.ro _, .int _ _, .agg [.int _ _, .int _ _, .int _ _]]) (.inr rfl) rfl ⟨trivial, trivial, rfl, trivial⟩ rfl rfl ?_)
    simp [wholeF, h1, h2, h3, faultC]
  | false =>
  have hc36 : decide (((m.Ops.map opC).length : Int) > 64) = false := h3
  cases h4 : wh4 m with
  | true =>
    have hc47 : (bif decide (m.Out < 0) then true else decide (m.Out > ((m.Ops.map opC).length : Int))) = true := h4
    --@@4
    skip
    refine fn_ok Tb_ok (fn := Try.f21) Try.func21 rfl rfl (e := [(0, _)]) rfl (by decide) rfl ?_
    refine zs ?_
    refine zR ?_
    refine zbx [.int _ _, .int _ _, .int _ _, .int _ _, .int _ _, _, .int _ _] 7 ?_
    refine zLN ?_
    refine zLI ?_
    refine zal [.int .i64 0, .int .i64 0, .int .i64 0] 3 ?_
    refine zn ?_
    refine zs ?_
    refine zR ?_
    refine zLI ?_
    refine zn ?_
    refine zs ?_
    refine zs ?_
    refine zR ?_
    refine zLP ?_
    refine zLG [.int _ _, .int _ _, .int _ _] ?_
    refine zLc (ref05_Valid m.In) ?_
    refine zLB ?_
    refine zn ?_
    refine W_cond_f (b := _) rfl (by exact hc15) ?_
    refine zs ?_
    refine zR ?_
    refine zLP ?_
    refine zLI ?_
    refine zLc (ref08_values _) ?_
    refine zLB ?_
    refine zLB ?_
    refine zgLP ?_
    refine zgLI ?_
    refine L_callg (hr := fun hg => ref08_values _) rfl rfl rfl rfl rfl (fun hg => ⟨⟨(by exact hg), True.intro⟩, True.intro⟩) rfl rfl ?_
    refine zgLB ?_
    refine zpLB ?_
    refine zLB ?_
    refine zgLP ?_
    refine zgLI ?_
    refine zgLP ?_
    refine zgLI ?_
    refine zgLB ?_
    refine zpLB ?_
    refine zn ?_
    refine W_cond_f (b := _) rfl (by exact hc32) ?_
    refine zs ?_
    refine zR ?_
    refine zLP ?_
    refine zLO ?_
    refine zLI ?_
    refine zLB ?_
    refine zn ?_
    refine W_cond_f (b := _) rfl (by exact hc36) ?_
    refine zs ?_
    refine zR ?_
    refine zLP ?_
    refine zLI ?_
    refine zLB ?_
    refine zLB ?_
    refine zgLP ?_
    refine zgLI ?_
    refine zgLP ?_
    refine zgLO ?_
    refine zgLI ?_
    refine zgLB ?_
    refine zpLB ?_
    refine zn ?_
    refine W_cond_t (b := _) rfl (by exact hc47) ?_
    refine zR ?_
    refine zLI ?_
    refine zn ?_
    refine zs ?_
    refine zs ?_
    refine zR ?_
    refine zLI ?_
    refine zLB ?_
    refine zn ?_
    refine W_cond_t (b := _) rfl (by rfl) ?_
    refine zs ?_
    refine zR ?_
    refine zLI ?_
    refine zLG [.int _ _, .int _ _, .int _ _] ?_
    refine zLN ?_
    refine zLI ?_
    refine zst (.agg [.int _ _, .int _ _, .int _ _]) [_, _, _] [[_, _, _]] ?_
    refine zn ?_
    refine zt ?_
    (refine ends (l := [.nils, .int _ _, .agg [.int _ _, .int _ _, .int _ _]]) (q := .tup [.ro _, .int _ _, .agg [.int _ _, .int _ _, .int _ _]]) (.inr rfl) rfl ⟨trivial, trivial, rfl, trivial⟩ rfl rfl ?_)
    simp [wholeF, h1, h2, h3, h4, faultC]
  | false =>
  have hc47 : (bif decide (m.Out < 0) then true else decide (m.Out > ((m.Ops.map opC).length : Int))) = false := h4
  have hn : m.Ops.length ≤ 64 := by rw [List.length_map] at hc36; have := of_decide_eq_false hc36; omega
  have w0 : wholeF m = wgo (m.Ops.drop 0) 0 [m.In] 0 := by simp [wholeF, h1, h2, h3, h4]
  --@@5
  skip
  refine fn_ok Tb_ok (fn := Try.f21) Try.func21 rfl rfl (e := [(0, _)]) rfl (by decide) rfl ?_
  refine zs ?_
  refine zR ?_
  refine zbx [.int _ _, .int _ _, .int _ _, .int _ _, .int _ _, _, .int _ _] 7 ?_
  refine zLN ?_
  refine zLI ?_
  refine zal [.int .i64 0, .int .i64 0, .int .i64 0] 3 ?_
  refine zn ?_
  refine zs ?_
  refine zR ?_
  refine zLI ?_
  refine zn ?_
  refine zs ?_
  refine zs ?_
  refine zR ?_
  refine zLP ?_
  refine zLG [.int _ _, .int _ _, .int _ _] ?_
  refine zLc (ref05_Valid m.In) ?_
  refine zLB ?_
  refine zn ?_
  refine W_cond_f (b := _) rfl (by exact hc15) ?_
  refine zs ?_
  refine zR ?_
  refine zLP ?_
  refine zLI ?_
  refine zLc (ref08_values _) ?_
  refine zLB ?_
  refine zLB ?_
  refine zgLP ?_
  refine zgLI ?_
  refine L_callg (hr := fun hg => ref08_values _) rfl rfl rfl rfl rfl (fun hg => ⟨⟨(by exact hg), True.intro⟩, True.intro⟩) rfl rfl ?_
  refine zgLB ?_
  refine zpLB ?_
  refine zLB ?_
  refine zgLP ?_
  refine zgLI ?_
  refine zgLP ?_
  refine zgLI ?_
  refine zgLB ?_
  refine zpLB ?_
  refine zn ?_
  refine W_cond_f (b := _) rfl (by exact hc32) ?_
  refine zs ?_
  refine zR ?_
  refine zLP ?_
  refine zLO ?_
  refine zLI ?_
  refine zLB ?_
  refine zn ?_
  refine W_cond_f (b := _) rfl (by exact hc36) ?_
  refine zs ?_
  refine zR ?_
  refine zLP ?_
  refine zLI ?_
  refine zLB ?_
  refine zLB ?_
  refine zgLP ?_
  refine zgLI ?_
  refine zgLP ?_
  refine zgLO ?_
  refine zgLI ?_
  refine zgLB ?_
  refine zpLB ?_
  refine zn ?_
  refine W_cond_f (b := _) rfl (by exact hc47) ?_
  refine zk ?_
  refine zs ?_
  refine zs ?_
  refine zR ?_
  refine zLI ?_
  refine zLB ?_
  refine zn ?_
  refine W_cond_f (b := _) rfl (by rfl) ?_
  refine zk ?_
  refine zs ?_
  refine zR ?_
  refine zLP ?_
  refine zLG [.int _ _, .int _ _, .int _ _] ?_
  refine L_build Tb_ok (t := 72) (len := 1) (el := 23) (sz := 3) (es := [[_, _, _]]) (z := [.int .i64 0, .int .i64 0, .int .i64 0]) rfl rfl rfl rfl rfl (by decide) trivial rfl rfl rfl rfl rfl ?_
  refine zLW ?_
  refine zn ?_
  refine zs ?_
  refine zR ?_
  refine zLI ?_
  refine zn ?_
  refine zs ?_
  refine zs ?_
  refine zR ?_
  refine zLP ?_
  refine zLO ?_
  refine zLI ?_
  refine zLI ?_
  refine zn ?_
  refine W_block ?_
  refine W_tok (t := 6) (id := 2) (ty := 23) (sz := 3) (fz := 0) (es := [shapeC m.In]) (l := [shapeC m.In]) rfl rfl rfl rfl rfl rfl rfl ?_
  refine W_inv (ι := WI m) (fun i => ⟨[(1, .ptr 0 0 0), (4, .ptr 1 0 0), (6, .app 3 (i.l.map shapeC)), (7, .int .i64 i.s), (56, .ro (m.Ops.map opC)), (57, .int .i64 ((m.Ops.map opC).length : Int)), (58, .int .i64 (i.k : Int))], [(0, some ⟨26, 7, 0, [modelC m]⟩), (1, some ⟨51, 3, 0, [[.int .i64 0, .int .i64 0, .int .i64 0]]⟩)], [(3, some (23, 3, i.l.length))], 4⟩) (fun i => m.Ops.length - i.k) ⟨0, [m.In], 0, Nat.zero_le _, rfl, hn, w0⟩ (le_fit ⟨rfl, rfl, rfl, rfl, rfl, rfl, rfl, trivial⟩ ⟨.inr rfl, .inr rfl, trivial⟩ ⟨.inr rfl, trivial⟩ rfl rfl rfl rfl rfl) ?_
  rintro ⟨k, l, s, hk, hl, hmm, hw⟩
  have hkl : IntKind.i64.wrap ((k : Int) + 1) = (l.length : Int) := by rw [hl, w64_id (by omega)]; omega
  refine zs ?_
  refine zR ?_
  refine zLB ?_
  refine zn ?_
  refine zs ?_
  refine W_cond (b := _) rfl (fun h59 => ?_) (fun h59 => ?_)
  · have hlt : k < m.Ops.length := by simpa using h59
    refine zk ?_
    refine zs ?_
    refine W_block ?_
    refine zs ?_
    refine zR ?_
    refine zLI ?_
    (refine L_v Tb_ok (v := _) (ave_index_ro rfl rfl rfl (fun _ => rfl) rfl (by first | omega | assumption | decide | (simp_all; done) | (simp_all; omega)) (by first | omega | assumption | decide | (simp_all; done) | (simp_all; omega)) trivial) rfl ?_)
    refine zLG [.int _ _, .int _ _, .int _ _, .int _ _, .int _ _, .int _ _, .int _ _, .int _ _, .int _ _, .int _ _, .int _ _, .int _ _, _, _, .int _ _, .int _ _, .int _ _, .int _ _, .int _ _, .int _ _, .int _ _, .int _ _] ?_
    refine zal [.int .i64 0, .int .i64 0, .int .i64 0, .int .i64 0, .int .i64 0, .int .i64 0, .int .i64 0, .int .i64 0, .int .i64 0, .int .i64 0, .int .i64 0, .int .i64 0, .nils, .nils, .int .i64 0, .int .i64 0, .int .i64 0, .int .i64 0, .int .i64 0, .int .i64 0, .int .i64 0, .int .i64 0] 22 ?_
    refine zLI ?_
    refine zst (.agg [.int _ _, .int _ _, .int _ _, .int _ _, .int _ _, .int _ _, .int _ _, .int _ _, .int _ _, .int _ _, .int _ _, .int _ _, _, _, .int _ _, .int _ _, .int _ _, .int _ _, .int _ _, .int _ _, .int _ _, .int _ _]) [_, _, _, _, _, _, _, _, _, _, _, _, _, _, _, _, _, _, _, _, _, _] [[_, _, _, _, _, _, _, _, _, _, _, _, _, _, _, _, _, _, _, _, _, _]] ?_
    refine zn ?_
    refine zs ?_
    refine zR ?_
    refine zLG [.int _ _, .int _ _, .int _ _, .int _ _, .int _ _, .int _ _, .int _ _, .int _ _, .int _ _, .int _ _, .int _ _, .int _ _, _, _, .int _ _, .int _ _, .int _ _, .int _ _, .int _ _, .int _ _, .int _ _, .int _ _] ?_
    refine zLI ?_
    refine zLI ?_
    refine zLA ?_
    refine zLc ((show Ok Try.prog 50 [.agg (opC (m.Ops.getD ((k : Nat) : Int).toNat default)), .int .i64 (IntKind.i64.wrap ((k : Int) + 1)), .ro (l.map shapeC)] _ from by rw [hkl]; exact ref08_one (m.Ops.getD k default) l (lens_wf hm k))) ?_
    refine zLT [_, _] ?_
    refine zLG [.int _ _, .int _ _, .int _ _] ?_
    refine zLI ?_
    refine zal [.int .i64 0, .int .i64 0, .int .i64 0] 3 ?_
    refine zst (.agg [.int _ _, .int _ _, .int _ _]) [_, _, _] [[_, _, _]] ?_
    refine zLI ?_
    refine zn ?_
    refine zs ?_
    refine zs ?_
    refine zR ?_
    refine zLI ?_
    refine zLB ?_
    refine zn ?_
    refine W_cond (b := _) rfl (fun h72 => ?_) (fun h72 => ?_)
    · refine zs ?_
      refine zR ?_
      refine zLI ?_
      refine zLI ?_
      refine zLI ?_
      refine zLG [.int _ _, .int _ _, .int _ _] ?_
      refine zLN ?_
      refine zLI ?_
      refine zst (.agg [.int _ _, .int _ _, .int _ _]) [_, _, _] [[_, _, _]] ?_
      refine zn ?_
      refine zt ?_
      (refine ends (l := [.nils, .int _ _, .agg [.int _ _, .int _ _, .int _ _]]) (q := .tup [.ro _, .int _ _, .agg [.int _ _, .int _ _, .int _ _]]) (.inr rfl) rfl ⟨trivial, trivial, rfl, trivial⟩ rfl rfl ?_)
      have hne : (opE (m.Ops.getD k default) l != 0) = true := h72
      have hq : (opE (m.Ops.getD k default) l == 0) = false := by simpa [bne] using hne
      have hw1 : werr (m.Ops.getD k default) l s = opE (m.Ops.getD k default) l := werr_ok (by unfold wbig; rw [hq]; rfl)
      rw [hw, wgo_bad hlt hw1 hne]; rfl
    · have hz : opE (m.Ops.getD k default) l = 0 := by simpa using h72
      have hlab := lab_eq hz
      obtain ⟨a0, a1, _⟩ := op2_ok (opE_ok hz).2.1
      refine zk ?_
      refine zs ?_
      refine W_draw 11 Tb_mixed rfl (by decide) (by kernel_rfl) (by kernel_rfl) ?_
      refine zEI ?_
      refine zEG [.int _ _, .int _ _, .int _ _, .int _ _, .int _ _, .int _ _, .int _ _, .int _ _, .int _ _, .int _ _, .int _ _, .int _ _, _, _, .int _ _, .int _ _, .int _ _, .int _ _, .int _ _, .int _ _, .int _ _, .int _ _] ?_
      refine zEA ?_
      refine zEP ?_
      refine zEI ?_
      (refine E_v Tb_ok (v := _) (ave_index_app rfl rfl rfl (fun _ => rfl) rfl (by first | exact a0 | exact a1 | (rw [List.length_map]; exact a1)) (by first | exact a0 | exact a1 | (rw [List.length_map]; exact a1)) trivial) rfl ?_)
      refine zEG [.int _ _, .int _ _, .int _ _] ?_
      refine zEG [.int _ _, .int _ _, .int _ _] ?_
      refine zEc (ref08_Labour (m.Ops.getD k default) (inA (m.Ops.getD k default) l) (opS (m.Ops.getD k default) l)) ?_
      refine zEI ?_
      refine zEI ?_
      refine LexE_nil ?_
      refine zn ?_
      refine zs ?_
      refine zs ?_
      refine zR ?_
      refine zLI ?_
      refine zLB ?_
      refine zn ?_
      refine W_cond (b := _) rfl (fun h88 => ?_) (fun h88 => ?_)
      · have hbig : werr (m.Ops.getD k default) l s = 86 := werr_big (by unfold wbig; rw [hz, ← hlab]; exact h88)
        refine zs ?_
        refine zR ?_
        refine zLI ?_
        refine zLI ?_
        refine zLG [.int _ _, .int _ _, .int _ _] ?_
        refine zLN ?_
        refine zLI ?_
        refine zst (.agg [.int _ _, .int _ _, .int _ _]) [_, _, _] [[_, _, _]] ?_
        refine zn ?_
        refine zt ?_
        (refine ends (l := [.nils, .int _ _, .agg [.int _ _, .int _ _, .int _ _]]) (q := .tup [.ro _, .int _ _, .agg [.int _ _, .int _ _, .int _ _]]) (.inr rfl) rfl ⟨trivial, trivial, rfl, trivial⟩ rfl rfl ?_)
        rw [hw, wgo_bad hlt hbig rfl]; rfl
      · have hgood : werr (m.Ops.getD k default) l s = 0 := by rw [werr_ok (by unfold wbig; rw [hz, ← hlab]; exact h88), hz]
        refine zk ?_
        refine zR ?_
        refine zLA ?_
        refine zLG [.int _ _, .int _ _, .int _ _] ?_
        refine L_build Tb_ok (t := 72) (len := 1) (el := 23) (sz := 3) (es := [[_, _, _]]) (z := [.int .i64 0, .int .i64 0, .int .i64 0]) rfl rfl rfl rfl rfl (by decide) trivial rfl rfl rfl rfl rfl ?_
        refine L_app1 Tb_ok (xs := l) (v := opS (m.Ops.getD k default) l) (el := 23) (sz := 3) rfl rfl rfl rfl rfl ⟨trivial, trivial⟩ (fun _ => ⟨rfl, rfl⟩) (by rw [show (Tb.at 23).bytes = 24 from rfl]; omega) rfl ?_
        refine zLA ?_
        refine zn ?_
        refine zR ?_
        refine zLI ?_
        refine zLI ?_
        refine zn ?_
        refine round_end ⟨k + 1, l ++ [opS (m.Ops.getD k default) l], w64 (s + opW (m.Ops.getD k default) l), hlt, by simp [hl], hmm, by rw [hw]; exact wgo_good hlt hgood (by rfl)⟩ (by dsimp only; omega) (le_fit ⟨rfl, rfl, rfl, congrArg (AV.int .i64) (congrArg (fun z => w64 (s + z)) hlab), rfl, rfl, congrArg _ (w_succ hlt (by omega)), trivial⟩ ⟨.inr rfl, .inr rfl, trivial⟩ ⟨.inr rfl, trivial⟩ rfl rfl rfl rfl rfl)
  · have hke : k = m.Ops.length := by simp at h59; omega
    refine W_exit ?_
    repeat (first | refine pass_then ?_ | refine pass_round ?_)
    refine blockQ_hit ?_
    refine zs ?_
    refine zR ?_
    refine zLA ?_
    refine zLI ?_
    refine zLG [.int _ _, .int _ _, .int _ _] ?_
    refine zLA ?_
    refine zLI ?_
    refine zst (.agg [.int _ _, .int _ _, .int _ _]) [_, _, _] [[_, _, _]] ?_
    refine zn ?_
    refine zt ?_
    (refine ends (l := [.app _ _, .int _ _, .agg [.int _ _, .int _ _, .int _ _]]) (q := .tup [.ro _, .int _ _, .agg [.int _ _, .int _ _, .int _ _]]) (.inr rfl) rfl ⟨trivial, trivial, rfl, trivial⟩ rfl rfl ?_)
    subst hke
    rw [hw, List.drop_length, wgo]; rfl
end Go.AM
end
section
open Go Go.AM Go.Proofs
set_option maxRecDepth 10000
set_option linter.unusedVariables false
set_option linter.unusedSimpArgs false
namespace Go.AM
/-- the reference's site -/
def rsiteC (s : Site) : List AV := opC s.Op ++ (shapeC s.In ++ shapeC s.Out)
def rfE (m : Model) (op ch : Int) : Int := if findE m op = 0 then if (bif decide (ch < 0) then true else decide (ch > (findS m op).Out.C)) then 3 else 0 else findE m op
def rfS (m : Model) (op ch : Int) : Site := if rfE m op ch = 0 then findS m op else site0
theorem ref10_Find (m : Model) (hm : m.Wf) (op ch : Int) : Ok Try.prog 7 [.agg (modelC m), .int .i64 op, .int .i64 ch] (.tup [.agg (rsiteC (rfS m op ch)), .int .i64 (rfE m op ch)]) := by
  cases h1 : fi1 m with
  | true =>
    have hc21 : ((wholeF m).2.2.Err != 0) = true := h1
    have e : findE m op = (wholeF m).2.2.Err := by simp [findE, h1]
    have n0 : (wholeF m).2.2.Err ≠ 0 := by simpa using hc21
    --@@1
    skip
    refine fn_ok Tb_ok (fn := Try.f7) Try.func7 rfl rfl (e := [(0, _), (1, _), (2, _)]) rfl (by decide) rfl ?_
    refine zs ?_
    refine zR ?_
    refine zbx [.int _ _, .int _ _, .int _ _, .int _ _, .int _ _, _, .int _ _] 7 ?_
    refine zal [.int .i64 0, .int .i64 0, .int .i64 0, .int .i64 0, .int .i64 0, .int .i64 0, .int .i64 0, .int .i64 0, .int .i64 0, .int .i64 0, .int .i64 0, .int .i64 0, .nils, .nils, .int .i64 0, .int .i64 0, .int .i64 0, .int .i64 0, .int .i64 0, .int .i64 0, .int .i64 0, .int .i64 0, .int .i64 0, .int .i64 0, .int .i64 0, .int .i64 0, .int .i64 0, .int .i64 0] 28 ?_
    refine zLI ?_
    refine zn ?_
    refine zs ?_
    refine zR ?_
    refine zLG [.int _ _, .int _ _, .int _ _, .int _ _, .int _ _, _, .int _ _] ?_
    refine zLc (ref08_Look m hm) ?_
    refine zLT [_, _, _] ?_
    refine zLO ?_
    refine zLI ?_
    refine zLG [.int _ _, .int _ _, .int _ _] ?_
    refine zal [.int .i64 0, .int .i64 0, .int .i64 0] 3 ?_
    refine zLO ?_
    refine zLI ?_
    refine zst (.agg [.int _ _, .int _ _, .int _ _]) [_, _, _] [[_, _, _]] ?_
    refine zn ?_
    refine zs ?_
    refine zs ?_
    refine zR ?_
    refine zLP ?_
    refine zLI ?_
    refine zLB ?_
    refine zn ?_
    refine W_cond_t (b := _) rfl (by exact hc21) ?_
    refine zs ?_
    refine W_drawF (fun e => [idOf (get e 6)]) 3 [[3, 4]] Tb_mixed rfl (by decide) (by kernel_rfl) ?_
    refine zSG [.int _ _, .int _ _, .int _ _, .int _ _, .int _ _, .int _ _, .int _ _, .int _ _, .int _ _, .int _ _, .int _ _, .int _ _, _, _, .int _ _, .int _ _, .int _ _, .int _ _, .int _ _, .int _ _, .int _ _, .int _ _, .int _ _, .int _ _, .int _ _, .int _ _, .int _ _, .int _ _] ?_
    refine zSP ?_
    refine zSI ?_
    refine S_nil ?_
    refine TT_one ?_
    refine TT_store Tb_ok (OSub_forget _ _) rfl (v := .agg [.int _ _, .int _ _, .int _ _, .int _ _, .int _ _, .int _ _, .int _ _, .int _ _, .int _ _, .int _ _, .int _ _, .int _ _, _, _, .int _ _, .int _ _, .int _ _, .int _ _, .int _ _, .int _ _, .int _ _, .int _ _, .int _ _, .int _ _, .int _ _, .int _ _, .int _ _, .int _ _]) (cs := [_, _, _, _, _, _, _, _, _, _, _, _, _, _, _, _, _, _, _, _, _, _, _, _, _, _, _, _]) (es' := [[_, _, _, _, _, _, _, _, _, _, _, _, _, _, _, _, _, _, _, _, _, _, _, _, _, _, _, _]]) rfl rfl rfl rfl rfl rfl rfl rfl rfl rfl rfl ⟨trivial, trivial⟩ (fun ht1 => ?_)
    refine TT_v Tb_ok ht1 rfl (v := .int _ _) (av rfl ⟨trivial, trivial⟩) rfl (fun ht2 => ?_)
    refine TT_nil ?_
    try clear ht2
    try clear ht1
    refine zt ?_
    refine ends (l := [.agg [.int _ _, .int _ _, .int _ _, .int _ _, .int _ _, .int _ _, .int _ _, .int _ _, .int _ _, .int _ _, .int _ _, .int _ _, _, _, .int _ _, .int _ _, .int _ _, .int _ _, .int _ _, .int _ _, .int _ _, .int _ _, .int _ _, .int _ _, .int _ _, .int _ _, .int _ _, .int _ _], .int _ _]) (q := .tup [.agg [.int _ _, .int _ _, .int _ _, .int _ _, .int _ _, .int _ _, .int _ _, .int _ _, .int _ _, .int _ _, .int _ _, .int _ _, _, _, .int _ _, .int _ _, .int _ _, .int _ _, .int _ _, .int _ _, .int _ _, .int _ _, .int _ _, .int _ _, .int _ _, .int _ _, .int _ _, .int _ _], .int _ _]) (.inr rfl) rfl ⟨rfl, trivial, trivial⟩ rfl rfl ?_
    simp [rfE, rfS, e, n0, rsiteC, site0, opC, shapeC, demC]
  | false =>
  have hc21 : ((wholeF m).2.2.Err != 0) = false := h1
  cases h2 : fi2 m op with
  | true =>
    have hc33 : (bif decide (op < 1) then true else decide (op > ((m.Ops.map opC).length : Int))) = true := h2
    have e : findE m op = 3 := by simp [findE, h1, h2]
    --@@2
    skip
    refine fn_ok Tb_ok (fn := Try.f7) Try.func7 rfl rfl (e := [(0, _), (1, _), (2, _)]) rfl (by decide) rfl ?_
    refine zs ?_
    refine zR ?_
    refine zbx [.int _ _, .int _ _, .int _ _, .int _ _, .int _ _, _, .int _ _] 7 ?_
    refine zal [.int .i64 0, .int .i64 0, .int .i64 0, .int .i64 0, .int .i64 0, .int .i64 0, .int .i64 0, .int .i64 0, .int .i64 0, .int .i64 0, .int .i64 0, .int .i64 0, .nils, .nils, .int .i64 0, .int .i64 0, .int .i64 0, .int .i64 0, .int .i64 0, .int .i64 0, .int .i64 0, .int .i64 0, .int .i64 0, .int .i64 0, .int .i64 0, .int .i64 0, .int .i64 0, .int .i64 0] 28 ?_
    refine zLI ?_
    refine zn ?_
    refine zs ?_
    refine zR ?_
    refine zLG [.int _ _, .int _ _, .int _ _, .int _ _, .int _ _, _, .int _ _] ?_
    refine zLc (ref08_Look m hm) ?_
    refine zLT [_, _, _] ?_
    refine zLO ?_
    refine zLI ?_
    refine zLG [.int _ _, .int _ _, .int _ _] ?_
    refine zal [.int .i64 0, .int .i64 0, .int .i64 0] 3 ?_
    refine zLO ?_
    refine zLI ?_
    refine zst (.agg [.int _ _, .int _ _, .int _ _]) [_, _, _] [[_, _, _]] ?_
    refine zn ?_
    refine zs ?_
    refine zs ?_
    refine zR ?_
    refine zLP ?_
    refine zLI ?_
    refine zLB ?_
    refine zn ?_
    refine W_cond_f (b := _) rfl (by exact hc21) ?_
    refine zk ?_
    refine zs ?_
    refine zs ?_
    refine zR ?_
    refine zLI ?_
    refine zLB ?_
    refine zLB ?_
    refine zgLI ?_
    refine zgLP ?_
    refine zgLO ?_
    refine zgLI ?_
    refine zgLB ?_
    refine zpLB ?_
    refine zn ?_
    refine W_cond_t (b := _) rfl (by exact hc33) ?_
    refine zs ?_
    refine zR ?_
    refine zLG [.int _ _, .int _ _, .int _ _, .int _ _, .int _ _, .int _ _, .int _ _, .int _ _, .int _ _, .int _ _, .int _ _, .int _ _, _, _, .int _ _, .int _ _, .int _ _, .int _ _, .int _ _, .int _ _, .int _ _, .int _ _, .int _ _, .int _ _, .int _ _, .int _ _, .int _ _, .int _ _] ?_
    refine zst (.agg [.int _ _, .int _ _, .int _ _, .int _ _, .int _ _, .int _ _, .int _ _, .int _ _, .int _ _, .int _ _, .int _ _, .int _ _, _, _, .int _ _, .int _ _, .int _ _, .int _ _, .int _ _, .int _ _, .int _ _, .int _ _, .int _ _, .int _ _, .int _ _, .int _ _, .int _ _, .int _ _]) [_, _, _, _, _, _, _, _, _, _, _, _, _, _, _, _, _, _, _, _, _, _, _, _, _, _, _, _] [[_, _, _, _, _, _, _, _, _, _, _, _, _, _, _, _, _, _, _, _, _, _, _, _, _, _, _, _]] ?_
    refine zLI ?_
    refine zn ?_
    refine zt ?_
    refine ends (l := [.agg [.int _ _, .int _ _, .int _ _, .int _ _, .int _ _, .int _ _, .int _ _, .int _ _, .int _ _, .int _ _, .int _ _, .int _ _, _, _, .int _ _, .int _ _, .int _ _, .int _ _, .int _ _, .int _ _, .int _ _, .int _ _, .int _ _, .int _ _, .int _ _, .int _ _, .int _ _, .int _ _], .int _ _]) (q := .tup [.agg [.int _ _, .int _ _, .int _ _, .int _ _, .int _ _, .int _ _, .int _ _, .int _ _, .int _ _, .int _ _, .int _ _, .int _ _, _, _, .int _ _, .int _ _, .int _ _, .int _ _, .int _ _, .int _ _, .int _ _, .int _ _, .int _ _, .int _ _, .int _ _, .int _ _, .int _ _, .int _ _], .int _ _]) (.inr rfl) rfl ⟨rfl, trivial, trivial⟩ rfl rfl ?_
    simp [rfE, rfS, e, rsiteC, site0, opC, shapeC, demC]
  | false =>
  have hc33 : (bif decide (op < 1) then true else decide (op > ((m.Ops.map opC).length : Int))) = false := h2
  obtain ⟨o1, o2, o3, o4, o5, o6⟩ := fi_ok h1 h2
  have p1 : 0 ≤ IntKind.i64.wrap (op - 1) := by rw [o3]; omega
  have p2 : IntKind.i64.wrap (op - 1) < (m.Ops.length : Int) := by rw [o3]; omega
  have eo : m.Ops.getD (IntKind.i64.wrap (op - 1)).toNat default = opAt m op := by rw [o3]; rfl
  cases h3 : fi3 m op with
  | true =>
    have hc44 : (!inB (m.Ops.getD (IntKind.i64.wrap (op - 1)).toNat default).Kind 1 4) = true := by rw [eo]; exact h3
    have e : findE m op = 81 := by simp [findE, h1, h2, h3]
    --@@3
    skip
    refine fn_ok Tb_ok (fn := Try.f7) Try.func7 rfl rfl (e := [(0, _), (1, _), (2, _)]) rfl (by decide) rfl ?_
    refine zs ?_
    refine zR ?_
    refine zbx [.int _ _, .int _ _, .int _ _, .int _ _, .int _ _, _, .int _ _] 7 ?_
    refine zal [.int .i64 0, .int .i64 0, .int .i64 0, .int .i64 0, .int .i64 0, .int .i64 0, .int .i64 0, .int .i64 0, .int .i64 0, .int .i64 0, .int .i64 0, .int .i64 0, .nils, .nils, .int .i64 0, .int .i64 0, .int .i64 0, .int .i64 0, .int .i64 0, .int .i64 0, .int .i64 0, .int .i64 0, .int .i64 0, .int .i64 0, .int .i64 0, .int .i64 0, .int .i64 0, .int .i64 0] 28 ?_
    refine zLI ?_
    refine zn ?_
    refine zs ?_
    refine zR ?_
    refine zLG [.int _ _, .int _ _, .int _ _, .int _ _, .int _ _, _, .int _ _] ?_
    refine zLc (ref08_Look m hm) ?_
    refine zLT [_, _, _] ?_
    refine zLO ?_
    refine zLI ?_
    refine zLG [.int _ _, .int _ _, .int _ _] ?_
    refine zal [.int .i64 0, .int .i64 0, .int .i64 0] 3 ?_
    refine zLO ?_
    refine zLI ?_
    refine zst (.agg [.int _ _, .int _ _, .int _ _]) [_, _, _] [[_, _, _]] ?_
    refine zn ?_
    refine zs ?_
    refine zs ?_
    refine zR ?_
    refine zLP ?_
    refine zLI ?_
    refine zLB ?_
    refine zn ?_
    refine W_cond_f (b := _) rfl (by exact hc21) ?_
    refine zk ?_
    refine zs ?_
    refine zs ?_
    refine zR ?_
    refine zLI ?_
    refine zLB ?_
    refine zLB ?_
    refine zgLI ?_
    refine zgLP ?_
    refine zgLO ?_
    refine zgLI ?_
    refine zgLB ?_
    refine zpLB ?_
    refine zn ?_
    refine W_cond_f (b := _) rfl (by exact hc33) ?_
    refine zk ?_
    refine zs ?_
    refine zR ?_
    refine zLP ?_
    refine zLO ?_
    refine zLI ?_
    refine zLI ?_
    (refine L_v Tb_ok (v := _) (ave_index_ro rfl rfl rfl (fun _ => rfl) rfl (by first | exact p1 | exact p2) (by first | exact p1 | exact p2) trivial) rfl ?_)
    refine zLG [.int _ _, .int _ _, .int _ _, .int _ _, .int _ _, .int _ _, .int _ _, .int _ _, .int _ _, .int _ _, .int _ _, .int _ _, _, _, .int _ _, .int _ _, .int _ _, .int _ _, .int _ _, .int _ _, .int _ _, .int _ _] ?_
    refine zal [.int .i64 0, .int .i64 0, .int .i64 0, .int .i64 0, .int .i64 0, .int .i64 0, .int .i64 0, .int .i64 0, .int .i64 0, .int .i64 0, .int .i64 0, .int .i64 0, .nils, .nils, .int .i64 0, .int .i64 0, .int .i64 0, .int .i64 0, .int .i64 0, .int .i64 0, .int .i64 0, .int .i64 0] 22 ?_
    refine zst (.agg [.int _ _, .int _ _, .int _ _, .int _ _, .int _ _, .int _ _, .int _ _, .int _ _, .int _ _, .int _ _, .int _ _, .int _ _, _, _, .int _ _, .int _ _, .int _ _, .int _ _, .int _ _, .int _ _, .int _ _, .int _ _]) [_, _, _, _, _, _, _, _, _, _, _, _, _, _, _, _, _, _, _, _, _, _] [[_, _, _, _, _, _, _, _, _, _, _, _, _, _, _, _, _, _, _, _, _, _]] ?_
    refine zn ?_
    refine zs ?_
    refine zs ?_
    refine zR ?_
    refine zLP ?_
    refine zLI ?_
    refine zLc (ref08_Reduces _) ?_
    refine zLB ?_
    refine zn ?_
    refine W_cond_t (b := _) rfl (by exact hc44) ?_
    refine zs ?_
    refine zR ?_
    refine zLG [.int _ _, .int _ _, .int _ _, .int _ _, .int _ _, .int _ _, .int _ _, .int _ _, .int _ _, .int _ _, .int _ _, .int _ _, _, _, .int _ _, .int _ _, .int _ _, .int _ _, .int _ _, .int _ _, .int _ _, .int _ _, .int _ _, .int _ _, .int _ _, .int _ _, .int _ _, .int _ _] ?_
    refine zst (.agg [.int _ _, .int _ _, .int _ _, .int _ _, .int _ _, .int _ _, .int _ _, .int _ _, .int _ _, .int _ _, .int _ _, .int _ _, _, _, .int _ _, .int _ _, .int _ _, .int _ _, .int _ _, .int _ _, .int _ _, .int _ _, .int _ _, .int _ _, .int _ _, .int _ _, .int _ _, .int _ _]) [_, _, _, _, _, _, _, _, _, _, _, _, _, _, _, _, _, _, _, _, _, _, _, _, _, _, _, _] [[_, _, _, _, _, _, _, _, _, _, _, _, _, _, _, _, _, _, _, _, _, _, _, _, _, _, _, _]] ?_
    refine zLI ?_
    refine zn ?_
    refine zt ?_
    refine ends (l := [.agg [.int _ _, .int _ _, .int _ _, .int _ _, .int _ _, .int _ _, .int _ _, .int _ _, .int _ _, .int _ _, .int _ _, .int _ _, _, _, .int _ _, .int _ _, .int _ _, .int _ _, .int _ _, .int _ _, .int _ _, .int _ _, .int _ _, .int _ _, .int _ _, .int _ _, .int _ _, .int _ _], .int _ _]) (q := .tup [.agg [.int _ _, .int _ _, .int _ _, .int _ _, .int _ _, .int _ _, .int _ _, .int _ _, .int _ _, .int _ _, .int _ _, .int _ _, _, _, .int _ _, .int _ _, .int _ _, .int _ _, .int _ _, .int _ _, .int _ _, .int _ _, .int _ _, .int _ _, .int _ _, .int _ _, .int _ _, .int _ _], .int _ _]) (.inr rfl) rfl ⟨rfl, trivial, trivial⟩ rfl rfl ?_
    simp [rfE, rfS, e, rsiteC, site0, opC, shapeC, demC]
  | false =>
  have hc44 : (!inB (m.Ops.getD (IntKind.i64.wrap (op - 1)).toNat default).Kind 1 4) = false := by rw [eo]; exact h3
  have e : findE m op = 0 := by simp [findE, h1, h2, h3]
  have eS : findS m op = ⟨opAt m op, aAt m op, (wholeF m).1.getD op.toNat default, lenAt m op⟩ := by simp [findS, h1, h2, h3]
  have q1 : 0 ≤ (m.Ops.getD (IntKind.i64.wrap (op - 1)).toNat default).A := by rw [eo]; exact o5
  have q2 : (m.Ops.getD (IntKind.i64.wrap (op - 1)).toNat default).A < ((wholeF m).1.length : Int) := by rw [eo]; exact o6
  have q3 : 0 ≤ op := by omega
  --@@4
  skip
  refine fn_ok Tb_ok (fn := Try.f7) Try.func7 rfl rfl (e := [(0, _), (1, _), (2, _)]) rfl (by decide) rfl ?_
  refine zs ?_
  refine zR ?_
  refine zbx [.int _ _, .int _ _, .int _ _, .int _ _, .int _ _, _, .int _ _] 7 ?_
  refine zal [.int .i64 0, .int .i64 0, .int .i64 0, .int .i64 0, .int .i64 0, .int .i64 0, .int .i64 0, .int .i64 0, .int .i64 0, .int .i64 0, .int .i64 0, .int .i64 0, .nils, .nils, .int .i64 0, .int .i64 0, .int .i64 0, .int .i64 0, .int .i64 0, .int .i64 0, .int .i64 0, .int .i64 0, .int .i64 0, .int .i64 0, .int .i64 0, .int .i64 0, .int .i64 0, .int .i64 0] 28 ?_
  refine zLI ?_
  refine zn ?_
  refine zs ?_
  refine zR ?_
  refine zLG [.int _ _, .int _ _, .int _ _, .int _ _, .int _ _, _, .int _ _] ?_
  refine zLc (ref08_Look m hm) ?_
  refine zLT [_, _, _] ?_
  refine zLO ?_
  refine zLI ?_
  refine zLG [.int _ _, .int _ _, .int _ _] ?_
  refine zal [.int .i64 0, .int .i64 0, .int .i64 0] 3 ?_
  refine zLO ?_
  refine zLI ?_
  refine zst (.agg [.int _ _, .int _ _, .int _ _]) [_, _, _] [[_, _, _]] ?_
  refine zn ?_
  refine zs ?_
  refine zs ?_
  refine zR ?_
  refine zLP ?_
  refine zLI ?_
  refine zLB ?_
  refine zn ?_
  refine W_cond_f (b := _) rfl (by exact hc21) ?_
  refine zk ?_
  refine zs ?_
  refine zs ?_
  refine zR ?_
  refine zLI ?_
  refine zLB ?_
  refine zLB ?_
  refine zgLI ?_
  refine zgLP ?_
  refine zgLO ?_
  refine zgLI ?_
  refine zgLB ?_
  refine zpLB ?_
  refine zn ?_
  refine W_cond_f (b := _) rfl (by exact hc33) ?_
  refine zk ?_
  refine zs ?_
  refine zR ?_
  refine zLP ?_
  refine zLO ?_
  refine zLI ?_
  refine zLI ?_
  (refine L_v Tb_ok (v := _) (ave_index_ro rfl rfl rfl (fun _ => rfl) rfl (by first | exact p1 | exact p2) (by first | exact p1 | exact p2) trivial) rfl ?_)
  refine zLG [.int _ _, .int _ _, .int _ _, .int _ _, .int _ _, .int _ _, .int _ _, .int _ _, .int _ _, .int _ _, .int _ _, .int _ _, _, _, .int _ _, .int _ _, .int _ _, .int _ _, .int _ _, .int _ _, .int _ _, .int _ _] ?_
  refine zal [.int .i64 0, .int .i64 0, .int .i64 0, .int .i64 0, .int .i64 0, .int .i64 0, .int .i64 0, .int .i64 0, .int .i64 0, .int .i64 0, .int .i64 0, .int .i64 0, .nils, .nils, .int .i64 0, .int .i64 0, .int .i64 0, .int .i64 0, .int .i64 0, .int .i64 0, .int .i64 0, .int .i64 0] 22 ?_
  refine zst (.agg [.int _ _, .int _ _, .int _ _, .int _ _, .int _ _, .int _ _, .int _ _, .int _ _, .int _ _, .int _ _, .int _ _, .int _ _, _, _, .int _ _, .int _ _, .int _ _, .int _ _, .int _ _, .int _ _, .int _ _, .int _ _]) [_, _, _, _, _, _, _, _, _, _, _, _, _, _, _, _, _, _, _, _, _, _] [[_, _, _, _, _, _, _, _, _, _, _, _, _, _, _, _, _, _, _, _, _, _]] ?_
  refine zn ?_
  refine zs ?_
  refine zs ?_
  refine zR ?_
  refine zLP ?_
  refine zLI ?_
  refine zLc (ref08_Reduces _) ?_
  refine zLB ?_
  refine zn ?_
  refine W_cond_f (b := _) rfl (by exact hc44) ?_
  refine zk ?_
  refine zs ?_
  refine W_drawF (fun e => []) 11 [[11, 12]] Tb_mixed rfl (by decide) (by kernel_rfl) ?_
  refine zSG [.int _ _, .int _ _, .int _ _, .int _ _, .int _ _, .int _ _, .int _ _, .int _ _, .int _ _, .int _ _, .int _ _, .int _ _, _, _, .int _ _, .int _ _, .int _ _, .int _ _, .int _ _, .int _ _, .int _ _, .int _ _] ?_
  refine zSO ?_
  refine zSP ?_
  refine zSI ?_
  (refine S_v Tb_ok (v := _) (ave_index_ro rfl rfl rfl (fun _ => rfl) rfl (by first | exact q1 | exact q2) (by first | exact q1 | exact q2) trivial) rfl ?_)
  refine zSG [.int _ _, .int _ _, .int _ _] ?_
  refine zSO ?_
  refine zSI ?_
  (refine S_v Tb_ok (v := _) (ave_index_ro rfl rfl rfl (fun _ => rfl) rfl (by first | exact q3 | exact o4) (by first | exact q3 | exact o4) trivial) rfl ?_)
  refine zSG [.int _ _, .int _ _, .int _ _] ?_
  refine zSG [.int _ _, .int _ _, .int _ _, .int _ _, .int _ _, .int _ _, .int _ _, .int _ _, .int _ _, .int _ _, .int _ _, .int _ _, _, _, .int _ _, .int _ _, .int _ _, .int _ _, .int _ _, .int _ _, .int _ _, .int _ _, .int _ _, .int _ _, .int _ _, .int _ _, .int _ _, .int _ _] ?_
  refine S_nil ?_
  refine TT_one ?_
  refine TT_alloc Tb_ok (OSub_forget _ _) rfl (z := [.int .i64 0, .int .i64 0, .int .i64 0, .int .i64 0, .int .i64 0, .int .i64 0, .int .i64 0, .int .i64 0, .int .i64 0, .int .i64 0, .int .i64 0, .int .i64 0, .nils, .nils, .int .i64 0, .int .i64 0, .int .i64 0, .int .i64 0, .int .i64 0, .int .i64 0, .int .i64 0, .int .i64 0, .int .i64 0, .int .i64 0, .int .i64 0, .int .i64 0, .int .i64 0, .int .i64 0]) (n := 28) rfl rfl rfl rfl rfl rfl (fun ht1 => ?_)
  refine TT_store Tb_ok ht1 rfl (v := .agg [.int _ _, .int _ _, .int _ _, .int _ _, .int _ _, .int _ _, .int _ _, .int _ _, .int _ _, .int _ _, .int _ _, .int _ _, _, _, .int _ _, .int _ _, .int _ _, .int _ _, .int _ _, .int _ _, .int _ _, .int _ _, .int _ _, .int _ _, .int _ _, .int _ _, .int _ _, .int _ _]) (cs := [_, _, _, _, _, _, _, _, _, _, _, _, _, _, _, _, _, _, _, _, _, _, _, _, _, _, _, _]) (es' := [[_, _, _, _, _, _, _, _, _, _, _, _, _, _, _, _, _, _, _, _, _, _, _, _, _, _, _, _]]) rfl rfl rfl rfl rfl rfl rfl rfl rfl rfl rfl ⟨trivial, trivial⟩ (fun ht2 => ?_)
  refine TT_nil ?_
  try clear ht2
  try clear ht1
  refine zs ?_
  refine zs ?_
  refine zR ?_
  refine zLI ?_
  refine zLB ?_
  refine zLB ?_
  refine zgLI ?_
  refine zgLP ?_
  refine zgLP ?_
  refine zgLI ?_
  refine zgLB ?_
  refine zpLB ?_
  refine zn ?_
  refine W_cond (b := _) rfl (fun h65 => ?_) (fun h65 => ?_)
  · have hb : (bif decide (ch < 0) then true else decide (ch > (findS m op).Out.C)) = true := by rw [eS]; exact h65
    refine zs ?_
    refine zR ?_
    refine zLG [.int _ _, .int _ _, .int _ _, .int _ _, .int _ _, .int _ _, .int _ _, .int _ _, .int _ _, .int _ _, .int _ _, .int _ _, _, _, .int _ _, .int _ _, .int _ _, .int _ _, .int _ _, .int _ _, .int _ _, .int _ _, .int _ _, .int _ _, .int _ _, .int _ _, .int _ _, .int _ _] ?_
    refine zst (.agg [.int _ _, .int _ _, .int _ _, .int _ _, .int _ _, .int _ _, .int _ _, .int _ _, .int _ _, .int _ _, .int _ _, .int _ _, _, _, .int _ _, .int _ _, .int _ _, .int _ _, .int _ _, .int _ _, .int _ _, .int _ _, .int _ _, .int _ _, .int _ _, .int _ _, .int _ _, .int _ _]) [_, _, _, _, _, _, _, _, _, _, _, _, _, _, _, _, _, _, _, _, _, _, _, _, _, _, _, _] [[_, _, _, _, _, _, _, _, _, _, _, _, _, _, _, _, _, _, _, _, _, _, _, _, _, _, _, _]] ?_
    refine zLI ?_
    refine zn ?_
    refine zt ?_
    refine ends (l := [.agg [.int _ _, .int _ _, .int _ _, .int _ _, .int _ _, .int _ _, .int _ _, .int _ _, .int _ _, .int _ _, .int _ _, .int _ _, _, _, .int _ _, .int _ _, .int _ _, .int _ _, .int _ _, .int _ _, .int _ _, .int _ _, .int _ _, .int _ _, .int _ _, .int _ _, .int _ _, .int _ _], .int _ _]) (q := .tup [.agg [.int _ _, .int _ _, .int _ _, .int _ _, .int _ _, .int _ _, .int _ _, .int _ _, .int _ _, .int _ _, .int _ _, .int _ _, _, _, .int _ _, .int _ _, .int _ _, .int _ _, .int _ _, .int _ _, .int _ _, .int _ _, .int _ _, .int _ _, .int _ _, .int _ _, .int _ _, .int _ _], .int _ _]) (.inr rfl) rfl ⟨rfl, trivial, trivial⟩ rfl rfl ?_
    have r : rfE m op ch = 3 := by simp only [rfE, e, hb, if_true]
    simp [rfS, r, rsiteC, site0, opC, shapeC, demC]
  · have hb : (bif decide (ch < 0) then true else decide (ch > (findS m op).Out.C)) = false := by rw [eS]; exact h65
    refine zk ?_
    refine zs ?_
    refine zR ?_
    refine zLG [.int _ _, .int _ _, .int _ _, .int _ _, .int _ _, .int _ _, .int _ _, .int _ _, .int _ _, .int _ _, .int _ _, .int _ _, _, _, .int _ _, .int _ _, .int _ _, .int _ _, .int _ _, .int _ _, .int _ _, .int _ _, .int _ _, .int _ _, .int _ _, .int _ _, .int _ _, .int _ _] ?_
    refine zst (.agg [.int _ _, .int _ _, .int _ _, .int _ _, .int _ _, .int _ _, .int _ _, .int _ _, .int _ _, .int _ _, .int _ _, .int _ _, _, _, .int _ _, .int _ _, .int _ _, .int _ _, .int _ _, .int _ _, .int _ _, .int _ _, .int _ _, .int _ _, .int _ _, .int _ _, .int _ _, .int _ _]) [_, _, _, _, _, _, _, _, _, _, _, _, _, _, _, _, _, _, _, _, _, _, _, _, _, _, _, _] [[_, _, _, _, _, _, _, _, _, _, _, _, _, _, _, _, _, _, _, _, _, _, _, _, _, _, _, _]] ?_
    refine zLI ?_
    refine zn ?_
    refine zt ?_
    refine ends (l := [.agg [.int _ _, .int _ _, .int _ _, .int _ _, .int _ _, .int _ _, .int _ _, .int _ _, .int _ _, .int _ _, .int _ _, .int _ _, _, _, .int _ _, .int _ _, .int _ _, .int _ _, .int _ _, .int _ _, .int _ _, .int _ _, .int _ _, .int _ _, .int _ _, .int _ _, .int _ _, .int _ _], .int _ _]) (q := .tup [.agg [.int _ _, .int _ _, .int _ _, .int _ _, .int _ _, .int _ _, .int _ _, .int _ _, .int _ _, .int _ _, .int _ _, .int _ _, _, _, .int _ _, .int _ _, .int _ _, .int _ _, .int _ _, .int _ _, .int _ _, .int _ _, .int _ _, .int _ _, .int _ _, .int _ _, .int _ _, .int _ _], .int _ _]) (.inr rfl) rfl ⟨rfl, trivial, trivial⟩ rfl rfl ?_
    have r : rfE m op ch = 0 := by simp [rfE, e, hb]
    have eS2 : findS m op = ⟨m.Ops.getD (IntKind.i64.wrap (op - 1)).toNat default, (wholeF m).1.getD (m.Ops.getD (IntKind.i64.wrap (op - 1)).toNat default).A.toNat default, (wholeF m).1.getD op.toNat default, lenAt m op⟩ := by rw [eS, eo]; rfl
    simp only [rfS, r, if_true, eS2]; rfl
def rcE (m : Model) (op ch : Int) : Int := if (rfE m op ch == 0 && ch == 0) then 3 else rfE m op ch
def rcS (m : Model) (op ch : Int) : Site := if (rfE m op ch == 0 && ch == 0) then site0 else rfS m op ch
theorem ref10_Positions (s : Site) : Ok Try.prog 24 [.agg (rsiteC s)] (.int .i64 (w64 (s.Out.H * s.Out.W))) := by
  refine fn_ok Tb_ok (fn := Try.f24) Try.func24 rfl rfl (e := [(0, _)]) rfl (by decide) rfl ?_
  refine zs ?_
  refine zR ?_
  refine zbx [.int _ _, .int _ _, .int _ _, .int _ _, .int _ _, .int _ _, .int _ _, .int _ _, .int _ _, .int _ _, .int _ _, .int _ _, _, _, .int _ _, .int _ _, .int _ _, .int _ _, .int _ _, .int _ _, .int _ _, .int _ _, .int _ _, .int _ _, .int _ _, .int _ _, .int _ _, .int _ _] 28 ?_
  refine zLI ?_
  refine zn ?_
  refine zs ?_
  refine zR ?_
  refine zLP ?_
  refine zLP ?_
  refine zLI ?_
  refine zLP ?_
  refine zLP ?_
  refine zLI ?_
  refine zLI ?_
  refine zLI ?_
  refine zn ?_
  refine zt ?_
  refine ends (l := [.int _ _]) (q := .int _ _) (.inr rfl) rfl ⟨trivial, trivial⟩ rfl rfl ?_
  rfl
theorem ref10_Length (s : Site) : Ok Try.prog 71 [.agg (rsiteC s)] (.int .i64 (lenF s.Op s.In)) := by
  refine fn_ok Tb_ok (fn := Try.f71) Try.func71 rfl rfl (e := [(0, _)]) rfl (by decide) rfl ?_
  refine zs ?_
  refine zR ?_
  refine zbx [.int _ _, .int _ _, .int _ _, .int _ _, .int _ _, .int _ _, .int _ _, .int _ _, .int _ _, .int _ _, .int _ _, .int _ _, _, _, .int _ _, .int _ _, .int _ _, .int _ _, .int _ _, .int _ _, .int _ _, .int _ _, .int _ _, .int _ _, .int _ _, .int _ _, .int _ _, .int _ _] 28 ?_
  refine zLI ?_
  refine zn ?_
  refine zs ?_
  refine zR ?_
  refine zLP ?_
  refine zLG [.int _ _, .int _ _, .int _ _, .int _ _, .int _ _, .int _ _, .int _ _, .int _ _, .int _ _, .int _ _, .int _ _, .int _ _, _, _, .int _ _, .int _ _, .int _ _, .int _ _, .int _ _, .int _ _, .int _ _, .int _ _] ?_
  refine zLP ?_
  refine zLG [.int _ _, .int _ _, .int _ _] ?_
  refine zLc (ref08_Length s.Op s.In) ?_
  refine zLI ?_
  refine zn ?_
  refine zt ?_
  refine ends (l := [.int _ _]) (q := .int _ _) (.inr rfl) rfl ⟨trivial, trivial⟩ rfl rfl ?_
  rfl
theorem ref10_Bias (s : Site) (ch : Int) (h : s.Op.Kind ≠ 4 → 0 ≤ w64 (ch - 1) ∧ w64 (ch - 1) < s.Op.Bias.length) : Ok Try.prog 52 [.agg (rsiteC s), .int .i64 ch] (.int .i64 (if s.Op.Kind = 4 then 0 else w64 (s.Op.Bias.getD (w64 (ch - 1)).toNat default))) := by
  refine fn_ok Tb_ok (fn := Try.f52) Try.func52 rfl rfl (e := [(0, _), (1, _)]) rfl (by decide) rfl ?_
  refine zs ?_
  refine zR ?_
  refine zbx [.int _ _, .int _ _, .int _ _, .int _ _, .int _ _, .int _ _, .int _ _, .int _ _, .int _ _, .int _ _, .int _ _, .int _ _, _, _, .int _ _, .int _ _, .int _ _, .int _ _, .int _ _, .int _ _, .int _ _, .int _ _, .int _ _, .int _ _, .int _ _, .int _ _, .int _ _, .int _ _] 28 ?_
  refine zLI ?_
  refine zn ?_
  refine zs ?_
  refine zs ?_
  refine zR ?_
  refine zLP ?_
  refine zLP ?_
  refine zLI ?_
  refine zLB ?_
  refine zn ?_
  refine W_cond (b := _) rfl (fun h8 => ?_) (fun h8 => ?_)
  · refine zs ?_
    refine zR ?_
    refine zLI ?_
    refine zn ?_
    refine zt ?_
    refine ends (l := [.int _ _]) (q := .int _ _) (.inr rfl) rfl ⟨trivial, trivial⟩ rfl rfl ?_
    have hk : s.Op.Kind = 4 := by simpa using h8
    simp [hk]
  · have hk : s.Op.Kind ≠ 4 := by simpa using h8
    obtain ⟨b0, b1⟩ := h hk
    refine zk ?_
    refine zs ?_
    refine zR ?_
    refine zLP ?_
    refine zLP ?_
    refine zLO ?_
    refine zLI ?_
    refine zLI ?_
    (refine L_v Tb_ok (v := _) (ave_index_ro rfl rfl rfl (fun _ => rfl) rfl (by first | exact b0 | exact b1) (by first | exact b0 | exact b1) trivial) rfl ?_)
    refine zLI ?_
    refine zLI ?_
    refine zLI ?_
    refine zn ?_
    refine zt ?_
    refine ends (l := [.int _ _]) (q := .int _ _) (.inr rfl) rfl ⟨trivial, trivial⟩ rfl rfl ?_
    rw [if_neg hk]; rfl
theorem lenF_site {m : Model} {op : Int} (h : findE m op = 0) : lenF (findS m op).Op (findS m op).In = (findS m op).Len := by
  obtain ⟨hS, _, _, _, e⟩ := site_ok h
  have hk := hS.kind
  rw [e] at hk ⊢
  dsimp only at hk ⊢
  unfold lenF lenAt
  by_cases k1 : (opAt m op).Kind = 1
  · simp [k1]
  · have z1 : ((opAt m op).Kind == 1) = false := by simpa using k1
    by_cases k2 : (opAt m op).Kind = 2
    · simp [k2]
    · have z2 : ((opAt m op).Kind == 2) = false := by simpa using k2
      rw [z1, z2, if_neg k1, if_neg k2]; rfl
end Go.AM
end
section
open Go Go.AM Go.Proofs
set_option maxRecDepth 10000
set_option linter.unusedVariables false
set_option linter.unusedSimpArgs false
namespace Go.AM
def tapL (s : Shape) (w : Window) (top left : Int) : List Int := (List.range (tapN w)).map fun (k : Nat) => tapPlace s w top left k
theorem take_snoc {l : List Int} {k : Nat} {v : Int} (h : k < l.length) (hv : l.getD k 0 = v) : l.take k ++ [v] = l.take (k + 1) := by
  rw [List.take_add_one, ← hv]; simp [List.getD_eq_getElem?_getD, h]
theorem tapL_get {s : Shape} {w : Window} {top left : Int} {k : Nat} (h : k < tapN w) : (tapL s w top left).getD k 0 = tapPlace s w top left k := by
  simp [tapL, List.getD_eq_getElem?_getD, h]
theorem w64_addr (a b : Int) : w64 (a + w64 b) = w64 (a + b) := by obtain ⟨q, hq⟩ := w64_form b; rw [hq, ← Int.add_assoc]; exact w64_add _ _
theorem tap_yx {s : Shape} {w : Window} {top left : Int} {ky kx : Nat} (hW : 1 ≤ w.KW) (hs : shapeB s = true) (hkx : (kx : Int) < w.KW) :
    tapPlace s w top left ((ky * w.KW.toNat + kx : Nat) : Int) = bif (bif (bif (bif decide (w64 (top + ky) < 0) then true else decide (w64 (top + ky) ≥ s.H)) then true else decide (w64 (left + kx) < 0)) then true else decide (w64 (left + kx) ≥ s.W)) then -1 else w64 (w64 (w64 (top + ky) * s.W) + w64 (left + kx)) := by
  have B := shapeB_iff.1 hs
  have e0 : ((ky * w.KW.toNat + kx : Nat) : Int) = (kx : Int) + w.KW * ky := by
    have : ((w.KW.toNat : Nat) : Int) = w.KW := by omega
    rw [Int.natCast_add, Int.natCast_mul, this, Int.mul_comm]; omega
  have e1 : ((ky * w.KW.toNat + kx : Nat) : Int).tdiv w.KW = ky := by
    rw [Int.tdiv_eq_ediv_of_nonneg (by omega), e0, Int.add_mul_ediv_left _ _ (by omega), Int.ediv_eq_zero_of_lt (by omega) hkx]; omega
  have e2 : ((ky * w.KW.toNat + kx : Nat) : Int).tmod w.KW = kx := by
    rw [Int.tmod_eq_emod_of_nonneg (by omega), e0, Int.add_mul_emod_self_left, Int.emod_eq_of_lt (by omega) hkx]
  unfold tapPlace
  rw [e1, e2]
  simp only [w64_addr]
  rw [show w64 (s.H - 1) = s.H - 1 from w64_id (by omega), show w64 (s.W - 1) = s.W - 1 from w64_id (by omega)]
  generalize w64 (top + (ky : Int)) = y
  generalize w64 (left + (kx : Int)) = x
  unfold inB
  have d1 : decide (0 ≤ y) = !decide (y < 0) := by by_cases h : y < 0 <;> simp [h] <;> omega
  have d2 : decide (y ≤ s.H - 1) = !decide (y ≥ s.H) := by by_cases h : y ≥ s.H <;> simp [h] <;> omega
  have d3 : decide (0 ≤ x) = !decide (x < 0) := by by_cases h : x < 0 <;> simp [h] <;> omega
  have d4 : decide (x ≤ s.W - 1) = !decide (x ≥ s.W) := by by_cases h : x ≥ s.W <;> simp [h] <;> omega
  rw [d1, d2, d3, d4]
  cases decide (y < 0) <;> cases decide (y ≥ s.H) <;> cases decide (x < 0) <;> cases decide (x ≥ s.W) <;> rfl
theorem mul_lt_two {a b A B : Nat} (ha : a < A) (hb : b < B) : a * B + b < A * B := by
  have : (a + 1) * B ≤ A * B := Nat.mul_le_mul_right _ ha
  rw [Nat.add_mul, Nat.one_mul] at this; omega
theorem ref06_Taps (s : Shape) (w : Window) (at_ : Int) (hbad : tapsBad s w at_ = false) : Ok Try.prog 73 [.agg (shapeC s), .agg (windowC w), .int .i64 at_] (.ro ((tapL s w (tapsTop s w at_) (tapsLeft s w at_)).map intC)) := by
  have hE : outE s w = 0 := by
    unfold tapsBad at hbad
    cases hq : outE s w != 0 with
    | true => rw [hq] at hbad; simp at hbad
    | false => simpa using hq
  obtain ⟨hs, hw, _, _⟩ := outE_zero hE
  have W := windowB_iff hw
  have hne := taps_ne hbad
  have hKH : ((w.KH.toNat : Nat) : Int) = w.KH := by omega
  have hKW : ((w.KW.toNat : Nat) : Int) = w.KW := by omega
  have hN : tapN w = w.KH.toNat * w.KW.toNat := by
    unfold tapN
    have a0 := Int.mul_le_mul W.1.1 W.2.1.1 (by omega) (by omega)
    have a2 : w.KH * w.KW ≤ 32 * 32 := Int.mul_le_mul W.1.2 W.2.1.2 (by omega) (by omega)
    rw [show w64 (w.KH * w.KW) = w.KH * w.KW from w64_id (by omega), Int.toNat_mul (by omega) (by omega)]
  have hN2 : w.KH.toNat * w.KW.toNat ≤ 32 * 32 := Nat.mul_le_mul (by omega) (by omega)
  have hLl : (tapL s w (tapsTop s w at_) (tapsLeft s w at_)).length = w.KH.toNat * w.KW.toNat := by simp [tapL, hN]
  have hget : ∀ ky kx, ky < w.KH.toNat → kx < w.KW.toNat → (tapL s w (tapsTop s w at_) (tapsLeft s w at_)).getD (ky * w.KW.toNat + kx) 0 = tapPlace s w (tapsTop s w at_) (tapsLeft s w at_) ((ky * w.KW.toNat + kx : Nat) : Int) := fun ky kx h1 h2 => tapL_get (by rw [hN]; exact mul_lt_two h1 h2)
  generalize hL : tapL s w (tapsTop s w at_) (tapsLeft s w at_) = L at *
  refine fn_ok Tb_ok (fn := Try.f73) Try.func73 rfl rfl (e := [(0, _), (1, _), (2, _)]) rfl (by decide) rfl ?_
  refine zs ?_
  refine zR ?_
  refine zbx [.int _ _, .int _ _, .int _ _] 3 ?_
  refine zbx [.int _ _, .int _ _, .int _ _, .int _ _, .int _ _, .int _ _, .int _ _, .int _ _] 8 ?_
  refine zLN ?_
  refine zn ?_
  refine zs ?_
  refine zR ?_
  refine zLG [.int _ _, .int _ _, .int _ _] ?_
  refine zLG [.int _ _, .int _ _, .int _ _, .int _ _, .int _ _, .int _ _, .int _ _, .int _ _] ?_
  refine zLc (ref06_Out s w) ?_
  refine zLT [_, _, _] ?_
  refine zLI ?_
  refine zLI ?_
  refine zLI ?_
  refine zLI ?_
  refine zLI ?_
  refine zLI ?_
  refine zn ?_
  refine zs ?_
  refine W_draw 8 Tb_mixed rfl (by decide) (by kernel_rfl) (by kernel_rfl) ?_
  refine zEI ?_
  refine zEI ?_
  refine E_v Tb_ok (v := .int _ _) (av rfl ⟨trivial, (by exact hne)⟩) rfl ?_
  refine zEI ?_
  refine zEI ?_
  refine E_v Tb_ok (v := .int _ _) (av rfl ⟨trivial, (by exact hne)⟩) rfl ?_
  refine zEI ?_
  refine zEI ?_
  refine LexE_nil ?_
  refine zn ?_
  refine zs ?_
  refine zR ?_
  refine zLN ?_
  refine zn ?_
  refine zs ?_
  refine zs ?_
  refine zR ?_
  refine zLI ?_
  refine zn ?_
  refine W_block ?_
  refine W_nils (t := 12) 3 1 rfl rfl ?_
  refine W_for w.KH.toNat (fun ky => ⟨[(3, .ptr 0 0 0), (4, .ptr 1 0 0), (10, .int .i64 (w64 (at_.tdiv (outW s w)))), (11, .int .i64 (at_.tmod (outW s w))), (12, .app 2 ((L.take (ky * w.KW.toNat)).map intC)), (13, .int .i64 (ky : Int))], [(0, some ⟨23, 3, 0, [shapeC s]⟩), (1, some ⟨33, 8, 0, [windowC w]⟩)], [(2, some (3, 1, (L.take (ky * w.KW.toNat)).length))], 3⟩) (le_fit ⟨rfl, rfl, rfl, rfl, by rw [Nat.zero_mul]; rfl, rfl, trivial⟩ ⟨.inr rfl, .inr rfl, trivial⟩ ⟨.inr (by rw [Nat.zero_mul]; rfl), trivial⟩ rfl rfl rfl rfl rfl) ?_
  intro ky hky
  refine zs ?_
  refine zs ?_
  refine zR ?_
  refine zLI ?_
  refine zLP ?_
  refine zLI ?_
  refine zLB ?_
  refine zn ?_
  refine W_cond (b := _) rfl (fun h33 => ?_) (fun h33 => ?_)
  · have hlt : ky < w.KH.toNat := by have := of_decide_eq_true h33; omega
    refine zk ?_
    refine zs ?_
    refine W_block ?_
    refine zs ?_
    refine zR ?_
    refine zLI ?_
    refine zn ?_
    refine W_block ?_
    refine W_for w.KW.toNat (fun kx => ⟨[(3, .ptr 0 0 0), (4, .ptr 1 0 0), (10, .int .i64 (w64 (at_.tdiv (outW s w)))), (11, .int .i64 (at_.tmod (outW s w))), (12, .app 2 ((L.take (ky * w.KW.toNat + kx)).map intC)), (13, .int .i64 (ky : Int)), (14, .int .i64 (kx : Int))], [(0, some ⟨23, 3, 0, [shapeC s]⟩), (1, some ⟨33, 8, 0, [windowC w]⟩)], [(2, some (3, 1, (L.take (ky * w.KW.toNat + kx)).length))], 3⟩) (le_fit ⟨rfl, rfl, rfl, rfl, rfl, rfl, rfl, trivial⟩ ⟨.inr rfl, .inr rfl, trivial⟩ ⟨.inr rfl, trivial⟩ rfl rfl rfl rfl rfl) ?_
    intro kx hkx
    have hlen : (L.take (ky * w.KW.toNat + kx)).length ≤ 4096 := by rw [List.length_take, hLl]; omega
    refine zs ?_
    refine zs ?_
    refine zR ?_
    refine zLI ?_
    refine zLP ?_
    refine zLI ?_
    refine zLB ?_
    refine zn ?_
    refine W_cond (b := _) rfl (fun h39 => ?_) (fun h39 => ?_)
    · have hlx : kx < w.KW.toNat := by have := of_decide_eq_true h39; omega
      have hg := (hget ky kx hlt hlx).trans (tap_yx (ky := ky) (kx := kx) W.2.1.1 hs (by omega))
      refine zk ?_
      refine zs ?_
      refine W_block ?_
      refine zs ?_
      refine zR ?_
      refine zLI ?_
      refine zLP ?_
      refine zLI ?_
      refine zLI ?_
      refine zLP ?_
      refine zLI ?_
      refine zLI ?_
      refine zLI ?_
      refine zLI ?_
      refine zLI ?_
      refine zn ?_
      refine zs ?_
      refine zR ?_
      refine zLI ?_
      refine zLP ?_
      refine zLI ?_
      refine zLI ?_
      refine zLP ?_
      refine zLI ?_
      refine zLI ?_
      refine zLI ?_
      refine zLI ?_
      refine zLI ?_
      refine zn ?_
      refine zs ?_
      refine zR ?_
      refine zLI ?_
      refine zLB ?_
      refine zLB ?_
      refine zgLI ?_
      refine zgLP ?_
      refine zgLI ?_
      refine zgLB ?_
      refine zpLB ?_
      refine zLB ?_
      refine zgLI ?_
      refine zgLB ?_
      refine zpLB ?_
      refine zLB ?_
      refine zgLI ?_
      refine zgLP ?_
      refine zgLI ?_
      refine zgLB ?_
      refine zpLB ?_
      refine zn ?_
      refine W_cond (b := _) rfl (fun h77 => ?_) (fun h77 => ?_)
      · have hap := take_snoc (by rw [hLl]; exact mul_lt_two hlt hlx) (hg.trans (congrArg (fun b => bif b then -1 else w64 (w64 (w64 (tapsTop s w at_ + ky) * s.W) + w64 (tapsLeft s w at_ + kx))) h77))
        refine zR ?_
        refine zLA ?_
        refine L_build Tb_ok (t := 92) (len := 1) (el := 3) (sz := 1) (es := [[_]]) (z := [.int .i64 0]) rfl rfl rfl rfl rfl (by decide) trivial rfl rfl rfl rfl rfl ?_
        refine L_app1 Tb_ok (f := intC) (v := -1) (tok := 2) (el := 3) (sz := 1) rfl rfl rfl rfl rfl ⟨trivial, trivial⟩ (fun _ => ⟨rfl, rfl⟩) (by rw [show (Tb.at 3).bytes = 8 from rfl]; omega) rfl ?_
        refine zLA ?_
        refine zn ?_
        refine zR ?_
        refine zLI ?_
        refine zLI ?_
        refine zLI ?_
        refine zn ?_
        refine for_end hlx (le_fit ⟨rfl, rfl, rfl, rfl, congrArg (fun z => AV.app 2 (List.map intC z)) hap, rfl, congrArg _ (w_succ hlx (by omega)), trivial⟩ ⟨.inr rfl, .inr rfl, trivial⟩ ⟨.inr (congrArg (fun z => some (3, 1, List.length z)) hap), trivial⟩ rfl rfl rfl rfl rfl)
      · have hap := take_snoc (by rw [hLl]; exact mul_lt_two hlt hlx) (hg.trans (congrArg (fun b => bif b then -1 else w64 (w64 (w64 (tapsTop s w at_ + ky) * s.W) + w64 (tapsLeft s w at_ + kx))) h77))
        refine zR ?_
        refine zLA ?_
        refine zLI ?_
        refine zLP ?_
        refine zLI ?_
        refine zLI ?_
        refine zLI ?_
        refine zLI ?_
        refine L_build Tb_ok (t := 92) (len := 1) (el := 3) (sz := 1) (es := [[_]]) (z := [.int .i64 0]) rfl rfl rfl rfl rfl (by decide) trivial rfl rfl rfl rfl rfl ?_
        refine L_app1 Tb_ok (f := intC) (v := w64 (w64 (w64 (tapsTop s w at_ + ky) * s.W) + w64 (tapsLeft s w at_ + kx))) (tok := 2) (el := 3) (sz := 1) rfl rfl rfl rfl rfl ⟨trivial, trivial⟩ (fun _ => ⟨rfl, rfl⟩) (by rw [show (Tb.at 3).bytes = 8 from rfl]; omega) rfl ?_
        refine zLA ?_
        refine zn ?_
        refine zR ?_
        refine zLI ?_
        refine zLI ?_
        refine zLI ?_
        refine zn ?_
        refine for_end hlx (le_fit ⟨rfl, rfl, rfl, rfl, congrArg (fun z => AV.app 2 (List.map intC z)) hap, rfl, congrArg _ (w_succ hlx (by omega)), trivial⟩ ⟨.inr rfl, .inr rfl, trivial⟩ ⟨.inr (congrArg (fun z => some (3, 1, List.length z)) hap), trivial⟩ rfl rfl rfl rfl rfl)
    · have hje : kx = w.KW.toNat := by have := of_decide_eq_false h39; omega
      refine W_exit ?_
      repeat (first | refine pass_then ?_ | refine pass_for ?_)
      refine blockQ_hit ?_
      refine zR ?_
      refine zLI ?_
      refine zLI ?_
      refine zLI ?_
      refine zn ?_
      refine for_end hlt (le_fit ⟨rfl, rfl, rfl, rfl, by rw [hje, ← Nat.succ_mul]; rfl, congrArg _ (w_succ hlt (by omega)), trivial⟩ ⟨.inr rfl, .inr rfl, trivial⟩ ⟨.inr (by rw [hje, ← Nat.succ_mul]; rfl), trivial⟩ rfl rfl rfl rfl rfl)
  · have hke : ky = w.KH.toNat := by have := of_decide_eq_false h33; omega
    refine W_exit ?_
    repeat (first | refine pass_then ?_ | refine pass_for ?_)
    refine blockQ_hit ?_
    refine zs ?_
    refine zR ?_
    refine zLA ?_
    refine zLA ?_
    refine zn ?_
    refine zt ?_
    (refine ends (l := [.app _ _]) (q := .ro _) (.inr rfl) rfl ⟨trivial, trivial⟩ rfl rfl ?_)
    rw [hke, ← hLl, List.take_length]
end Go.AM
end
section
open Go Go.AM Go.Proofs
set_option maxRecDepth 10000
set_option linter.unusedVariables false
set_option linter.unusedSimpArgs false
namespace Go.AM
theorem take_snoc' {α : Type} [Inhabited α] {l : List α} {k : Nat} {v : α} (h : k < l.length) (hv : l.getD k default = v) : l.take k ++ [v] = l.take (k + 1) := by
  rw [List.take_add_one, ← hv]; simp [List.getD_eq_getElem?_getD, h]
theorem ref10_weight {s : Site} (hS : SiteOk s) (hln : lenF s.Op s.In = s.Len) {ch : Int} (hch : 1 ≤ ch ∧ ch ≤ s.Out.C) {i : Nat} (hi : i < s.Len.toNat) : Ok Try.prog 72 [.agg (rsiteC s), .int .i64 ch, .int .i64 (i : Int)] (.int .i64 (wtF s ch i)) := by
  have hl := hS.len
  have O := shapeB_iff.1 hS.outB
  have b2 : ch * s.Len ≤ 1024 * 512 := Int.mul_le_mul (by omega) hl.2 (by omega) (by omega)
  have hb : s.Op.Kind ≠ 4 → 0 ≤ w64 (w64 (w64 (ch - 1) * s.Len) + i) ∧ w64 (w64 (w64 (ch - 1) * s.Len) + i) < s.Op.Weights.length := by
    intro k4
    obtain ⟨w1, w2, w3, w4, w5, w6, w7⟩ := of_weights hS k4 hch
    have e : w64 (w64 (w64 (ch - 1) * s.Len) + (i : Int)) = (ch - 1) * s.Len + i := by rw [w1, w2]; exact w64_id (by omega)
    rw [e]; omega
  have hL := ref10_Length s
  rw [hln] at hL
  refine fn_ok Tb_ok (fn := Try.f72) Try.func72 rfl rfl (e := [(0, _), (1, _), (2, _)]) rfl (by decide) rfl ?_
  refine zs ?_
  refine zR ?_
  refine zbx [.int _ _, .int _ _, .int _ _, .int _ _, .int _ _, .int _ _, .int _ _, .int _ _, .int _ _, .int _ _, .int _ _, .int _ _, _, _, .int _ _, .int _ _, .int _ _, .int _ _, .int _ _, .int _ _, .int _ _, .int _ _, .int _ _, .int _ _, .int _ _, .int _ _, .int _ _, .int _ _] 28 ?_
  refine zLI ?_
  refine zn ?_
  refine zs ?_
  refine zs ?_
  refine zR ?_
  refine zLP ?_
  refine zLP ?_
  refine zLI ?_
  refine zLB ?_
  refine zn ?_
  refine W_cond (b := _) rfl (fun h10 => ?_) (fun h10 => ?_)
  · refine zs ?_
    refine zR ?_
    refine zLI ?_
    refine zn ?_
    refine zt ?_
    refine ends (l := [.int _ _]) (q := .int _ _) (.inr rfl) rfl ⟨trivial, trivial⟩ rfl rfl ?_
    have hk : s.Op.Kind = 4 := by simpa using h10
    simp [wtF, hk]
  · have hk : s.Op.Kind ≠ 4 := by simpa using h10
    obtain ⟨b0, b1⟩ := hb hk
    refine zk ?_
    refine zs ?_
    refine W_draw 14 Tb_mixed rfl (by decide) (by kernel_rfl) (by kernel_rfl) ?_
    refine zEP ?_
    refine zEP ?_
    refine zEO ?_
    refine zEI ?_
    refine zEI ?_
    refine zEG [.int _ _, .int _ _, .int _ _, .int _ _, .int _ _, .int _ _, .int _ _, .int _ _, .int _ _, .int _ _, .int _ _, .int _ _, _, _, .int _ _, .int _ _, .int _ _, .int _ _, .int _ _, .int _ _, .int _ _, .int _ _, .int _ _, .int _ _, .int _ _, .int _ _, .int _ _, .int _ _] ?_
    refine zEc (hL) ?_
    refine zEI ?_
    refine zEI ?_
    refine zEI ?_
    (refine E_v Tb_ok (v := _) (ave_index_ro rfl rfl rfl (fun _ => rfl) rfl (by first | exact b0 | exact b1) (by first | exact b0 | exact b1) trivial) rfl ?_)
    refine zEI ?_
    refine zEI ?_
    refine zEI ?_
    refine LexE_nil ?_
    refine zn ?_
    refine zt ?_
    refine ends (l := [.int _ _]) (q := .int _ _) (.inr rfl) rfl ⟨trivial, trivial⟩ rfl rfl ?_
    simp only [wtF, if_neg hk]; rfl
theorem ref10_Terms_dense {S : Site} (hS : SiteOk S) (hln : lenF S.Op S.In = S.Len) {ch at_ : Int} (hch : 1 ≤ ch ∧ ch ≤ S.Out.C) (k1 : S.Op.Kind = 1) : Ok Try.prog 53 [.agg (rsiteC S), .int .i64 ch, .int .i64 at_] (.ro ((tlF S ch at_).map termC)) := by
  have hc20 : (S.Op.Kind == 1) = true := by simp [k1]
  have hl := hS.len
  have hLl := tlF_len hS ch at_
  have hg : ∀ i, i < S.Len.toNat → (tlF S ch at_).getD i default = ⟨wtF S ch i, i⟩ := fun i hi => by rw [tlF_get hS hch at_ hi]; simp [atF, k1]
  have hL := ref10_Length S
  rw [hln] at hL
  generalize tlF S ch at_ = L at *
  refine fn_ok Tb_ok (fn := Try.f53) Try.func53 rfl rfl (e := [(0, _), (1, _), (2, _)]) rfl (by decide) rfl ?_
  refine zs ?_
  refine zR ?_
  refine zbx [.int _ _, .int _ _, .int _ _, .int _ _, .int _ _, .int _ _, .int _ _, .int _ _, .int _ _, .int _ _, .int _ _, .int _ _, _, _, .int _ _, .int _ _, .int _ _, .int _ _, .int _ _, .int _ _, .int _ _, .int _ _, .int _ _, .int _ _, .int _ _, .int _ _, .int _ _, .int _ _] 28 ?_
  refine zLN ?_
  refine zn ?_
  refine zs ?_
  refine zR ?_
  refine zLN ?_
  refine zn ?_
  refine zs ?_
  refine zR ?_
  refine zLG [.int _ _, .int _ _, .int _ _, .int _ _, .int _ _, .int _ _, .int _ _, .int _ _, .int _ _, .int _ _, .int _ _, .int _ _, _, _, .int _ _, .int _ _, .int _ _, .int _ _, .int _ _, .int _ _, .int _ _, .int _ _, .int _ _, .int _ _, .int _ _, .int _ _, .int _ _, .int _ _] ?_
  refine zLc (hL) ?_
  refine zLI ?_
  refine zn ?_
  refine zs ?_
  refine zs ?_
  refine zR ?_
  refine zLP ?_
  refine zLP ?_
  refine zLI ?_
  refine zLB ?_
  refine zn ?_
  refine W_cond_t (b := _) rfl (by exact hc20) ?_
  refine zs ?_
  refine zs ?_
  refine zR ?_
  refine zLI ?_
  refine zn ?_
  refine W_block ?_
  refine W_nils (t := 7) 61 2 rfl rfl ?_
  refine W_for S.Len.toNat (fun i => ⟨[(1, .int .i64 ch), (3, .ptr 0 0 0), (7, .app 1 ((L.take i).map termC)), (8, .int .i64 S.Len), (9, .int .i64 (i : Int))], [(0, some ⟨41, 28, 0, [rsiteC S]⟩)], [(1, some (61, 2, (L.take i).length))], 2⟩) (le_fit ⟨rfl, rfl, rfl, rfl, rfl, trivial⟩ ⟨.inr rfl, trivial⟩ ⟨.inr rfl, trivial⟩ rfl rfl rfl rfl rfl) ?_
  intro i hi
  have hlen : (L.take i).length ≤ 512 := by rw [List.length_take, hLl]; omega
  refine zs ?_
  refine zs ?_
  refine zR ?_
  refine zLI ?_
  refine zLI ?_
  refine zLB ?_
  refine zn ?_
  refine W_cond (b := _) rfl (fun h23 => ?_) (fun h23 => ?_)
  · have hlt : i < S.Len.toNat := by have := of_decide_eq_true h23; omega
    have hap := take_snoc' (by rw [hLl]; exact hlt) (hg i hlt)
    refine zk ?_
    refine zs ?_
    refine W_block ?_
    refine zR ?_
    refine zLA ?_
    refine zLG [.int _ _, .int _ _, .int _ _, .int _ _, .int _ _, .int _ _, .int _ _, .int _ _, .int _ _, .int _ _, .int _ _, .int _ _, _, _, .int _ _, .int _ _, .int _ _, .int _ _, .int _ _, .int _ _, .int _ _, .int _ _, .int _ _, .int _ _, .int _ _, .int _ _, .int _ _, .int _ _] ?_
    refine zLI ?_
    refine zLI ?_
    refine zLc (ref10_weight hS hln hch (i := i) hlt) ?_
    refine zLI ?_
    refine zLG [.int _ _, .int _ _] ?_
    refine L_build Tb_ok (t := 57) (len := 1) (el := 61) (sz := 2) (es := [[_, _]]) (z := [.int .i64 0, .int .i64 0]) rfl rfl rfl rfl rfl (by decide) trivial rfl rfl rfl rfl rfl ?_
    refine L_app1 Tb_ok (f := termC) (v := ⟨wtF S ch i, i⟩) (tok := 1) (el := 61) (sz := 2) rfl rfl rfl rfl rfl ⟨trivial, trivial⟩ (fun _ => ⟨rfl, rfl⟩) (by rw [show (Tb.at 61).bytes = 16 from rfl]; omega) rfl ?_
    refine zLA ?_
    refine zn ?_
    refine zR ?_
    refine zLI ?_
    refine zLI ?_
    refine zLI ?_
    refine zn ?_
    refine for_end hlt (le_fit ⟨rfl, rfl, congrArg (fun z => AV.app 1 (List.map termC z)) hap, rfl, congrArg _ (w_succ hlt (by omega)), trivial⟩ ⟨.inr rfl, trivial⟩ ⟨.inr (congrArg (fun z => some (61, 2, List.length z)) hap), trivial⟩ rfl rfl rfl rfl rfl)
  · have hke : i = S.Len.toNat := by have := of_decide_eq_false h23; omega
    refine W_exit ?_
    repeat (first | refine pass_then ?_ | refine pass_for ?_)
    refine blockQ_hit ?_
    refine zs ?_
    refine zR ?_
    refine zLA ?_
    refine zLA ?_
    refine zn ?_
    refine zt ?_
    (refine ends (l := [.app _ _]) (q := .ro _) (.inr rfl) rfl ⟨trivial, trivial⟩ rfl rfl ?_)
    rw [hke, ← hLl, List.take_length]
theorem ref10_Terms_conv {S : Site} (hS : SiteOk S) (hln : lenF S.Op S.In = S.Len) {ch at_ : Int} (hch : 1 ≤ ch ∧ ch ≤ S.Out.C) (hat : 0 ≤ at_ ∧ at_ < S.Out.H * S.Out.W) (k2 : S.Op.Kind = 2) : Ok Try.prog 53 [.agg (rsiteC S), .int .i64 ch, .int .i64 at_] (.ro ((tlF S ch at_).map termC)) := by
  have hc20 : (S.Op.Kind == 1) = false := by simp [k2]
  have hc54 : (S.Op.Kind == 2) = true := by simp [k2]
  have hl := hS.len
  have B := shapeB_iff.1 hS.inB
  have hCne : S.In.C ≠ 0 := by omega
  have hLl := tlF_len hS ch at_
  have hT := ref06_Taps S.In S.Op.Win at_ (taps_good hS (by omega) hat.1 hat.2)
  have hTn : tapN S.Op.Win * S.In.C.toNat = S.Len.toNat := by
    obtain ⟨h1, h2, h3⟩ := taps_win hS (by omega)
    unfold tapN
    rw [h1, hS.len2 k2, ← Int.toNat_mul (by omega) (by omega)]
  have hTl : (tapL S.In S.Op.Win (tapsTop S.In S.Op.Win at_) (tapsLeft S.In S.Op.Win at_)).length = tapN S.Op.Win := by simp [tapL]
  have hk : ∀ i, i < S.Len.toNat → i / S.In.C.toNat < tapN S.Op.Win := fun i hi => by rw [Nat.div_lt_iff_lt_mul (by omega), hTn]; exact hi
  have hq : ∀ i : Nat, i < S.Len.toNat → IntKind.i64.wrap ((i : Int).tdiv S.In.C) = ((i / S.In.C.toNat : Nat) : Int) := fun i hi => by
    have e : (i : Int).tdiv S.In.C = ((i / S.In.C.toNat : Nat) : Int) := by
      rw [Int.tdiv_eq_ediv_of_nonneg (by omega), Int.natCast_ediv]; congr 1; omega
    rw [e, w64_id]
    have : i / S.In.C.toNat ≤ i := Nat.div_le_self _ _
    generalize i / S.In.C.toNat = q at this ⊢
    omega
  have hr : ∀ i : Nat, (i : Int).tmod S.In.C = ((i % S.In.C.toNat : Nat) : Int) := fun i => by
    rw [Int.tmod_eq_emod_of_nonneg (by omega), Int.natCast_emod]; congr 1; omega
  have hTg : ∀ i, i < S.Len.toNat → (tapL S.In S.Op.Win (tapsTop S.In S.Op.Win at_) (tapsLeft S.In S.Op.Win at_)).getD (i / S.In.C.toNat) 0 = tapAt S at_ (i / S.In.C.toNat) := fun i hi => tapL_get (hk i hi)
  have hg : ∀ i, i < S.Len.toNat → (tlF S ch at_).getD i default = ⟨wtF S ch i, if tapAt S at_ (i / S.In.C.toNat) < 0 then -1 else w64 (w64 (tapAt S at_ (i / S.In.C.toNat) * S.In.C) + ((i % S.In.C.toNat : Nat) : Int))⟩ := fun i hi => by rw [tlF_get hS hch at_ hi]; simp [atF, k2]
  have hL := ref10_Length S
  rw [hln] at hL
  generalize tlF S ch at_ = L at *
  generalize tapL S.In S.Op.Win (tapsTop S.In S.Op.Win at_) (tapsLeft S.In S.Op.Win at_) = T at *
  refine fn_ok Tb_ok (fn := Try.f53) Try.func53 rfl rfl (e := [(0, _), (1, _), (2, _)]) rfl (by decide) rfl ?_
  refine zs ?_
  refine zR ?_
  refine zbx [.int _ _, .int _ _, .int _ _, .int _ _, .int _ _, .int _ _, .int _ _, .int _ _, .int _ _, .int _ _, .int _ _, .int _ _, _, _, .int _ _, .int _ _, .int _ _, .int _ _, .int _ _, .int _ _, .int _ _, .int _ _, .int _ _, .int _ _, .int _ _, .int _ _, .int _ _, .int _ _] 28 ?_
  refine zLN ?_
  refine zn ?_
  refine zs ?_
  refine zR ?_
  refine zLN ?_
  refine zn ?_
  refine zs ?_
  refine zR ?_
  refine zLG [.int _ _, .int _ _, .int _ _, .int _ _, .int _ _, .int _ _, .int _ _, .int _ _, .int _ _, .int _ _, .int _ _, .int _ _, _, _, .int _ _, .int _ _, .int _ _, .int _ _, .int _ _, .int _ _, .int _ _, .int _ _, .int _ _, .int _ _, .int _ _, .int _ _, .int _ _, .int _ _] ?_
  refine zLc (hL) ?_
  refine zLI ?_
  refine zn ?_
  refine zs ?_
  refine zs ?_
  refine zR ?_
  refine zLP ?_
  refine zLP ?_
  refine zLI ?_
  refine zLB ?_
  refine zn ?_
  refine W_cond_f (b := _) rfl (by exact hc20) ?_
  refine zk ?_
  refine zs ?_
  refine zR ?_
  refine zLP ?_
  refine zLG [.int _ _, .int _ _, .int _ _] ?_
  refine zLP ?_
  refine zLP ?_
  refine zLG [.int _ _, .int _ _, .int _ _, .int _ _, .int _ _, .int _ _, .int _ _, .int _ _] ?_
  refine zLI ?_
  refine zLc (hT) ?_
  refine zLO ?_
  refine zn ?_
  refine zs ?_
  refine zs ?_
  refine zR ?_
  refine zLI ?_
  refine zn ?_
  refine W_block ?_
  refine W_nils (t := 7) 61 2 rfl rfl ?_
  refine W_for S.Len.toNat (fun i => ⟨[(1, .int .i64 ch), (3, .ptr 0 0 0), (7, .app 1 ((L.take i).map termC)), (8, .int .i64 S.Len), (10, .ro (T.map intC)), (11, .int .i64 (i : Int))], [(0, some ⟨41, 28, 0, [rsiteC S]⟩)], [(1, some (61, 2, (L.take i).length))], 2⟩) (le_fit ⟨rfl, rfl, rfl, rfl, rfl, rfl, trivial⟩ ⟨.inr rfl, trivial⟩ ⟨.inr rfl, trivial⟩ rfl rfl rfl rfl rfl) ?_
  intro i hi
  have hlen : (L.take i).length ≤ 512 := by rw [List.length_take, hLl]; omega
  refine zs ?_
  refine zs ?_
  refine zR ?_
  refine zLI ?_
  refine zLI ?_
  refine zLB ?_
  refine zn ?_
  refine W_cond (b := _) rfl (fun h45 => ?_) (fun h45 => ?_)
  · have hlt : i < S.Len.toNat := by have := of_decide_eq_true h45; omega
    have hqi := hq i hlt
    have hgi := hg i hlt
    have ia0 : 0 ≤ IntKind.i64.wrap ((i : Int).tdiv S.In.C) := by rw [hqi]; exact Int.natCast_nonneg _
    have ia1 : IntKind.i64.wrap ((i : Int).tdiv S.In.C) < (T.length : Int) := by rw [hqi, hTl]; exact Int.ofNat_lt.2 (hk i hlt)
    have hTi : T.getD (IntKind.i64.wrap ((i : Int).tdiv S.In.C)).toNat 0 = tapAt S at_ (i / S.In.C.toNat) := by rw [hqi, Int.toNat_natCast]; exact hTg i hlt
    refine zk ?_
    refine zs ?_
    refine W_block ?_
    refine zs ?_
    refine zR ?_
    refine zLI ?_
    refine zLI ?_
    refine zLI ?_
    refine zLI ?_
    refine zLI ?_
    refine zn ?_
    refine zs ?_
    refine zs ?_
    refine zR ?_
    refine zLP ?_
    refine zLP ?_
    refine zLI ?_
    refine zLB ?_
    refine zn ?_
    refine W_cond_t (b := _) rfl (by exact hc54) ?_
    refine W_draw 12 Tb_mixed rfl (by decide) (by kernel_rfl) (by kernel_rfl) ?_
    refine zEI ?_
    refine zEP ?_
    refine zEP ?_
    refine zEI ?_
    refine E_v Tb_ok (v := .int _ _) (av rfl ⟨trivial, (by exact hCne)⟩) rfl ?_
    refine zEI ?_
    refine zEP ?_
    refine zEP ?_
    refine zEI ?_
    refine E_v Tb_ok (v := .int _ _) (av rfl ⟨trivial, (by exact hCne)⟩) rfl ?_
    refine zEI ?_
    refine zEI ?_
    refine LexE_nil ?_
    refine zn ?_
    refine zs ?_
    refine zR ?_
    refine zLG [.int _ _, .int _ _, .int _ _, .int _ _, .int _ _, .int _ _, .int _ _, .int _ _, .int _ _, .int _ _, .int _ _, .int _ _, _, _, .int _ _, .int _ _, .int _ _, .int _ _, .int _ _, .int _ _, .int _ _, .int _ _, .int _ _, .int _ _, .int _ _, .int _ _, .int _ _, .int _ _] ?_
    refine zLI ?_
    refine zLI ?_
    refine zLc (ref10_weight hS hln hch (i := i) hlt) ?_
    refine zLG [.int _ _, .int _ _] ?_
    refine zal [.int .i64 0, .int .i64 0] 2 ?_
    refine zst (.agg [.int _ _, .int _ _]) [_, _] [[_, _]] ?_
    refine zn ?_
    refine zs ?_
    refine zs ?_
    refine zR ?_
    refine zLO ?_
    refine zLI ?_
    (refine L_v Tb_ok (v := _) (ave_index_ro rfl rfl rfl (fun _ => rfl) rfl (by first | exact ia0 | exact ia1 | (rw [List.length_map]; exact ia1)) (by first | exact ia0 | exact ia1 | (rw [List.length_map]; exact ia1)) trivial) rfl ?_)
    refine zLI ?_
    refine zLB ?_
    refine zn ?_
    refine W_cond (b := _) rfl (fun h74 => ?_) (fun h74 => ?_)
    · have h0 : ¬ tapAt S at_ (i / S.In.C.toNat) < 0 := by have := of_decide_eq_true h74; rw [← hTi]; exact Int.not_lt.2 this
      have hap := take_snoc' (v := (⟨wtF S ch i, w64 (w64 (T.getD (IntKind.i64.wrap ((i : Int).tdiv S.In.C)).toNat 0 * S.In.C) + (i : Int).tmod S.In.C)⟩ : Term)) (by rw [hLl]; exact hlt) (by rw [hgi, if_neg h0, hTi, hr])
      refine W_draw 11 Tb_mixed rfl (by decide) (by kernel_rfl) (by kernel_rfl) ?_
      refine zEO ?_
      refine zEI ?_
      (refine E_v Tb_ok (v := _) (ave_index_ro rfl rfl rfl (fun _ => rfl) rfl (by first | exact ia0 | exact ia1 | (rw [List.length_map]; exact ia1)) (by first | exact ia0 | exact ia1 | (rw [List.length_map]; exact ia1)) trivial) rfl ?_)
      refine zEI ?_
      refine zEP ?_
      refine zEP ?_
      refine zEI ?_
      refine zEI ?_
      refine zEI ?_
      refine zEI ?_
      refine zEP ?_
      refine LexE_nil ?_
      refine zst (.int _ _) [_] [[_, _]] ?_
      refine zn ?_
      refine zR ?_
      refine zLA ?_
      refine zLG [.int _ _, .int _ _] ?_
      refine L_build Tb_ok (t := 57) (len := 1) (el := 61) (sz := 2) (es := [[_, _]]) (z := [.int .i64 0, .int .i64 0]) rfl rfl rfl rfl rfl (by decide) trivial rfl rfl rfl rfl rfl ?_
      refine L_app1 Tb_ok (f := termC) (v := ⟨wtF S ch i, w64 (w64 (T.getD (IntKind.i64.wrap ((i : Int).tdiv S.In.C)).toNat 0 * S.In.C) + (i : Int).tmod S.In.C)⟩) (tok := 1) (el := 61) (sz := 2) rfl rfl rfl rfl rfl ⟨trivial, trivial⟩ (fun _ => ⟨rfl, rfl⟩) (by rw [show (Tb.at 61).bytes = 16 from rfl]; omega) rfl ?_
      refine zLA ?_
      refine zn ?_
      refine zR ?_
      refine zLI ?_
      refine zLI ?_
      refine zLI ?_
      refine zn ?_
      refine for_end hlt (le_fit ⟨rfl, rfl, congrArg (fun z => AV.app 1 (List.map termC z)) hap, rfl, rfl, congrArg _ (w_succ hlt (by omega)), trivial⟩ ⟨.inr rfl, trivial⟩ ⟨.inr (congrArg (fun z => some (61, 2, List.length z)) hap), trivial⟩ rfl rfl rfl rfl rfl)
    · have h0 : tapAt S at_ (i / S.In.C.toNat) < 0 := by have := of_decide_eq_false h74; rw [← hTi]; exact Int.not_le.1 this
      have hap := take_snoc' (v := (⟨wtF S ch i, -1⟩ : Term)) (by rw [hLl]; exact hlt) (by rw [hgi, if_pos h0])
      refine zk ?_
      refine zR ?_
      refine zLA ?_
      refine zLG [.int _ _, .int _ _] ?_
      refine L_build Tb_ok (t := 57) (len := 1) (el := 61) (sz := 2) (es := [[_, _]]) (z := [.int .i64 0, .int .i64 0]) rfl rfl rfl rfl rfl (by decide) trivial rfl rfl rfl rfl rfl ?_
      refine L_app1 Tb_ok (f := termC) (v := ⟨wtF S ch i, -1⟩) (tok := 1) (el := 61) (sz := 2) rfl rfl rfl rfl rfl ⟨trivial, trivial⟩ (fun _ => ⟨rfl, rfl⟩) (by rw [show (Tb.at 61).bytes = 16 from rfl]; omega) rfl ?_
      refine zLA ?_
      refine zn ?_
      refine zR ?_
      refine zLI ?_
      refine zLI ?_
      refine zLI ?_
      refine zn ?_
      refine for_end hlt (le_fit ⟨rfl, rfl, congrArg (fun z => AV.app 1 (List.map termC z)) hap, rfl, rfl, congrArg _ (w_succ hlt (by omega)), trivial⟩ ⟨.inr rfl, trivial⟩ ⟨.inr (congrArg (fun z => some (61, 2, List.length z)) hap), trivial⟩ rfl rfl rfl rfl rfl)
  · have hke : i = S.Len.toNat := by have := of_decide_eq_false h45; omega
    refine W_exit ?_
    repeat (first | refine pass_then ?_ | refine pass_for ?_)
    refine blockQ_hit ?_
    refine zs ?_
    refine zR ?_
    refine zLA ?_
    refine zLA ?_
    refine zn ?_
    refine zt ?_
    (refine ends (l := [.app _ _]) (q := .ro _) (.inr rfl) rfl ⟨trivial, trivial⟩ rfl rfl ?_)
    rw [hke, ← hLl, List.take_length]
theorem ref10_Terms_rest {S : Site} (hS : SiteOk S) (hln : lenF S.Op S.In = S.Len) {ch at_ : Int} (hch : 1 ≤ ch ∧ ch ≤ S.Out.C) (hat : 0 ≤ at_ ∧ at_ < S.Out.H * S.Out.W) (k1 : S.Op.Kind ≠ 1) (k2 : S.Op.Kind ≠ 2) : Ok Try.prog 53 [.agg (rsiteC S), .int .i64 ch, .int .i64 at_] (.ro ((tlF S ch at_).map termC)) := by
  have hc20 : (S.Op.Kind == 1) = false := by simp [k1]
  have hc54 : (S.Op.Kind == 2) = false := by simp [k2]
  have hl := hS.len
  have B := shapeB_iff.1 hS.inB
  have hCne : S.In.C ≠ 0 := by omega
  have hLl := tlF_len hS ch at_
  have hT := ref06_Taps S.In S.Op.Win at_ (taps_good hS k1 hat.1 hat.2)
  have hTn : tapN S.Op.Win = S.Len.toNat := by
    obtain ⟨h1, h2, h3⟩ := taps_win hS k1
    unfold tapN
    rw [h1, hS.len3 (by have := hS.kind; omega)]
  have hTl : (tapL S.In S.Op.Win (tapsTop S.In S.Op.Win at_) (tapsLeft S.In S.Op.Win at_)).length = tapN S.Op.Win := by simp [tapL]
  have hTg : ∀ i, i < S.Len.toNat → (tapL S.In S.Op.Win (tapsTop S.In S.Op.Win at_) (tapsLeft S.In S.Op.Win at_)).getD i 0 = tapAt S at_ i := fun i hi => tapL_get (by omega)
  have hg : ∀ i, i < S.Len.toNat → (tlF S ch at_).getD i default = ⟨wtF S ch i, if tapAt S at_ i < 0 then -1 else w64 (w64 (tapAt S at_ i * S.In.C) + (ch - 1))⟩ := fun i hi => by rw [tlF_get hS hch at_ hi]; simp [atF, k1, k2]
  have hcw : w64 (ch - 1) = ch - 1 := by have O := shapeB_iff.1 hS.outB; exact w64_id (by omega)
  have hL := ref10_Length S
  rw [hln] at hL
  generalize tlF S ch at_ = L at *
  generalize tapL S.In S.Op.Win (tapsTop S.In S.Op.Win at_) (tapsLeft S.In S.Op.Win at_) = T at *
  refine fn_ok Tb_ok (fn := Try.f53) Try.func53 rfl rfl (e := [(0, _), (1, _), (2, _)]) rfl (by decide) rfl ?_
  refine zs ?_
  refine zR ?_
  refine zbx [.int _ _, .int _ _, .int _ _, .int _ _, .int _ _, .int _ _, .int _ _, .int _ _, .int _ _, .int _ _, .int _ _, .int _ _, _, _, .int _ _, .int _ _, .int _ _, .int _ _, .int _ _, .int _ _, .int _ _, .int _ _, .int _ _, .int _ _, .int _ _, .int _ _, .int _ _, .int _ _] 28 ?_
  refine zLN ?_
  refine zn ?_
  refine zs ?_
  refine zR ?_
  refine zLN ?_
  refine zn ?_
  refine zs ?_
  refine zR ?_
  refine zLG [.int _ _, .int _ _, .int _ _, .int _ _, .int _ _, .int _ _, .int _ _, .int _ _, .int _ _, .int _ _, .int _ _, .int _ _, _, _, .int _ _, .int _ _, .int _ _, .int _ _, .int _ _, .int _ _, .int _ _, .int _ _, .int _ _, .int _ _, .int _ _, .int _ _, .int _ _, .int _ _] ?_
  refine zLc (hL) ?_
  refine zLI ?_
  refine zn ?_
  refine zs ?_
  refine zs ?_
  refine zR ?_
  refine zLP ?_
  refine zLP ?_
  refine zLI ?_
  refine zLB ?_
  refine zn ?_
  refine W_cond_f (b := _) rfl (by exact hc20) ?_
  refine zk ?_
  refine zs ?_
  refine zR ?_
  refine zLP ?_
  refine zLG [.int _ _, .int _ _, .int _ _] ?_
  refine zLP ?_
  refine zLP ?_
  refine zLG [.int _ _, .int _ _, .int _ _, .int _ _, .int _ _, .int _ _, .int _ _, .int _ _] ?_
  refine zLI ?_
  refine zLc (hT) ?_
  refine zLO ?_
  refine zn ?_
  refine zs ?_
  refine zs ?_
  refine zR ?_
  refine zLI ?_
  refine zn ?_
  refine W_block ?_
  refine W_nils (t := 7) 61 2 rfl rfl ?_
  refine W_for S.Len.toNat (fun i => ⟨[(1, .int .i64 ch), (3, .ptr 0 0 0), (7, .app 1 ((L.take i).map termC)), (8, .int .i64 S.Len), (10, .ro (T.map intC)), (11, .int .i64 (i : Int))], [(0, some ⟨41, 28, 0, [rsiteC S]⟩)], [(1, some (61, 2, (L.take i).length))], 2⟩) (le_fit ⟨rfl, rfl, rfl, rfl, rfl, rfl, trivial⟩ ⟨.inr rfl, trivial⟩ ⟨.inr rfl, trivial⟩ rfl rfl rfl rfl rfl) ?_
  intro i hi
  have hlen : (L.take i).length ≤ 512 := by rw [List.length_take, hLl]; omega
  refine zs ?_
  refine zs ?_
  refine zR ?_
  refine zLI ?_
  refine zLI ?_
  refine zLB ?_
  refine zn ?_
  refine W_cond (b := _) rfl (fun h45 => ?_) (fun h45 => ?_)
  · have hlt : i < S.Len.toNat := by have := of_decide_eq_true h45; omega
    have hgi := hg i hlt
    have ia0 : 0 ≤ ((i : Nat) : Int) := Int.natCast_nonneg _
    have ia1 : ((i : Nat) : Int) < (T.length : Int) := by rw [hTl, hTn]; exact Int.ofNat_lt.2 hlt
    have hTi : T.getD ((i : Nat) : Int).toNat 0 = tapAt S at_ i := by rw [Int.toNat_natCast]; exact hTg i hlt
    refine zk ?_
    refine zs ?_
    refine W_block ?_
    refine zs ?_
    refine zR ?_
    refine zLI ?_
    refine zLI ?_
    refine zLI ?_
    refine zLI ?_
    refine zLI ?_
    refine zn ?_
    refine zs ?_
    refine zs ?_
    refine zR ?_
    refine zLP ?_
    refine zLP ?_
    refine zLI ?_
    refine zLB ?_
    refine zn ?_
    refine W_cond_f (b := _) rfl (by exact hc54) ?_
    refine zk ?_
    refine zs ?_
    refine zR ?_
    refine zLG [.int _ _, .int _ _, .int _ _, .int _ _, .int _ _, .int _ _, .int _ _, .int _ _, .int _ _, .int _ _, .int _ _, .int _ _, _, _, .int _ _, .int _ _, .int _ _, .int _ _, .int _ _, .int _ _, .int _ _, .int _ _, .int _ _, .int _ _, .int _ _, .int _ _, .int _ _, .int _ _] ?_
    refine zLI ?_
    refine zLI ?_
    refine zLc (ref10_weight hS hln hch (i := i) hlt) ?_
    refine zLG [.int _ _, .int _ _] ?_
    refine zal [.int .i64 0, .int .i64 0] 2 ?_
    refine zst (.agg [.int _ _, .int _ _]) [_, _] [[_, _]] ?_
    refine zn ?_
    refine zs ?_
    refine zs ?_
    refine zR ?_
    refine zLO ?_
    refine zLI ?_
    (refine L_v Tb_ok (v := _) (ave_index_ro rfl rfl rfl (fun _ => rfl) rfl (by first | exact ia0 | exact ia1 | (rw [List.length_map]; exact ia1)) (by first | exact ia0 | exact ia1 | (rw [List.length_map]; exact ia1)) trivial) rfl ?_)
    refine zLI ?_
    refine zLB ?_
    refine zn ?_
    refine W_cond (b := _) rfl (fun h74 => ?_) (fun h74 => ?_)
    · have h0 : ¬ tapAt S at_ i < 0 := by have := of_decide_eq_true h74; rw [← hTi]; exact Int.not_lt.2 this
      have hap := take_snoc' (v := (⟨wtF S ch i, w64 (w64 (T.getD ((i : Nat) : Int).toNat 0 * S.In.C) + w64 (ch - 1))⟩ : Term)) (by rw [hLl]; exact hlt) (by rw [hgi, if_neg h0, hTi, hcw])
      refine W_draw 11 Tb_mixed rfl (by decide) (by kernel_rfl) (by kernel_rfl) ?_
      refine zEO ?_
      refine zEI ?_
      (refine E_v Tb_ok (v := _) (ave_index_ro rfl rfl rfl (fun _ => rfl) rfl (by first | exact ia0 | exact ia1 | (rw [List.length_map]; exact ia1)) (by first | exact ia0 | exact ia1 | (rw [List.length_map]; exact ia1)) trivial) rfl ?_)
      refine zEI ?_
      refine zEP ?_
      refine zEP ?_
      refine zEI ?_
      refine zEI ?_
      refine zEI ?_
      refine zEI ?_
      refine zEP ?_
      refine LexE_nil ?_
      refine zst (.int _ _) [_] [[_, _]] ?_
      refine zn ?_
      refine zR ?_
      refine zLA ?_
      refine zLG [.int _ _, .int _ _] ?_
      refine L_build Tb_ok (t := 57) (len := 1) (el := 61) (sz := 2) (es := [[_, _]]) (z := [.int .i64 0, .int .i64 0]) rfl rfl rfl rfl rfl (by decide) trivial rfl rfl rfl rfl rfl ?_
      refine L_app1 Tb_ok (f := termC) (v := ⟨wtF S ch i, w64 (w64 (T.getD ((i : Nat) : Int).toNat 0 * S.In.C) + w64 (ch - 1))⟩) (tok := 1) (el := 61) (sz := 2) rfl rfl rfl rfl rfl ⟨trivial, trivial⟩ (fun _ => ⟨rfl, rfl⟩) (by rw [show (Tb.at 61).bytes = 16 from rfl]; omega) rfl ?_
      refine zLA ?_
      refine zn ?_
      refine zR ?_
      refine zLI ?_
      refine zLI ?_
      refine zLI ?_
      refine zn ?_
      refine for_end hlt (le_fit ⟨rfl, rfl, congrArg (fun z => AV.app 1 (List.map termC z)) hap, rfl, rfl, congrArg _ (w_succ hlt (by omega)), trivial⟩ ⟨.inr rfl, trivial⟩ ⟨.inr (congrArg (fun z => some (61, 2, List.length z)) hap), trivial⟩ rfl rfl rfl rfl rfl)
    · have h0 : tapAt S at_ i < 0 := by have := of_decide_eq_false h74; rw [← hTi]; exact Int.not_le.1 this
      have hap := take_snoc' (v := (⟨wtF S ch i, -1⟩ : Term)) (by rw [hLl]; exact hlt) (by rw [hgi, if_pos h0])
      refine zk ?_
      refine zR ?_
      refine zLA ?_
      refine zLG [.int _ _, .int _ _] ?_
      refine L_build Tb_ok (t := 57) (len := 1) (el := 61) (sz := 2) (es := [[_, _]]) (z := [.int .i64 0, .int .i64 0]) rfl rfl rfl rfl rfl (by decide) trivial rfl rfl rfl rfl rfl ?_
      refine L_app1 Tb_ok (f := termC) (v := ⟨wtF S ch i, -1⟩) (tok := 1) (el := 61) (sz := 2) rfl rfl rfl rfl rfl ⟨trivial, trivial⟩ (fun _ => ⟨rfl, rfl⟩) (by rw [show (Tb.at 61).bytes = 16 from rfl]; omega) rfl ?_
      refine zLA ?_
      refine zn ?_
      refine zR ?_
      refine zLI ?_
      refine zLI ?_
      refine zLI ?_
      refine zn ?_
      refine for_end hlt (le_fit ⟨rfl, rfl, congrArg (fun z => AV.app 1 (List.map termC z)) hap, rfl, rfl, congrArg _ (w_succ hlt (by omega)), trivial⟩ ⟨.inr rfl, trivial⟩ ⟨.inr (congrArg (fun z => some (61, 2, List.length z)) hap), trivial⟩ rfl rfl rfl rfl rfl)
  · have hke : i = S.Len.toNat := by have := of_decide_eq_false h45; omega
    refine W_exit ?_
    repeat (first | refine pass_then ?_ | refine pass_for ?_)
    refine blockQ_hit ?_
    refine zs ?_
    refine zR ?_
    refine zLA ?_
    refine zLA ?_
    refine zn ?_
    refine zt ?_
    (refine ends (l := [.app _ _]) (q := .ro _) (.inr rfl) rfl ⟨trivial, trivial⟩ rfl rfl ?_)
    rw [hke, ← hLl, List.take_length]
theorem ref10_Terms {S : Site} (hS : SiteOk S) (hln : lenF S.Op S.In = S.Len) {ch at_ : Int} (hch : 1 ≤ ch ∧ ch ≤ S.Out.C) (hat : 0 ≤ at_ ∧ at_ < S.Out.H * S.Out.W) : Ok Try.prog 53 [.agg (rsiteC S), .int .i64 ch, .int .i64 at_] (.ro ((tlF S ch at_).map termC)) := by
  by_cases k1 : S.Op.Kind = 1
  · exact ref10_Terms_dense hS hln hch k1
  · by_cases k2 : S.Op.Kind = 2
    · exact ref10_Terms_conv hS hln hch hat k2
    · exact ref10_Terms_rest hS hln hch hat k1 k2
end Go.AM
end
section
open Go Go.AM
set_option linter.unusedVariables false
set_option linter.unusedSimpArgs false
namespace Go.AM
theorem rfE_bad {m : Model} {op ch : Int} (h : findE m op ≠ 0) : rfE m op ch = findE m op := by unfold rfE; rw [if_neg h]
theorem rcE_bad {m : Model} {op ch : Int} (h : findE m op ≠ 0) : rcE m op ch = findE m op := by
  unfold rcE
  rw [rfE_bad h]
  have : (findE m op == 0) = false := by simpa using h
  rw [this]; rfl
theorem rc_ok {m : Model} {op ch : Int} (h : findE m op = 0) : (1 ≤ ch ∧ ch ≤ (findS m op).Out.C → rcE m op ch = 0 ∧ rcS m op ch = findS m op) ∧ (¬ (1 ≤ ch ∧ ch ≤ (findS m op).Out.C) → rcE m op ch = 3) := by
  obtain ⟨hS, _⟩ := site_ok h
  have O := shapeB_iff.1 hS.outB
  constructor
  · rintro ⟨h1, h2⟩
    have c1 : ¬ ch < 0 := by omega
    have c2 : ¬ ch > (findS m op).Out.C := by omega
    have e : rfE m op ch = 0 := by simp [rfE, h, c1, c2]
    have z : (ch == 0) = false := by simp; omega
    simp [rcE, rcS, e, z, rfS]
  · intro hn
    by_cases h0 : ch = 0
    · subst h0
      have c2 : ¬ (0 : Int) > (findS m op).Out.C := by omega
      have e : rfE m op 0 = 0 := by simp [rfE, h, c2]
      simp [rcE, e]
    · have z : (ch == 0) = false := by simpa using h0
      have e : rfE m op ch = 3 := by
        by_cases c1 : ch < 0
        · simp [rfE, h, c1]
        · have c2 : ch > (findS m op).Out.C := by omega
          simp [rfE, h, c2]
      simp [rcE, e]
theorem rcE_zero {m : Model} {op ch : Int} (h : rcE m op ch = 0) : findE m op = 0 ∧ (1 ≤ ch ∧ ch ≤ (findS m op).Out.C) ∧ rcS m op ch = findS m op := by
  by_cases h0 : findE m op = 0
  · by_cases hc : 1 ≤ ch ∧ ch ≤ (findS m op).Out.C
    · exact ⟨h0, hc, ((rc_ok h0).1 hc).2⟩
    · rw [(rc_ok h0).2 hc] at h; omega
  · rw [rcE_bad h0] at h; exact absurd h h0
theorem ofE_rc {m : Model} {op ch at_ : Int} : ofE m op ch at_ = (bif (bif rcE m op ch == 0 then bif decide (at_ < 0) then true else decide (at_ ≥ w64 ((rcS m op ch).Out.H * (rcS m op ch).Out.W)) else false) then 3 else rcE m op ch) := by
  by_cases h0 : findE m op = 0
  · obtain ⟨hS, _⟩ := site_ok h0
    unfold ofE
    rw [if_pos h0]
    by_cases hc : 1 ≤ ch ∧ ch ≤ (findS m op).Out.C
    · obtain ⟨e1, e2⟩ := (rc_ok h0).1 hc
      rw [e1, e2, (out_pos hS).1]
      cases hb : ofBad (findS m op) ch at_ with
      | true =>
        have : ¬ (0 ≤ at_ ∧ at_ < (findS m op).Out.H * (findS m op).Out.W) := fun h => by
          have := (ofBad_iff hS).2 ⟨hc, h⟩; rw [hb] at this; cases this
        by_cases c1 : at_ < 0
        · simp [c1]
        · have c2 : at_ ≥ (findS m op).Out.H * (findS m op).Out.W := by omega
          simp [c2]
      | false =>
        obtain ⟨_, h1, h2⟩ := (ofBad_iff hS).1 hb
        have c1 : ¬ at_ < 0 := by omega
        have c2 : ¬ at_ ≥ (findS m op).Out.H * (findS m op).Out.W := by omega
        simp [c1, c2]
    · rw [(rc_ok h0).2 hc]
      have : ofBad (findS m op) ch at_ = true := by
        cases hb : ofBad (findS m op) ch at_ with
        | true => rfl
        | false => exact absurd ((ofBad_iff hS).1 hb).1 hc
      simp [this]
  · rw [rcE_bad h0]
    have z : (findE m op == 0) = false := by simpa using h0
    unfold ofE; rw [if_neg h0, z]; rfl
theorem ofE_rc0 {m : Model} {op ch : Int} : ofE m op ch 0 = rcE m op ch := by
  rw [ofE_rc]
  cases hq : rcE m op ch == 0 with
  | false => rfl
  | true =>
    obtain ⟨h0, hc, e⟩ := rcE_zero (by simpa using hq)
    obtain ⟨hS, _⟩ := site_ok h0
    obtain ⟨p1, p2, _⟩ := out_pos hS
    have c2 : ¬ (0 : Int) ≥ (findS m op).Out.H * (findS m op).Out.W := by omega
    rw [e, p1]; simp [c2]
theorem bias_eq {m : Model} {op ch at_ : Int} (h0 : findE m op = 0) (hb : ofBad (findS m op) ch at_ = false) : biasF m op ch at_ = if (findS m op).Op.Kind = 4 then 0 else w64 ((findS m op).Op.Bias.getD (w64 (ch - 1)).toNat default) := by
  simp [biasF, h0, hb]
theorem bias_ix {S : Site} (hS : SiteOk S) {ch : Int} (hch : 1 ≤ ch ∧ ch ≤ S.Out.C) : S.Op.Kind ≠ 4 → 0 ≤ w64 (ch - 1) ∧ w64 (ch - 1) < S.Op.Bias.length := fun k4 => by
  obtain ⟨w1, _, _, _, _, _, w7⟩ := of_weights hS k4 hch
  rw [w1]; omega
end Go.AM
end
section
open Go Go.AM Go.Proofs
set_option maxRecDepth 10000
set_option linter.unusedVariables false
set_option linter.unusedSimpArgs false
namespace Go.AM
theorem mp_terms : termsF mPlain 1 1 0 = [⟨3, 0⟩, ⟨-2, 1⟩] := by decide +kernel
theorem mp_ofE : ofE mPlain 1 1 0 = 0 := by decide +kernel
theorem mp_bias : biasF mPlain 1 1 0 = 1 := by decide +kernel
end Go.AM
end
section
open Go Go.AM Go.Proofs
set_option maxRecDepth 10000
set_option linter.unusedVariables false
set_option linter.unusedSimpArgs false
namespace Go.AM
def rReach (o : MOp) (s : Span) : Int := bif decide (w64 (w64 (w64 (o.Win.Top + o.Win.Left) + o.Win.Bottom) + o.Win.Right) > 0) then mx (mx (mx s.Lo (w64 (0 - s.Lo))) (mx s.Hi (w64 (0 - s.Hi)))) (mx o.Pad (w64 (0 - o.Pad))) else mx (mx s.Lo (w64 (0 - s.Lo))) (mx s.Hi (w64 (0 - s.Hi)))
def rUp (l : List Term) : Int := l.foldl (fun s t => if t.W > 0 then w64 (s + t.W) else s) 0
def rDown (l : List Term) : Int := l.foldl (fun s t => if t.W > 0 then s else w64 (s + t.W)) 0
/-- the sums are the same -/
theorem rUp_eq (l : List Term) (h : ∀ t ∈ l, -32768 ≤ t.W ∧ t.W ≤ 32767) (hl : l.length ≤ 512) : rUp l = upF l ∧ rDown l = downF l := by
  have up : ∀ (l : List Term), (∀ t ∈ l, -32768 ≤ t.W ∧ t.W ≤ 32767) → ∀ s : Int, 0 ≤ s → s + 32767 * l.length ≤ 4611686018427387904 → l.foldl (fun s t => if t.W > 0 then w64 (s + t.W) else s) s = l.foldl (fun s t => w64 (s + mx t.W 0)) s := by
    intro l
    induction l with
    | nil => intro _ s _ _; rfl
    | cons t r ih =>
      intro h s h0 h1
      have ht := h t (by simp)
      have hlen : ((t :: r).length : Int) = r.length + 1 := by simp
      rw [hlen] at h1
      rw [List.foldl_cons, List.foldl_cons]
      have e : (if t.W > 0 then w64 (s + t.W) else s) = w64 (s + mx t.W 0) := by
        rw [mx_eq]
        split
        · rw [Int.max_eq_left (by omega)]
        · rw [Int.max_eq_right (by omega), Int.add_zero]; exact (w64_id (by omega)).symm
      rw [e]
      have hm : 0 ≤ mx t.W 0 ∧ mx t.W 0 ≤ 32767 := by rw [mx_eq]; omega
      exact ih (fun u hu => h u (by simp [hu])) _ (by rw [show w64 _ = _ from w64_id (by omega)]; omega) (by rw [show w64 _ = _ from w64_id (by omega)]; omega)
  have down : ∀ (l : List Term), (∀ t ∈ l, -32768 ≤ t.W ∧ t.W ≤ 32767) → ∀ s : Int, s ≤ 0 → -4611686018427387904 ≤ s - 32768 * l.length → l.foldl (fun s t => if t.W > 0 then s else w64 (s + t.W)) s = l.foldl (fun s t => w64 (s + mn t.W 0)) s := by
    intro l
    induction l with
    | nil => intro _ s _ _; rfl
    | cons t r ih =>
      intro h s h0 h1
      have ht := h t (by simp)
      have hlen : ((t :: r).length : Int) = r.length + 1 := by simp
      rw [hlen] at h1
      rw [List.foldl_cons, List.foldl_cons]
      have e : (if t.W > 0 then s else w64 (s + t.W)) = w64 (s + mn t.W 0) := by
        rw [mn_eq]
        split
        · rw [Int.min_eq_right (by omega), Int.add_zero]; exact (w64_id (by omega)).symm
        · rw [Int.min_eq_left (by omega)]
      rw [e]
      have hm : mn t.W 0 ≤ 0 ∧ -32768 ≤ mn t.W 0 := by rw [mn_eq]; omega
      exact ih (fun u hu => h u (by simp [hu])) _ (by rw [show w64 _ = _ from w64_id (by omega)]; omega) (by rw [show w64 _ = _ from w64_id (by omega)]; omega)
  exact ⟨up l h 0 (by omega) (by omega), down l h 0 (by omega) (by omega)⟩
theorem rReach_eq {S : Site} (hS : SiteOk S) {s : Span} (hs : -128 ≤ s.Lo ∧ s.Lo ≤ s.Hi ∧ s.Hi ≤ 127) : rReach S.Op s = reachV S.Op s := by
  have hp := (pad_bd hS).1
  have e1 : w64 (0 - s.Lo) = -s.Lo := by rw [show w64 _ = _ from w64_id (by omega)]; omega
  have e2 : w64 (0 - s.Hi) = -s.Hi := by rw [show w64 _ = _ from w64_id (by omega)]; omega
  have e3 : w64 (0 - S.Op.Pad) = -S.Op.Pad := by rw [show w64 _ = _ from w64_id (by omega)]; omega
  have hW : (0 ≤ S.Op.Win.Top ∧ S.Op.Win.Top ≤ 32) ∧ (0 ≤ S.Op.Win.Left ∧ S.Op.Win.Left ≤ 32) ∧ (0 ≤ S.Op.Win.Bottom ∧ S.Op.Win.Bottom ≤ 32) ∧ (0 ≤ S.Op.Win.Right ∧ S.Op.Win.Right ≤ 32) := by
    by_cases k1 : S.Op.Kind = 1
    · have he := hS.emp
      unfold op3 at he
      simp only [k1, ofU, bareF, bare8, bare7, bare6, bare5, bare4, bare3, bare2, bare1, emptyB, winEq] at he
      simp at he
      omega
    · have W := windowB_iff (hS.win k1).1; omega
  have eP : qPads S.Op.Win = decide (w64 (w64 (w64 (S.Op.Win.Top + S.Op.Win.Left) + S.Op.Win.Bottom) + S.Op.Win.Right) > 0) := by
    rw [show w64 (S.Op.Win.Top + S.Op.Win.Left) = _ from w64_id (by omega), show w64 (S.Op.Win.Top + S.Op.Win.Left + S.Op.Win.Bottom) = _ from w64_id (by omega), show w64 _ = _ from w64_id (by omega)]
    unfold qPads
    simp only [mx_eq]
    exact decide_eq_decide.2 (by omega)
  unfold rReach reachV
  rw [← eP, e1, e2, e3]
  simp only [mx_eq]
  cases qPads S.Op.Win <;> simp <;> omega
end Go.AM
end
section
open Go Go.AM Go.Proofs
set_option maxRecDepth 10000
set_option linter.unusedVariables false
set_option linter.unusedSimpArgs false
namespace Go.AM
def evalL (m : Model) (x : List Int) : List Int := if (tensFt m x).Err = 0 then (tensL m x).getD m.Out.toNat default else []
theorem tens_zero {m : Model} {x : List Int} (h : (tensFt m x).Err = 0) : (wholeF m).2.2.Err = 0 ∧ inputB m x = true ∧ tensFt m x = ⟨0, 0, 0⟩ ∧ tensL m x = tensG m x m.Ops.length := by
  unfold tensL; rw [if_pos h]; unfold tensFt at h ⊢
  by_cases c : (wholeF m).2.2.Err = 0
  · rw [if_pos c] at h ⊢
    by_cases d : inputB m x = true
    · rw [if_pos d] at h ⊢; exact ⟨c, d, rfl, rfl⟩
    · rw [if_neg d] at h; simp at h
  · rw [if_neg c] at h; exact absurd h c
theorem plain_Eval (m : Model) (hm : m.Wf) (x : List Int) (hx : B8 x) : Ok Try.prog 18 [.agg (modelC m), .ro (x.map i8C)] (.tup [.ro ((evalL m x).map i8C), .agg (faultC (tensFt m x))]) := by
  --@@1
  skip
  refine fn_ok Tb_ok (fn := Try.f18) Try.func18 rfl rfl (e := [(0, _), (1, _)]) rfl (by decide) rfl ?_
  refine zs ?_
  refine zR ?_
  refine zbx [.int _ _, .int _ _, .int _ _, .int _ _, .int _ _, _, .int _ _] 7 ?_
  refine zLN ?_
  refine zal [.int .i64 0, .int .i64 0, .int .i64 0] 3 ?_
  refine zn ?_
  refine zs ?_
  refine zR ?_
  refine zLG [.int _ _, .int _ _, .int _ _, .int _ _, .int _ _, _, .int _ _] ?_
  refine zLO ?_
  refine zLc (plain_Tensors m hm x hx) ?_
  refine zLT [_, _] ?_
  refine zLO ?_
  refine zLG [.int _ _, .int _ _, .int _ _] ?_
  refine zal [.int .i64 0, .int .i64 0, .int .i64 0] 3 ?_
  refine zLO ?_
  refine zst (.agg [.int _ _, .int _ _, .int _ _]) [_, _, _] [[_, _, _]] ?_
  refine zn ?_
  refine zs ?_
  refine zs ?_
  refine zR ?_
  refine zLP ?_
  refine zLI ?_
  refine zLB ?_
  refine zn ?_
  refine W_cond (b := _) rfl (fun h16 => ?_) (fun h16 => ?_)
  · have hz : ¬ (tensFt m x).Err = 0 := by simpa using h16
    refine zs ?_
    refine W_draw 2 Tb_mixed rfl (by decide) (by kernel_rfl) (by kernel_rfl) ?_
    refine zEG [.int _ _, .int _ _, .int _ _] ?_
    refine zEN ?_
    refine LexE_nil ?_
    refine zst (.agg [.int _ _, .int _ _, .int _ _]) [_, _, _] [[_, _, _]] ?_
    refine zn ?_
    refine zt ?_
    (refine ends (l := [.nils, .agg [.int _ _, .int _ _, .int _ _]]) (q := .tup [.ro _, .agg [.int _ _, .int _ _, .int _ _]]) (.inr rfl) rfl ⟨trivial, rfl, trivial⟩ rfl rfl ?_)
    rw [evalL, if_neg hz]; rfl
  · have hz : (tensFt m x).Err = 0 := by simpa using h16
    obtain ⟨z1, z2, z3, z4⟩ := tens_zero hz
    obtain ⟨_, _, ho, _⟩ := whole_ok z1
    have hb0 : 0 ≤ m.Out := ho.1
    have hb1 : m.Out < (((tensL m x).map rowI).length : Int) := by rw [z4, List.length_map, tensG_len]; omega
    refine zk ?_
    refine zs ?_
    refine W_draw 7 Tb_mixed rfl (by decide) (by kernel_rfl) (by kernel_rfl) ?_
    refine zEO ?_
    refine zEP ?_
    refine zEI ?_
    (refine E_v Tb_ok (v := _) (ave_index_ro rfl rfl rfl (fun _ => rfl) rfl (by first | exact hb0 | (rw [List.length_map] at hb1; exact hb1)) (by first | exact hb0 | (rw [List.length_map] at hb1; exact hb1)) trivial) rfl ?_)
    refine zEO ?_
    refine zEG [.int _ _, .int _ _, .int _ _] ?_
    refine zEO ?_
    refine LexE_nil ?_
    refine zst (.agg [.int _ _, .int _ _, .int _ _]) [_, _, _] [[_, _, _]] ?_
    refine zn ?_
    refine zt ?_
    (refine ends (l := [.ro _, .agg [.int _ _, .int _ _, .int _ _]]) (q := .tup [.ro _, .agg [.int _ _, .int _ _, .int _ _]]) (.inr rfl) rfl ⟨trivial, rfl, trivial⟩ rfl rfl ?_)
    rw [evalL, if_pos hz]; rfl
end Go.AM
end
section
open Go Go.AM Go.Proofs
set_option maxRecDepth 10000
set_option linter.unusedVariables false
set_option linter.unusedSimpArgs false
namespace Go.AM
def mOne : Model := ⟨⟨1, 1, 2⟩, -128, 127, [⟨1, 0, 0, 1, ⟨0, 0, 0, 0, 0, 0, 0, 0⟩, [3, -2], [1], ⟨1, 0⟩, ⟨0, 0⟩, 0, 0, -128, 127⟩], 1⟩
theorem law11_one : Ok Try.prog 23 [] (.agg (modelC mOne)) := by
  refine fn_ok Tb_ok (fn := Try.f23) Try.func23 rfl rfl (e := []) rfl (by decide) rfl ?_
  refine zs ?_
  refine zR ?_
  refine zal [.int .i64 0, .int .i64 0, .int .i64 0, .int .i64 0, .int .i64 0, .nils, .int .i64 0] 7 ?_
  refine zn ?_
  refine zs ?_
  refine zR ?_
  refine zLG [.int _ _, .int _ _, .int _ _] ?_
  refine L_build Tb_ok (t := 34) (len := 2) (el := 94) (sz := 1) (es := [[_], [_]]) (z := [.int .i16 0]) rfl rfl rfl rfl rfl (by decide) trivial rfl rfl rfl rfl rfl ?_
  refine L_build Tb_ok (t := 35) (len := 1) (el := 21) (sz := 1) (es := [[_]]) (z := [.int .i32 0]) rfl rfl rfl rfl rfl (by decide) trivial rfl rfl rfl rfl rfl ?_
  refine zLG [.int _ _, .int _ _] ?_
  refine L_freeze (t := 2) (l := _) rfl rfl rfl rfl rfl rfl rfl ?_
  refine L_freeze (t := 3) (l := _) rfl rfl rfl rfl rfl rfl rfl ?_
  refine zLG [.int _ _, .int _ _, .int _ _, .int _ _, .int _ _, .int _ _, .int _ _, .int _ _, .int _ _, .int _ _, .int _ _, .int _ _, _, _, .int _ _, .int _ _, .int _ _, .int _ _, .int _ _, .int _ _, .int _ _, .int _ _] ?_
  refine L_build Tb_ok (t := 24) (len := 1) (el := 39) (sz := 22) (es := [[_, _, _, _, _, _, _, _, _, _, _, _, _, _, _, _, _, _, _, _, _, _]]) (z := [.int .i64 0, .int .i64 0, .int .i64 0, .int .i64 0, .int .i64 0, .int .i64 0, .int .i64 0, .int .i64 0, .int .i64 0, .int .i64 0, .int .i64 0, .int .i64 0, .nils, .nils, .int .i64 0, .int .i64 0, .int .i64 0, .int .i64 0, .int .i64 0, .int .i64 0, .int .i64 0, .int .i64 0]) rfl rfl rfl rfl rfl (by decide) trivial rfl rfl rfl rfl rfl ?_
  refine L_freeze (t := 6) (l := _) rfl rfl rfl rfl rfl rfl rfl ?_
  refine zLG [.int _ _, .int _ _, .int _ _, .int _ _, .int _ _, _, .int _ _] ?_
  refine zst (.agg [.int _ _, .int _ _, .int _ _, .int _ _, .int _ _, _, .int _ _]) [_, _, _, _, _, _, _] [[_, _, _, _, _, _, _]] ?_
  refine zn ?_
  refine zt ?_
  refine ends (l := [.agg [.int _ _, .int _ _, .int _ _, .int _ _, .int _ _, _, .int _ _]]) (q := .agg [.int _ _, .int _ _, .int _ _, .int _ _, .int _ _, _, .int _ _]) (.inr rfl) rfl ⟨rfl, trivial⟩ rfl rfl ?_
  rfl
theorem mOne_Wf : mOne.Wf := by
  simp [mOne, Model.Wf, Shape.Wf, ListWf, MOp.Wf, Window.Wf, Scale.Wf, I64.iff, I32.iff, I16.iff, reachBytes]
theorem law11_fixed : Ok Try.prog 8 [] (.bool true) := by
  have h1 := plain_Eval mOne mOne_Wf [10, 5] (by intro v hv; simp at hv; omega)
  have h2 := plain_Totals mOne 1 [100, -100]
  have h3 := plain_Eval mOne mOne_Wf [10] (by intro v hv; simp at hv; omega)
  rw [show evalL mOne [10, 5] = [21] by decide +kernel, show tensFt mOne [10, 5] = ⟨0, 0, 0⟩ by decide +kernel] at h1
  rw [show totL mOne 1 [100, -100] = [501] by decide +kernel, show totE mOne 1 [100, -100] = 0 by decide +kernel] at h2
  rw [show evalL mOne [10] = [] by decide +kernel, show tensFt mOne [10] = ⟨220, 0, 0⟩ by decide +kernel] at h3
  --@@1
  skip
  refine fn_ok Tb_ok (fn := Try.f8) Try.func8 rfl rfl (e := []) rfl (by decide) rfl ?_
  refine zs ?_
  refine zR ?_
  refine zLB ?_
  refine zn ?_
  refine zs ?_
  refine zR ?_
  refine zLc (law11_one) ?_
  refine L_build Tb_ok (t := 27) (len := 2) (el := 62) (sz := 1) (es := [[_], [_]]) (z := [.int .i8 0]) rfl rfl rfl rfl rfl (by decide) trivial rfl rfl rfl rfl rfl ?_
  refine L_freeze (t := 9) (l := _) rfl rfl rfl rfl rfl rfl rfl ?_
  refine zLc (h1) ?_
  refine zLT [_, _] ?_
  refine zLO ?_
  refine zLG [.int _ _, .int _ _, .int _ _] ?_
  refine zal [.int .i64 0, .int .i64 0, .int .i64 0] 3 ?_
  refine zLO ?_
  refine zst (.agg [.int _ _, .int _ _, .int _ _]) [_, _, _] [[_, _, _]] ?_
  refine zn ?_
  refine zs ?_
  refine zR ?_
  refine zLc (law11_one) ?_
  refine L_build Tb_ok (t := 27) (len := 2) (el := 62) (sz := 1) (es := [[_], [_]]) (z := [.int .i8 0]) rfl rfl rfl rfl rfl (by decide) trivial rfl rfl rfl rfl rfl ?_
  refine L_freeze (t := 15) (l := _) rfl rfl rfl rfl rfl rfl rfl ?_
  refine zLc (h2) ?_
  refine zLT [_, _] ?_
  refine zLO ?_
  refine zLI ?_
  refine zLO ?_
  refine zLI ?_
  refine zn ?_
  refine zs ?_
  refine zR ?_
  refine zLc (law11_one) ?_
  refine L_build Tb_ok (t := 27) (len := 1) (el := 62) (sz := 1) (es := [[_]]) (z := [.int .i8 0]) rfl rfl rfl rfl rfl (by decide) trivial rfl rfl rfl rfl rfl ?_
  refine L_freeze (t := 21) (l := _) rfl rfl rfl rfl rfl rfl rfl ?_
  refine zLc (h3) ?_
  refine zLT [_, _] ?_
  refine zLO ?_
  refine zLG [.int _ _, .int _ _, .int _ _] ?_
  refine zal [.int .i64 0, .int .i64 0, .int .i64 0] 3 ?_
  refine zLO ?_
  refine zst (.agg [.int _ _, .int _ _, .int _ _]) [_, _, _] [[_, _, _]] ?_
  refine zn ?_
  refine zs ?_
  refine zR ?_
  refine zLO ?_
  refine zLI ?_
  refine zLB ?_
  refine zLB ?_
  refine zgLO ?_
  (refine L_g Tb_ok (v := _) rfl rfl ((fun hg => (ave_index_ro rfl rfl rfl (fun _ => rfl) rfl (by first | omega | assumption | decide | (simp_all; done) | (simp_all; omega)) (by first | omega | assumption | decide | (simp_all; done) | (simp_all; omega)) ⟨⟨(by first | exact hg | (simp_all; done) | (simp at hg ⊢; simp [hg])), True.intro⟩, True.intro⟩))) rfl rfl ?_)
  refine zgLI ?_
  refine zgLB ?_
  refine zpLB ?_
  refine zLB ?_
  refine zgLG [.int _ _, .int _ _, .int _ _] ?_
  refine zgLG [.int _ _, .int _ _, .int _ _] ?_
  refine zgLB ?_
  refine zpLB ?_
  refine zLB ?_
  refine zgLO ?_
  refine zgLI ?_
  refine zgLB ?_
  refine zpLB ?_
  refine zLB ?_
  refine zgLO ?_
  (refine L_g Tb_ok (v := _) rfl rfl ((fun hg => (ave_index_ro rfl rfl rfl (fun _ => rfl) rfl (by first | omega | assumption | decide | (simp_all; done) | (simp_all; omega)) (by first | omega | assumption | decide | (simp_all; done) | (simp_all; omega)) ⟨⟨(by first | exact hg | (simp_all; done) | (simp at hg ⊢; simp [hg])), True.intro⟩, True.intro⟩))) rfl rfl ?_)
  refine zgLI ?_
  refine zgLB ?_
  refine zpLB ?_
  refine zLB ?_
  refine zgLI ?_
  refine zgLB ?_
  refine zpLB ?_
  refine zLB ?_
  refine zgLP ?_
  refine zgLI ?_
  refine zgLB ?_
  refine zpLB ?_
  refine zLB ?_
  refine zn ?_
  refine zt ?_
  refine ends (l := [.bool _]) (q := .bool _) (.inr rfl) rfl ⟨trivial, trivial⟩ rfl rfl ?_
  rfl
theorem ext_getD {α : Type} [Inhabited α] {a b : List α} (hl : a.length = b.length) (h : ∀ j, j < a.length → a.getD j default = b.getD j default) : a = b := by
  apply List.ext_getElem hl
  intro j h1 h2
  have := h j h1
  simpa [List.getD_eq_getElem?_getD, h1, h2] using this
theorem ref11_Same (a b : List Int) (ha : a.length ≤ 1048576) : Ok Try.prog 17 [.ro (a.map i8C), .ro (b.map i8C)] (.bool (decide (a = b))) := by
  --@@2
  skip
  refine fn_ok Tb_ok (fn := Try.f17) Try.func17 rfl rfl (e := [(0, _), (1, _)]) rfl (by decide) rfl ?_
  refine zs ?_
  refine zR ?_
  refine zLB ?_
  refine zn ?_
  refine zs ?_
  refine zs ?_
  refine zR ?_
  refine zLO ?_
  refine zLI ?_
  refine zLO ?_
  refine zLI ?_
  refine zLB ?_
  refine zn ?_
  refine W_cond (b := _) rfl (fun h10 => ?_) (fun h10 => ?_)
  · have hl : a.length ≠ b.length := fun e => by simp [e] at h10
    refine zs ?_
    refine zR ?_
    refine zLB ?_
    refine zn ?_
    refine zt ?_
    refine ends (l := [.bool _]) (q := .bool _) (.inr rfl) rfl ⟨trivial, trivial⟩ rfl rfl ?_
    rw [decide_eq_false (fun e => hl (by rw [e]))]
  · have hl : a.length = b.length := by simp at h10; omega
    refine zk ?_
    refine zs ?_
    refine zs ?_
    refine zR ?_
    refine zLO ?_
    refine zLI ?_
    refine zLI ?_
    refine zn ?_
    refine W_block ?_
    refine W_forEF (a.length) (fun (i : Nat) => ∀ j, j < i → a.getD j default = b.getD j default) (fun j hj => absurd hj (by omega)) [(0, .ro _), (1, .ro _), (12, .int _ _)] (fun (i : Nat) => [(13, .int .i64 (i : Int))]) [] (fun (i : Nat) => []) [] (fun (i : Nat) => []) 0 (le_fit (sub_cat ⟨rfl, trivial⟩ ⟨rfl, rfl, rfl, trivial⟩) (subO_cat trivial trivial) (subK_cat trivial trivial) rfl rfl rfl (by rfl) rfl) ?_
    intro i hi hfi
    refine W.of_le (s' := ⟨[(13, .int .i64 (i : Int)), (0, .ro _), (1, .ro _), (12, .int _ _)], [], [], 0⟩) (le_fit ⟨rfl, rfl, rfl, rfl, trivial⟩ trivial trivial rfl rfl rfl (by rfl) rfl) ?_
    refine zs ?_
    refine zR ?_
    refine zLB ?_
    refine zn ?_
    refine zs ?_
    refine W_cond (b := _) rfl (fun h14 => ?_) (fun h14 => ?_)
    · have hit : i < a.length := by (have := of_decide_eq_true h14; simp only [List.length_map, List.length_take, List.length_drop] at this; omega)
      refine zk ?_
      refine zs ?_
      refine W_block ?_
      refine zs ?_
      refine zR ?_
      refine zLI ?_
      refine zLI ?_
      refine zn ?_
      refine zs ?_
      refine W_draw 9 Tb_mixed rfl (by decide) (by kernel_rfl) (by kernel_rfl) ?_
      refine zEO ?_
      refine zEI ?_
      (refine E_v Tb_ok (v := _) (ave_index_ro rfl rfl rfl (fun _ => rfl) rfl (by first | omega | assumption | decide | (simp_all; done) | (simp_all; omega)) (by first | omega | assumption | decide | (simp_all; done) | (simp_all; omega)) trivial) rfl ?_)
      refine zEI ?_
      refine zEO ?_
      refine zEI ?_
      (refine E_v Tb_ok (v := _) (ave_index_ro rfl rfl rfl (fun _ => rfl) rfl (by first | omega | assumption | decide | (simp_all; done) | (simp_all; omega)) (by first | omega | assumption | decide | (simp_all; done) | (simp_all; omega)) trivial) rfl ?_)
      refine zEI ?_
      refine zEB ?_
      refine LexE_nil ?_
      refine zn ?_
      refine W_cond (b := _) rfl (fun h24 => ?_) (fun h24 => ?_)
      · have hn : a.getD i default ≠ b.getD i default := by simpa [i8C] using h24
        refine zs ?_
        refine zR ?_
        refine zLB ?_
        refine zn ?_
        refine zt ?_
        refine ends (l := [.bool _]) (q := .bool _) (.inr rfl) rfl ⟨trivial, trivial⟩ rfl rfl ?_
        rw [decide_eq_false (fun e => hn (by rw [e]))]
      · have hn : a.getD i default = b.getD i default := by simpa [i8C] using h24
        refine zk ?_
        refine zR ?_
        refine zLI ?_
        refine zLI ?_
        refine zn ?_
        refine forF_end hit (all_snocP (p := fun j => a.getD j default = b.getD j default) hfi hn) (le_fit (sub_cat ⟨congrArg _ (w_succ hit (by omega)), trivial⟩ ⟨rfl, rfl, rfl, trivial⟩) (subO_cat trivial trivial) (subK_cat trivial trivial) rfl rfl rfl (by rfl) rfl)
    · have hie : i = a.length := by (have := of_decide_eq_false h14; simp only [List.length_map, List.length_take, List.length_drop] at this; omega)
      refine W_exit ?_
      repeat (first | refine pass_then ?_ | refine pass_forF ?_)
      refine blockQ_hit ?_
      refine zs ?_
      refine zR ?_
      refine zLB ?_
      refine zn ?_
      refine zt ?_
      refine ends (l := [.bool _]) (q := .bool _) (.inr rfl) rfl ⟨trivial, trivial⟩ rfl rfl ?_
      rw [decide_eq_true (ext_getD hl (hie ▸ hfi))]
theorem ref10_Value (s : Site) (t : Term) (a : List Int) (h : t.At < a.length) : Ok Try.prog 54 [.agg (rsiteC s), .agg (termC t), .ro (a.map i8C)] (.int .i64 (w64 (t.W * vT a s.Op.Pad t))) := by
  --@@3
  skip
  refine fn_ok Tb_ok (fn := Try.f54) Try.func54 rfl rfl (e := [(0, _), (1, _), (2, _)]) rfl (by decide) rfl ?_
  refine zs ?_
  refine zR ?_
  refine zbx [.int _ _, .int _ _, .int _ _, .int _ _, .int _ _, .int _ _, .int _ _, .int _ _, .int _ _, .int _ _, .int _ _, .int _ _, _, _, .int _ _, .int _ _, .int _ _, .int _ _, .int _ _, .int _ _, .int _ _, .int _ _, .int _ _, .int _ _, .int _ _, .int _ _, .int _ _, .int _ _] 28 ?_
  refine zbx [.int _ _, .int _ _] 2 ?_
  refine zLI ?_
  refine zn ?_
  refine zs ?_
  refine zs ?_
  refine zR ?_
  refine zLP ?_
  refine zLI ?_
  refine zLB ?_
  refine zn ?_
  refine W_cond (b := _) rfl (fun h9 => ?_) (fun h9 => ?_)
  · have hn : ¬ t.At ≥ 0 := by simp at h9; omega
    refine zs ?_
    refine zR ?_
    refine zLP ?_
    refine zLI ?_
    refine zLP ?_
    refine zLP ?_
    refine zLI ?_
    refine zLI ?_
    refine zLI ?_
    refine zn ?_
    refine zt ?_
    refine ends (l := [.int _ _]) (q := .int _ _) (.inr rfl) rfl ⟨trivial, trivial⟩ rfl rfl ?_
    rw [vT, if_neg hn]; rfl
  · have hn : t.At ≥ 0 := by simp at h9; omega
    have hb : t.At < ((a.map i8C).length : Int) := by rw [List.length_map]; exact h
    refine zk ?_
    refine zs ?_
    refine W_draw 10 Tb_mixed rfl (by decide) (by kernel_rfl) (by kernel_rfl) ?_
    refine zEP ?_
    refine zEI ?_
    refine zEO ?_
    refine zEP ?_
    refine zEI ?_
    (refine E_v Tb_ok (v := _) (ave_index_ro rfl rfl rfl (fun _ => rfl) rfl (by first | exact hn | exact hb | exact h) (by first | exact hn | exact hb | exact h) trivial) rfl ?_)
    refine zEI ?_
    refine zEI ?_
    refine zEI ?_
    refine zEI ?_
    refine LexE_nil ?_
    refine zn ?_
    refine zt ?_
    refine ends (l := [.int _ _]) (q := .int _ _) (.inr rfl) rfl ⟨trivial, trivial⟩ rfl rfl ?_
    rw [vT, if_pos hn]; rfl
theorem ref11_Sum {S : Site} (hS : SiteOk S) (hln : lenF S.Op S.In = S.Len) {ch at_ : Int} (hch : 1 ≤ ch ∧ ch ≤ S.Out.C) (hat : 0 ≤ at_ ∧ at_ < S.Out.H * S.Out.W) (a : List Int) (ha : (a.length : Int) = S.In.H * S.In.W * S.In.C) (hl : (tlF S ch at_).length ≤ 512) : Ok Try.prog 25 [.agg (rsiteC S), .int .i64 ch, .int .i64 at_, .ro (a.map i8C)] (.int .i64 (sumT (if S.Op.Kind = 4 then 0 else w64 (S.Op.Bias.getD (w64 (ch - 1)).toNat default)) (tlF S ch at_) a S.Op.Pad)) := by
  have hlt : ∀ t ∈ tlF S ch at_, t.At < (a.length : Int) := fun t ht => by
    have e0 : 0 ≤ (a.length : Int) := by omega
    rcases tlF_at hS hch at_ t ht with h | h <;> omega
  obtain ⟨b, hb⟩ : ∃ b, b = (if S.Op.Kind = 4 then 0 else w64 (S.Op.Bias.getD (w64 (ch - 1)).toNat default)) := ⟨_, rfl⟩
  have hB := ref10_Bias S ch (bias_ix hS hch)
  rw [← hb] at hB ⊢
  have hT := ref10_Terms hS hln hch hat
  generalize tlF S ch at_ = l at *
  --@@4
  skip
  refine fn_ok Tb_ok (fn := Try.f25) Try.func25 rfl rfl (e := [(0, _), (1, _), (2, _), (3, _)]) rfl (by decide) rfl ?_
  refine zs ?_
  refine zR ?_
  refine zbx [.int _ _, .int _ _, .int _ _, .int _ _, .int _ _, .int _ _, .int _ _, .int _ _, .int _ _, .int _ _, .int _ _, .int _ _, _, _, .int _ _, .int _ _, .int _ _, .int _ _, .int _ _, .int _ _, .int _ _, .int _ _, .int _ _, .int _ _, .int _ _, .int _ _, .int _ _, .int _ _] 28 ?_
  refine zLI ?_
  refine zn ?_
  refine zs ?_
  refine zR ?_
  refine zLG [.int _ _, .int _ _, .int _ _, .int _ _, .int _ _, .int _ _, .int _ _, .int _ _, .int _ _, .int _ _, .int _ _, .int _ _, _, _, .int _ _, .int _ _, .int _ _, .int _ _, .int _ _, .int _ _, .int _ _, .int _ _, .int _ _, .int _ _, .int _ _, .int _ _, .int _ _, .int _ _] ?_
  refine zLI ?_
  refine zLc (hB) ?_
  refine zLI ?_
  refine zn ?_
  refine zs ?_
  refine zs ?_
  refine zR ?_
  refine zLG [.int _ _, .int _ _, .int _ _, .int _ _, .int _ _, .int _ _, .int _ _, .int _ _, .int _ _, .int _ _, .int _ _, .int _ _, _, _, .int _ _, .int _ _, .int _ _, .int _ _, .int _ _, .int _ _, .int _ _, .int _ _, .int _ _, .int _ _, .int _ _, .int _ _, .int _ _, .int _ _] ?_
  refine zLI ?_
  refine zLI ?_
  refine zLc (hT) ?_
  refine zLI ?_
  refine zLI ?_
  refine zn ?_
  refine W_block ?_
  refine W_forE (l.length) [(3, .ro _), (4, .ptr 0 0 0), (18, .ro _), (19, .int _ _)] (fun (i : Nat) => [(20, .int .i64 (i : Int)), (9, .int .i64 (sumT b (l.take i) a S.Op.Pad))]) [(0, some ⟨_, _, _, _⟩)] (fun (i : Nat) => []) [] (fun (i : Nat) => []) 1 (le_fit (sub_cat ⟨rfl, rfl, trivial⟩ ⟨rfl, rfl, rfl, rfl, trivial⟩) (subO_cat trivial ⟨.inr rfl, trivial⟩) (subK_cat trivial trivial) rfl rfl rfl (by rfl) rfl) ?_
  intro i hi
  refine W.of_le (s' := ⟨[(20, .int .i64 (i : Int)), (9, .int .i64 (sumT b (l.take i) a S.Op.Pad)), (3, .ro _), (4, .ptr 0 0 0), (18, .ro _), (19, .int _ _)], [(0, some ⟨_, _, _, _⟩)], [], 1⟩) (le_fit ⟨rfl, rfl, rfl, rfl, rfl, rfl, trivial⟩ ⟨.inr rfl, trivial⟩ trivial rfl rfl rfl (by rfl) rfl) ?_
  refine zs ?_
  refine zR ?_
  refine zLB ?_
  refine zn ?_
  refine zs ?_
  refine W_cond (b := _) rfl (fun h21 => ?_) (fun h21 => ?_)
  · have hit : i < l.length := by (have := of_decide_eq_true h21; simp only [List.length_map, List.length_take, List.length_drop] at this; omega)
    have hi := hlt (l.getD i default) (by rw [List.getD_eq_getElem?_getD, List.getElem?_eq_getElem hit]; exact List.getElem_mem hit)
    refine zk ?_
    refine zs ?_
    refine W_block ?_
    refine zs ?_
    refine zR ?_
    (refine L_v Tb_ok (v := _) (ave_index_ro rfl rfl rfl (fun _ => rfl) rfl (by first | omega | assumption | decide | (simp_all; done) | (simp_all; omega)) (by first | omega | assumption | decide | (simp_all; done) | (simp_all; omega)) trivial) rfl ?_)
    refine zLG [.int _ _, .int _ _] ?_
    refine zal [.int .i64 0, .int .i64 0] 2 ?_
    refine zst (.agg [.int _ _, .int _ _]) [_, _] [[_, _]] ?_
    refine zn ?_
    refine zR ?_
    refine zLI ?_
    refine zLG [.int _ _, .int _ _, .int _ _, .int _ _, .int _ _, .int _ _, .int _ _, .int _ _, .int _ _, .int _ _, .int _ _, .int _ _, _, _, .int _ _, .int _ _, .int _ _, .int _ _, .int _ _, .int _ _, .int _ _, .int _ _, .int _ _, .int _ _, .int _ _, .int _ _, .int _ _, .int _ _] ?_
    refine zLG [.int _ _, .int _ _] ?_
    refine zLO ?_
    refine zLc (ref10_Value S (l.getD i default) a hi) ?_
    refine zLI ?_
    refine zLI ?_
    refine zn ?_
    refine zR ?_
    refine zLI ?_
    refine zLI ?_
    refine zn ?_
    refine for_end hit (le_fit (sub_cat ⟨congrArg _ (w_succ hit (by omega)), congrArg (AV.int .i64) (by unfold sumT; rw [foldl_take' _ _ _ _ hit]; rfl), trivial⟩ ⟨rfl, rfl, rfl, rfl, trivial⟩) (subO_cat trivial ⟨.inr rfl, trivial⟩) (subK_cat trivial trivial) rfl rfl rfl (by rfl) rfl)
  · have hie : i = l.length := by (have := of_decide_eq_false h21; simp only [List.length_map, List.length_take, List.length_drop] at this; omega)
    refine W_exit ?_
    repeat (first | refine pass_then ?_ | refine pass_for ?_)
    refine blockQ_hit ?_
    refine zs ?_
    refine zR ?_
    refine zLI ?_
    refine zLI ?_
    refine zn ?_
    refine zt ?_
    refine ends (l := [.int _ _]) (q := .int _ _) (.inr rfl) rfl ⟨trivial, trivial⟩ rfl rfl ?_
    rw [hie, List.take_length]
end Go.AM
end
section
open Go Go.AM Go.Proofs
set_option maxRecDepth 10000
set_option linter.unusedVariables false
set_option linter.unusedSimpArgs false
namespace Go.AM
theorem ref11_Sums {m : Model} {op : Int} (h0 : findE m op = 0) (a : List Int) (ha : (a.length : Int) = (findS m op).In.H * (findS m op).In.W * (findS m op).In.C) : Ok Try.prog 9 [.agg (rsiteC (findS m op)), .ro (a.map i8C)] (.ro ((sumsF m op a).map intC)) := by
  obtain ⟨hS, ⟨o1, o2⟩, _, he, _⟩ := site_ok h0
  have O := shapeB_iff.1 hS.outB
  obtain ⟨p1, p2, p3⟩ := out_pos hS
  have hc0 : 0 ≤ (findS m op).Out.C := by omega
  have hp0 : 0 ≤ (findS m op).Out.H * (findS m op).Out.W := Int.mul_nonneg (by omega) (by omega)
  have hc1 : 0 ≤ (findS m op).Out.H * (findS m op).Out.W * (findS m op).Out.C := Int.mul_nonneg hp0 hc0
  have hsum : ∀ c i : Nat, (c : Int) < (findS m op).Out.C → (i : Int) < (findS m op).Out.H * (findS m op).Out.W → Ok Try.prog 25 [.agg (rsiteC (findS m op)), .int .i64 ((c : Int) + 1), .int .i64 (i : Int), .ro (a.map i8C)] (.int .i64 (oneSum m op a i c)) := fun c i hc hi => by
    have hch : 1 ≤ (c : Int) + 1 ∧ (c : Int) + 1 ≤ (findS m op).Out.C := by omega
    have hb : ofBad (findS m op) ((c : Int) + 1) i = false := (ofBad_iff hS).2 ⟨hch, by omega⟩
    have e := ref11_Sum hS (lenF_site h0) hch (at_ := (i : Int)) (by omega) a ha (by rw [← termsF_eq h0 hb]; exact termsF_len m op _ _)
    rw [← bias_eq h0 hb, ← termsF_eq h0 hb] at e
    rw [oneSum, ← (site_ok h0).2.2.1]; exact e
  obtain ⟨C, hC⟩ : ∃ C : Nat, C = (findS m op).Out.C.toNat := ⟨_, rfl⟩
  obtain ⟨P, hP⟩ : ∃ P : Nat, P = ((findS m op).Out.H * (findS m op).Out.W).toNat := ⟨_, rfl⟩
  have eC : (findS m op).Out.C = (C : Int) := by omega
  have eP : (findS m op).Out.H * (findS m op).Out.W = (P : Int) := by omega
  have hLl : (sumsF m op a).length = P * C := by
    rw [sumsF, List.length_map, List.length_range, eP, eC, ← Int.natCast_mul, Int.toNat_natCast]
  have hget : ∀ i j, i < P → j < C → (sumsF m op a).getD (i * C + j) 0 = oneSum m op a i j := by
    intro i j hi hj
    have hlt := mul_lt_two' hi hj
    have e1 : (i * C + j) / C = i := by rw [Nat.mul_comm, Nat.mul_add_div (by omega), Nat.div_eq_of_lt hj, Nat.add_zero]
    have e2 : (i * C + j) % C = j := by rw [Nat.mul_comm, Nat.mul_add_mod, Nat.mod_eq_of_lt hj]
    rw [sumsF, eP, eC, show ((P : Int) * (C : Int)).toNat = P * C by rw [← Int.natCast_mul]; exact Int.toNat_natCast _]
    simp [List.getD_eq_getElem?_getD, hlt, e1, e2]
  have hLs : (sumsF m op a).length ≤ 16384 := by
    have : ((sumsF m op a).length : Int) = (findS m op).Out.H * (findS m op).Out.W * (findS m op).Out.C := by rw [hLl, Int.natCast_mul, ← eP, ← eC]
    omega
  have hPos := ref10_Positions (findS m op)
  rw [p1, eP] at hPos
  have hP2 : (P : Int) ≤ 1048576 := by rw [← eP]; exact Int.le_trans (Int.mul_le_mul O.1.2 O.2.1.2 (by omega) (by omega)) (by decide)
  have hC2 : (C : Int) ≤ 1048576 := by omega
  generalize sumsF m op a = L at *
  rw [eC, eP] at hsum
  --@@1
  skip
  refine fn_ok Tb_ok (fn := Try.f9) Try.func9 rfl rfl (e := [(0, _), (1, _)]) rfl (by decide) rfl ?_
  refine zs ?_
  refine zR ?_
  refine zbx [.int _ _, .int _ _, .int _ _, .int _ _, .int _ _, .int _ _, .int _ _, .int _ _, .int _ _, .int _ _, .int _ _, .int _ _, _, _, .int _ _, .int _ _, .int _ _, .int _ _, .int _ _, .int _ _, .int _ _, .int _ _, .int _ _, .int _ _, .int _ _, .int _ _, .int _ _, .int _ _] 28 ?_
  refine zLN ?_
  refine zn ?_
  refine zs ?_
  refine zR ?_
  refine zLN ?_
  refine zn ?_
  refine zs ?_
  refine zs ?_
  refine zR ?_
  refine zLI ?_
  refine zn ?_
  refine W_block ?_
  refine W_nils (t := 5) 2 1 rfl rfl ?_
  refine W_forE (P) [(1, .ro _), (2, .ptr 0 0 0)] (fun (i : Nat) => [(6, .int .i64 (i : Int)), (5, .app 1 ((L.take (i * C)).map intC))]) [(0, some ⟨_, _, _, _⟩)] (fun (i : Nat) => []) [] (fun (i : Nat) => [(1, some (2, 1, (L.take (i * C)).length))]) 2 (le_fit (sub_cat ⟨rfl, (by rw [Nat.zero_mul]; rfl), trivial⟩ ⟨rfl, rfl, trivial⟩) (subO_cat trivial ⟨.inr rfl, trivial⟩) (subK_cat ⟨.inr ((by rw [Nat.zero_mul]; rfl)), trivial⟩ trivial) rfl rfl rfl (by rfl) rfl) ?_
  intro i hi
  refine W.of_le (s' := ⟨[(6, .int .i64 (i : Int)), (5, .app 1 ((L.take (i * C)).map intC)), (1, .ro _), (2, .ptr 0 0 0)], [(0, some ⟨_, _, _, _⟩)], [(1, some (2, 1, (L.take (i * C)).length))], 2⟩) (le_fit ⟨rfl, rfl, rfl, rfl, trivial⟩ ⟨.inr rfl, trivial⟩ ⟨.inr rfl, trivial⟩ rfl rfl rfl (by rfl) rfl) ?_
  refine zs ?_
  refine zs ?_
  refine zR ?_
  refine zLI ?_
  refine zLG [.int _ _, .int _ _, .int _ _, .int _ _, .int _ _, .int _ _, .int _ _, .int _ _, .int _ _, .int _ _, .int _ _, .int _ _, _, _, .int _ _, .int _ _, .int _ _, .int _ _, .int _ _, .int _ _, .int _ _, .int _ _, .int _ _, .int _ _, .int _ _, .int _ _, .int _ _, .int _ _] ?_
  refine zLc (hPos) ?_
  refine zLB ?_
  refine zn ?_
  refine W_cond (b := _) rfl (fun h11 => ?_) (fun h11 => ?_)
  · have hit : i < P := by (have := of_decide_eq_true h11; omega)
    refine zk ?_
    refine zs ?_
    refine W_block ?_
    refine zs ?_
    refine zR ?_
    refine zLI ?_
    refine zn ?_
    refine W_block ?_
    refine W_forE (C) [(1, .ro _), (2, .ptr 0 0 0), (6, .int _ _)] (fun (c : Nat) => [(7, .int .i64 ((c : Int) + 1)), (5, .app 1 ((L.take (i * C + c)).map intC))]) [(0, some ⟨_, _, _, _⟩)] (fun (c : Nat) => []) [] (fun (c : Nat) => [(1, some (2, 1, (L.take (i * C + c)).length))]) 2 (le_fit (sub_cat ⟨rfl, rfl, trivial⟩ ⟨rfl, rfl, rfl, trivial⟩) (subO_cat trivial ⟨.inr rfl, trivial⟩) (subK_cat ⟨.inr rfl, trivial⟩ trivial) rfl rfl rfl (by rfl) rfl) ?_
    intro c hc
    refine W.of_le (s' := ⟨[(7, .int .i64 ((c : Int) + 1)), (5, .app 1 ((L.take (i * C + c)).map intC)), (1, .ro _), (2, .ptr 0 0 0), (6, .int _ _)], [(0, some ⟨_, _, _, _⟩)], [(1, some (2, 1, (L.take (i * C + c)).length))], 2⟩) (le_fit ⟨rfl, rfl, rfl, rfl, rfl, trivial⟩ ⟨.inr rfl, trivial⟩ ⟨.inr rfl, trivial⟩ rfl rfl rfl (by rfl) rfl) ?_
    refine zs ?_
    refine zs ?_
    refine zR ?_
    refine zLI ?_
    refine zLP ?_
    refine zLP ?_
    refine zLI ?_
    refine zLB ?_
    refine zn ?_
    refine W_cond (b := _) rfl (fun h18 => ?_) (fun h18 => ?_)
    · have hct : c < C := by (have := of_decide_eq_true h18; omega)
      have hap := take_snoc1 (l := L) (by rw [hLl]; exact mul_lt_two' hit hct) (hget i c hit hct)
      refine zk ?_
      refine zs ?_
      refine W_block ?_
      refine zR ?_
      refine zLA ?_
      refine zLG [.int _ _, .int _ _, .int _ _, .int _ _, .int _ _, .int _ _, .int _ _, .int _ _, .int _ _, .int _ _, .int _ _, .int _ _, _, _, .int _ _, .int _ _, .int _ _, .int _ _, .int _ _, .int _ _, .int _ _, .int _ _, .int _ _, .int _ _, .int _ _, .int _ _, .int _ _, .int _ _] ?_
      refine zLI ?_
      refine zLI ?_
      refine zLO ?_
      refine zLc (hsum c i (by omega) (by omega)) ?_
      refine L_build Tb_ok (t := 28) (len := 1) (el := 2) (sz := 1) (es := [[_]]) (z := [.int .i64 0]) rfl rfl rfl rfl rfl (by decide) trivial rfl rfl rfl rfl rfl ?_
      refine L_app1 Tb_ok (f := intC) (v := oneSum m op a i c) (tok := 1) (el := 2) (sz := 1) rfl rfl rfl rfl rfl ⟨trivial, trivial⟩ (fun _ => ⟨rfl, rfl⟩) (by rw [show (Tb.at 2).bytes = 8 from rfl, List.length_take]; omega) rfl ?_
      refine zLA ?_
      refine zn ?_
      refine zR ?_
      refine zLI ?_
      refine zLI ?_
      refine zLI ?_
      refine zn ?_
      refine for_end hct (le_fit (sub_cat ⟨congrArg (AV.int .i64) ((w64_id (by omega)).trans (by omega)), congrArg (fun z => AV.app 1 (List.map intC z)) hap, trivial⟩ ⟨rfl, rfl, rfl, trivial⟩) (subO_cat trivial ⟨.inr rfl, trivial⟩) (subK_cat ⟨.inr (congrArg (fun z => some (2, 1, List.length z)) hap), trivial⟩ trivial) rfl rfl rfl (by rfl) rfl)
    · have hce : c = C := by (have := of_decide_eq_false h18; omega)
      refine W_exit ?_
      repeat (first | refine pass_then ?_ | refine pass_for ?_)
      refine blockQ_hit ?_
      refine zR ?_
      refine zLI ?_
      refine zLI ?_
      refine zLI ?_
      refine zn ?_
      refine for_end hit (le_fit (sub_cat ⟨congrArg _ (w_succ hit (by omega)), (by rw [hce, ← Nat.succ_mul]; rfl), trivial⟩ ⟨rfl, rfl, trivial⟩) (subO_cat trivial ⟨.inr rfl, trivial⟩) (subK_cat ⟨.inr ((by rw [hce, ← Nat.succ_mul]; rfl)), trivial⟩ trivial) rfl rfl rfl (by rfl) rfl)
  · have hie : i = P := by (have := of_decide_eq_false h11; omega)
    refine W_exit ?_
    repeat (first | refine pass_then ?_ | refine pass_for ?_)
    refine blockQ_hit ?_
    refine zs ?_
    refine zR ?_
    refine zLA ?_
    refine zLA ?_
    refine zn ?_
    refine zt ?_
    (refine ends (l := [.app _ _]) (q := .ro _) (.inr rfl) rfl ⟨trivial, trivial⟩ rfl rfl ?_)
    rw [hie, ← hLl, List.take_length]
end Go.AM
end
section
open Go Go.AM Go.Proofs
set_option maxRecDepth 10000
set_option linter.unusedVariables false
set_option linter.unusedSimpArgs false
namespace Go.AM
theorem rfG (m : Model) (op : Int) : rfE m op 0 = findE m op ∧ (findE m op = 0 → rfS m op 0 = findS m op) := by
  have hE : rfE m op 0 = findE m op := by
    unfold rfE
    by_cases h : findE m op = 0
    · have := shapeB_iff.1 (site_ok h).1.outB
      rw [if_pos h, h, if_neg]
      simp; omega
    · rw [if_neg h]
  exact ⟨hE, fun h => by unfold rfS; rw [hE, if_pos h]⟩
theorem tot_f (m : Model) (op : Int) (l : List (List AV)) (a : List Int) (hl : l.length = a.length) : (bif (bif findE m op == 0 then ((l.length : Int) != IntKind.i64.wrap (IntKind.i64.wrap ((rfS m op 0).In.H * (rfS m op 0).In.W) * (rfS m op 0).In.C)) else false) then (70 : Int) else findE m op) = totE m op a := by
  unfold totE elemsI
  rw [hl]
  show (bif (bif findE m op == 0 then ((a.length : Int) != w64 (w64 ((rfS m op 0).In.H * (rfS m op 0).In.W) * (rfS m op 0).In.C)) else false) then (70 : Int) else findE m op) = _
  by_cases h : findE m op = 0
  · have e := (elems_in (site_ok h).1.inB).1
    unfold elemsN at e
    rw [(rfG m op).2 h, e, h, if_pos rfl]
    by_cases c : (a.length : Int) = (findS m op).In.H * (findS m op).In.W * (findS m op).In.C
    · simp [c]
    · rw [if_neg c, show ((a.length : Int) != (findS m op).In.H * (findS m op).In.W * (findS m op).In.C) = true by simpa using c]; rfl
  · rw [if_neg h, show (findE m op == 0) = false by simpa using h]; rfl
theorem sums_len {m : Model} {op : Int} (h0 : findE m op = 0) (a : List Int) : (sumsF m op a).length ≤ 16384 ∧ ((sumsF m op a).length : Int) = elemsN (findS m op).Out := by
  have e := (elems_in (site_ok h0).1.outB).2
  rw [sumsF, List.length_map, List.length_range]
  unfold elemsN at e ⊢
  omega
theorem plainTotals (m : Model) (hm : m.Wf) (op : Int) (hop : I64 op) (a : List Int) (hl : ListWf 1 I8 a) : Ok Try.prog 3 [.agg (modelC m), .int .i64 op, .ro (a.map i8C)] (.bool true) := by
  have hR := ref10_Find m hm op 0
  have hT := tot_f m op (a.map i8C) a (by simp)
  rw [(rfG m op).1] at hR
  have hc50 : (bif (!true) then true else (totE m op a != totE m op a)) = false := by simp
  have hZ : totE m op a = 0 → findE m op = 0 ∧ (a.length : Int) = (findS m op).In.H * (findS m op).In.W * (findS m op).In.C ∧ totL m op a = sumsF m op a := fun h => by
    have h2 := h
    unfold totE at h
    by_cases c : findE m op = 0
    · rw [if_pos c] at h
      by_cases d : (a.length : Int) = elemsI m op
      · exact ⟨c, d, by rw [totL, if_pos h2]⟩
      · rw [if_neg d] at h; simp at h
    · rw [if_neg c] at h; exact absurd h c
  --@@1
  skip
  refine fn_ok Tb_ok (fn := Try.f3) Try.func3 rfl rfl (e := [(0, _), (1, _), (2, _)]) rfl (by decide) rfl ?_
  refine zs ?_
  refine zR ?_
  refine zbx [.int _ _, .int _ _, .int _ _, .int _ _, .int _ _, _, .int _ _] 7 ?_
  refine zLB ?_
  refine zn ?_
  refine zs ?_
  refine zR ?_
  refine zLG [.int _ _, .int _ _, .int _ _, .int _ _, .int _ _, _, .int _ _] ?_
  refine zLI ?_
  refine zLO ?_
  refine zLc (plain_Totals m op a) ?_
  refine zLT [_, _] ?_
  refine zLO ?_
  refine zLI ?_
  refine zLO ?_
  refine zLI ?_
  refine zn ?_
  refine zs ?_
  refine zR ?_
  refine zLG [.int _ _, .int _ _, .int _ _, .int _ _, .int _ _, _, .int _ _] ?_
  refine zLI ?_
  refine zLc (hR) ?_
  refine zLT [_, _] ?_
  refine zLG [.int _ _, .int _ _, .int _ _, .int _ _, .int _ _, .int _ _, .int _ _, .int _ _, .int _ _, .int _ _, .int _ _, .int _ _, _, _, .int _ _, .int _ _, .int _ _, .int _ _, .int _ _, .int _ _, .int _ _, .int _ _, .int _ _, .int _ _, .int _ _, .int _ _, .int _ _, .int _ _] ?_
  refine zLI ?_
  refine zal [.int .i64 0, .int .i64 0, .int .i64 0, .int .i64 0, .int .i64 0, .int .i64 0, .int .i64 0, .int .i64 0, .int .i64 0, .int .i64 0, .int .i64 0, .int .i64 0, .nils, .nils, .int .i64 0, .int .i64 0, .int .i64 0, .int .i64 0, .int .i64 0, .int .i64 0, .int .i64 0, .int .i64 0, .int .i64 0, .int .i64 0, .int .i64 0, .int .i64 0, .int .i64 0, .int .i64 0] 28 ?_
  refine zst (.agg [.int _ _, .int _ _, .int _ _, .int _ _, .int _ _, .int _ _, .int _ _, .int _ _, .int _ _, .int _ _, .int _ _, .int _ _, _, _, .int _ _, .int _ _, .int _ _, .int _ _, .int _ _, .int _ _, .int _ _, .int _ _, .int _ _, .int _ _, .int _ _, .int _ _, .int _ _, .int _ _]) [_, _, _, _, _, _, _, _, _, _, _, _, _, _, _, _, _, _, _, _, _, _, _, _, _, _, _, _] [[_, _, _, _, _, _, _, _, _, _, _, _, _, _, _, _, _, _, _, _, _, _, _, _, _, _, _, _]] ?_
  refine zLI ?_
  refine zn ?_
  refine zs ?_
  refine zs ?_
  refine zR ?_
  refine zLI ?_
  refine zLB ?_
  refine zLB ?_
  refine zgLO ?_
  refine zgLI ?_
  refine zgLP ?_
  refine zgLP ?_
  refine zgLI ?_
  refine zgLP ?_
  refine zgLP ?_
  refine zgLI ?_
  refine zgLI ?_
  refine zgLP ?_
  refine zgLP ?_
  refine zgLI ?_
  refine zgLI ?_
  refine zgLB ?_
  refine zpLB ?_
  refine zn ?_
  refine W_iftB (b := _) rfl [(2, .ro _), (7, .ro _), (8, .int _ _), (9, .ptr 1 0 0)] (fun (z : Bool) => [(10, .int .i64 (bif z then 70 else findE m op))]) [(1, some ⟨_, _, _, _⟩)] (fun (z : Bool) => []) [] (fun (z : Bool) => []) 2 ⟨rfl, rfl, rfl, rfl, trivial⟩ ⟨.inr rfl, trivial⟩ trivial (fun h43 => ?_) (fun h43 => ?_) ?_
  · refine zR ?_
    refine zLI ?_
    refine zn ?_
    exact ⟨trivial, (le_fit (sub_cat ⟨rfl, trivial⟩ ⟨rfl, rfl, rfl, rfl, trivial⟩) (subO_cat trivial ⟨.inr rfl, trivial⟩) (subK_cat trivial trivial) rfl rfl rfl (by rfl) rfl)⟩
  · refine zk ?_
    exact ⟨trivial, (le_fit (sub_cat ⟨rfl, trivial⟩ ⟨rfl, rfl, rfl, rfl, trivial⟩) (subO_cat trivial ⟨.inr rfl, trivial⟩) (subK_cat trivial trivial) rfl rfl rfl (by rfl) rfl)⟩
  refine W.of_le (s' := ⟨[(10, .int .i64 (bif _ then 70 else findE m op)), (2, .ro _), (7, .ro _), (8, .int _ _), (9, .ptr 1 0 0)], [(1, some ⟨_, _, _, _⟩)], [], 2⟩) (le_fit ⟨rfl, rfl, rfl, rfl, rfl, trivial⟩ ⟨.inr rfl, trivial⟩ trivial rfl rfl rfl (by rfl) rfl) ?_
  simp only [hT]
  refine zs ?_
  refine zs ?_
  refine zR ?_
  refine zLc (law11_fixed) ?_
  refine zLB ?_
  refine zLB ?_
  refine zgLI ?_
  refine zgLI ?_
  refine zgLB ?_
  refine zpLB ?_
  refine zn ?_
  refine W_cond_f (b := _) rfl (by exact hc50) ?_
  refine zk ?_
  refine zs ?_
  refine zs ?_
  refine zR ?_
  refine zLI ?_
  refine zLB ?_
  refine zn ?_
  refine W_cond (b := _) rfl (fun h52 => ?_) (fun h52 => ?_)
  · have hz : ¬ totE m op a = 0 := by simpa using h52
    refine zs ?_
    refine zR ?_
    refine zLO ?_
    refine zLI ?_
    refine zLB ?_
    refine zLB ?_
    refine zn ?_
    refine zt ?_
    refine ends (l := [.bool _]) (q := .bool _) (.inr rfl) rfl ⟨trivial, trivial⟩ rfl rfl ?_
    congr 1
    rw [totL, if_neg hz]; rfl
  · have hz : totE m op a = 0 := by simpa using h52
    obtain ⟨z1, z2, z3⟩ := hZ hz
    have hSu := ref11_Sums z1 a z2
    rw [← (rfG m op).2 z1] at hSu
    have hL4 : (totL m op a).length ≤ 16384 := by rw [z3]; exact (sums_len z1 a).1
    have hc63 : ((((totL m op a).map intC).length : Int) != (((sumsF m op a).map intC).length : Int)) = false := by rw [z3]; simp
    refine zk ?_
    refine zs ?_
    refine zR ?_
    refine zLG [.int _ _, .int _ _, .int _ _, .int _ _, .int _ _, .int _ _, .int _ _, .int _ _, .int _ _, .int _ _, .int _ _, .int _ _, _, _, .int _ _, .int _ _, .int _ _, .int _ _, .int _ _, .int _ _, .int _ _, .int _ _, .int _ _, .int _ _, .int _ _, .int _ _, .int _ _, .int _ _] ?_
    refine zLO ?_
    refine zLc (hSu) ?_
    refine zLO ?_
    refine zn ?_
    refine zs ?_
    refine zs ?_
    refine zR ?_
    refine zLO ?_
    refine zLI ?_
    refine zLO ?_
    refine zLI ?_
    refine zLB ?_
    refine zn ?_
    refine W_cond_f (b := _) rfl (by exact hc63) ?_
    refine zk ?_
    refine zs ?_
    refine zs ?_
    refine zR ?_
    refine zLO ?_
    refine zLI ?_
    refine zLI ?_
    refine zn ?_
    refine W_block ?_
    refine W_forE ((totL m op a).length) [(7, .ro _), (11, .ro _), (65, .int _ _)] (fun (i : Nat) => [(66, .int .i64 (i : Int))]) [] (fun (i : Nat) => []) [] (fun (i : Nat) => []) 0 (le_fit (sub_cat ⟨rfl, trivial⟩ ⟨rfl, rfl, rfl, trivial⟩) (subO_cat trivial trivial) (subK_cat trivial trivial) rfl rfl rfl (by rfl) rfl) ?_
    intro i hi
    refine W.of_le (s' := ⟨[(66, .int .i64 (i : Int)), (7, .ro _), (11, .ro _), (65, .int _ _)], [], [], 0⟩) (le_fit ⟨rfl, rfl, rfl, rfl, trivial⟩ trivial trivial rfl rfl rfl (by rfl) rfl) ?_
    refine zs ?_
    refine zR ?_
    refine zLB ?_
    refine zn ?_
    refine zs ?_
    refine W_cond (b := _) rfl (fun h67 => ?_) (fun h67 => ?_)
    · have hit : i < (totL m op a).length := by (have := of_decide_eq_true h67; simp only [List.length_map, List.length_take, List.length_drop] at this; omega)
      have hi2 : i < (sumsF m op a).length := by rw [← z3]; exact hit
      have hc77 : ((totL m op a).getD i default != (sumsF m op a).getD i default) = false := by rw [z3]; simp
      refine zk ?_
      refine zs ?_
      refine W_block ?_
      refine zs ?_
      refine zR ?_
      refine zLI ?_
      refine zLI ?_
      refine zn ?_
      refine zs ?_
      refine W_draw 9 Tb_mixed rfl (by decide) (by kernel_rfl) (by kernel_rfl) ?_
      refine zEO ?_
      refine zEI ?_
      (refine E_v Tb_ok (v := _) (ave_index_ro rfl rfl rfl (fun _ => rfl) rfl (by first | omega | assumption | decide | (simp_all; done) | (simp_all; omega)) (by first | omega | assumption | decide | (simp_all; done) | (simp_all; omega)) trivial) rfl ?_)
      refine zEI ?_
      refine zEO ?_
      refine zEI ?_
      (refine E_v Tb_ok (v := _) (ave_index_ro rfl rfl rfl (fun _ => rfl) rfl (by first | omega | assumption | decide | (simp_all; done) | (simp_all; omega)) (by first | omega | assumption | decide | (simp_all; done) | (simp_all; omega)) trivial) rfl ?_)
      refine zEI ?_
      refine zEB ?_
      refine LexE_nil ?_
      refine zn ?_
      refine W_cond_f (b := _) rfl (by exact hc77) ?_
      refine zk ?_
      refine zR ?_
      refine zLI ?_
      refine zLI ?_
      refine zn ?_
      refine for_end hit (le_fit (sub_cat ⟨congrArg _ (w_succ hit (by omega)), trivial⟩ ⟨rfl, rfl, rfl, trivial⟩) (subO_cat trivial trivial) (subK_cat trivial trivial) rfl rfl rfl (by rfl) rfl)
    · have hie : i = (totL m op a).length := by (have := of_decide_eq_false h67; simp only [List.length_map, List.length_take, List.length_drop] at this; omega)
      refine W_exit ?_
      repeat (first | refine pass_then ?_ | refine pass_for ?_)
      refine blockQ_hit ?_
      refine zs ?_
      refine zR ?_
      refine zLB ?_
      refine zn ?_
      refine zt ?_
      refine ends (l := [.bool _]) (q := .bool _) (.inr rfl) rfl ⟨trivial, trivial⟩ rfl rfl ?_
      rfl
end Go.AM
end
section
open Go Go.AM Go.Proofs
set_option maxRecDepth 10000
set_option linter.unusedVariables false
set_option linter.unusedSimpArgs false
namespace Go.AM
def frontM (m : Model) (K : Nat) : Model := ⟨m.In, m.Lo, m.Hi, m.Ops.take K, (K : Int)⟩
theorem wgo_take : ∀ (r : List MOp) (K k : Nat) (l : List Shape) (s : Int), k + r.length < 1000 → (wgo r k l s).2.2.Err = 0 → (wgo (r.take K) k l s).2.2 = ⟨0, 0, 0⟩ ∧ (wgo (r.take K) k l s).1 = (wgo r k l s).1.take (l.length + K)
  | [], K, k, l, s, hk, h => ⟨by simp [wgo], by rw [List.take_nil]; show l = l.take _; rw [List.take_of_length_le (by omega)]⟩
  | o :: r, 0, k, l, s, hk, h => by
    obtain ⟨L, h1, h2, h3⟩ := wgo_ok (o :: r) k l s hk h
    refine ⟨by rw [List.take_zero]; rfl, ?_⟩
    rw [h1]; show l = _
    rw [Nat.add_zero, List.take_left']
    rfl
  | o :: r, K + 1, k, l, s, hk, h => by
    rw [List.take_succ_cons]
    rw [wgo] at h ⊢
    cases hw : werr o l s != 0 with
    | true =>
      rw [hw] at h
      simp at hw
      exact absurd h hw
    | false =>
      rw [hw] at h
      obtain ⟨e1, e2⟩ := wgo_take r K (k + 1) _ _ (by simp at hk; omega) h
      refine ⟨e1, ?_⟩
      rw [show wgo (o :: r) k l s = wgo r (k + 1) (l ++ [opS o l]) (w64 (s + opW o l)) by rw [wgo, hw]; rfl]
      show (wgo (r.take K) (k + 1) (l ++ [opS o l]) (w64 (s + opW o l))).1 = _
      rw [e2, List.length_append, List.length_singleton]
      congr 1; omega
theorem getD_take {α : Type} [Inhabited α] {l : List α} {n k : Nat} (h : n < k) : (l.take k).getD n default = l.getD n default := by
  rw [List.getD_eq_getElem?_getD, List.getElem?_take, if_pos h, List.getD_eq_getElem?_getD]
section
variable {m : Model} (h : (wholeF m).2.2.Err = 0) {K : Nat} (hK : K ≤ m.Ops.length)
include h hK
theorem front_whole : (wholeF (frontM m K)).2.2 = ⟨0, 0, 0⟩ ∧ (wholeF (frontM m K)).1 = (wholeF m).1.take (K + 1) := by
  have hl := (whole_ok h).1
  unfold wholeF at h ⊢
  cases h1 : wh1 m <;> simp only [h1, if_true, if_false, Bool.false_eq_true] at h ⊢
  cases h2 : wh2 m <;> simp only [h2, if_true, if_false, Bool.false_eq_true] at h ⊢
  cases h3 : wh3 m <;> simp only [h3, if_true, if_false, Bool.false_eq_true] at h ⊢
  cases h4 : wh4 m <;> simp only [h4, if_true, if_false, Bool.false_eq_true] at h ⊢
  · have g1 : wh1 (frontM m K) = false := h1
    have g2 : wh2 (frontM m K) = false := h2
    have g3 : wh3 (frontM m K) = false := by simp only [wh3, frontM, List.length_map, List.length_take]; simp; omega
    have g4 : wh4 (frontM m K) = false := by
      show (bif decide ((K : Int) < 0) then true else decide ((K : Int) > (((m.Ops.take K).map opC).length : Int))) = false
      have hn : ¬ (K : Int) < 0 := by omega
      rw [List.length_map, List.length_take, Nat.min_eq_left hK, decide_eq_false hn]
      simp
    simp only [g1, g2, g3, g4, if_true, if_false, Bool.false_eq_true]
    obtain ⟨e1, e2⟩ := wgo_take m.Ops K 0 [m.In] 0 (by omega) h
    exact ⟨e1, by rw [show (frontM m K).Ops = m.Ops.take K from rfl, show (frontM m K).In = m.In from rfl, e2]; congr 1; simp; omega⟩
  · omega
  · omega
  · omega
  · simp [wh1] at h1; omega
theorem front_sh {n : Nat} (hn : n ≤ K) : shAt (frontM m K) n = shAt m n := by
  unfold shAt; rw [(front_whole h hK).2]; exact getD_take (by omega)
omit h hK in
theorem front_op {i : Nat} (hi : i < K) : (frontM m K).Ops.getD i default = m.Ops.getD i default := getD_take hi
theorem front_find {i : Nat} (hi : i < K) (hk : inB (m.Ops.getD i default).Kind 1 4 = true) : findE (frontM m K) ((i : Int) + 1) = 0 ∧ findS (frontM m K) ((i : Int) + 1) = findS m ((i : Int) + 1) := by
  have hp : (wholeF (frontM m K)).2.2.Err = 0 := by rw [(front_whole h hK).1]
  have hl : (frontM m K).Ops.length = K := by show (m.Ops.take K).length = K; rw [List.length_take]; omega
  have f0 := red_find h (i := i) (by omega) hk
  have f1 := red_find hp (i := i) (by omega) (by rw [front_op hi]; exact hk)
  refine ⟨f1, ?_⟩
  obtain ⟨_, _, _, _, e0⟩ := site_ok f0
  obtain ⟨_, _, _, _, e1⟩ := site_ok f1
  have O := op_at h (i := i) (by omega)
  have eo : opAt (frontM m K) ((i : Int) + 1) = opAt m ((i : Int) + 1) := by
    unfold opAt; rw [show ((i : Int) + 1 - 1).toNat = i by omega]; exact front_op hi
  have hA : (opAt m ((i : Int) + 1)).A.toNat ≤ i := by
    have := O.A
    unfold opAt; rw [show ((i : Int) + 1 - 1).toNat = i by omega]; omega
  have ea : aAt (frontM m K) ((i : Int) + 1) = aAt m ((i : Int) + 1) := by
    unfold aAt; rw [eo]; exact front_sh h hK (by omega)
  have es : (wholeF (frontM m K)).1.getD ((i : Int) + 1).toNat default = (wholeF m).1.getD ((i : Int) + 1).toNat default := front_sh h hK (by omega)
  rw [e0, e1, eo, ea, es]
  unfold lenAt
  rw [eo, ea]
theorem front_make {i : Nat} (hi : i < K) (all : List (List Int)) : makeF (frontM m K) i all = makeF m i all := by
  have O := op_at h (i := i) (by omega)
  have hA := O.A
  have eo : (frontM m K).Ops.getD i default = m.Ops.getD i default := front_op hi
  have ei : ((i : Int) + 1 - 1).toNat = i := by omega
  unfold makeF
  rw [eo, front_sh h hK (n := (m.Ops.getD i default).A.toNat) (by omega), front_sh h hK (n := i + 1) (by omega)]
  by_cases k1 : inB (m.Ops.getD i default).Kind 1 4 = true
  · rw [if_pos k1, if_pos k1]
    obtain ⟨f1, f2⟩ := front_find h hK hi k1
    have f0 := red_find h (i := i) (by omega) k1
    have es : ∀ a, sumsF (frontM m K) ((i : Int) + 1) a = sumsF m ((i : Int) + 1) a := fun a => by
      unfold sumsF oneSum termsF biasF
      rw [f1, f0, f2, ei, eo]
    unfold reduceF
    rw [es, f2, ei, eo]
  · rw [if_neg k1, if_neg k1]
theorem front_tens (x : List Int) : ∀ {i : Nat}, i ≤ K → tensG (frontM m K) x i = tensG m x i
  | 0, _ => rfl
  | i + 1, hi => by
    show tensG (frontM m K) x i ++ [makeF (frontM m K) i (tensG (frontM m K) x i)] = tensG m x i ++ [makeF m i (tensG m x i)]
    rw [front_tens x (i := i) (by omega), front_make h hK (by omega)]
theorem front_eval {x : List Int} (hx : inputB m x = true) : tensFt (frontM m K) x = ⟨0, 0, 0⟩ ∧ evalL (frontM m K) x = (tensG m x m.Ops.length).getD K default := by
  have hp : (wholeF (frontM m K)).2.2.Err = 0 := by rw [(front_whole h hK).1]
  have hl : (frontM m K).Ops.length = K := by show (m.Ops.take K).length = K; rw [List.length_take]; omega
  have ef : tensFt (frontM m K) x = ⟨0, 0, 0⟩ := by
    unfold tensFt; rw [if_pos hp, if_pos (show inputB (frontM m K) x = true from hx)]
  refine ⟨ef, ?_⟩
  unfold evalL tensL
  rw [ef, if_pos rfl, if_pos rfl, hl, front_tens h hK x (Nat.le_refl K)]
  show (tensG m x K).getD K default = _
  rw [tensG_get m x hK]
end
theorem homeV_in {o : MOp} (ho : EndsOk o) (v : Int) : o.Lo ≤ homeV o v ∧ homeV o v ≤ o.Hi := nearI_range ho.l.2.1 _
/-- each number of an op's tensor lies between the op's ends -/
theorem make_in {m : Model} (h : (wholeF m).2.2.Err = 0) {i : Nat} (hi : i < m.Ops.length) (all : List (List Int)) : ∀ v ∈ makeF m i all, (m.Ops.getD i default).Lo ≤ v ∧ v ≤ (m.Ops.getD i default).Hi := by
  have O := op_at h hi
  intro v hv
  unfold makeF at hv
  by_cases k1 : inB (m.Ops.getD i default).Kind 1 4 = true
  · rw [if_pos k1] at hv
    obtain ⟨t, _, rfl⟩ := List.mem_map.1 hv
    rw [show ((i : Int) + 1 - 1).toNat = i by omega]
    exact homeV_in O.ends _
  · rw [if_neg k1] at hv
    by_cases k5 : (m.Ops.getD i default).Kind = 5
    · rw [if_pos k5] at hv
      obtain ⟨t, _, rfl⟩ := List.mem_map.1 hv
      exact homeV_in O.ends _
    · rw [if_neg k5] at hv
      obtain ⟨t, _, rfl⟩ := List.mem_map.1 hv
      exact homeV_in O.ends _
end Go.AM
end
section
open Go Go.AM Go.Proofs
set_option maxRecDepth 10000
set_option linter.unusedVariables false
set_option linter.unusedSimpArgs false
namespace Go.AM
theorem mem_getD {l : List Int} {j : Nat} (h : j < l.length) : l.getD j default ∈ l := by
  rw [List.getD_eq_getElem?_getD, List.getElem?_eq_getElem h]; exact List.getElem_mem h
structure AllOk (m : Model) (x : List Int) : Prop where
  n : m.Ops.length ≤ 64
  len : (tensL m x).length = m.Ops.length + 1
  fst : (tensL m x).getD 0 default = x
  row : ∀ i, i ≤ m.Ops.length → B8 ((tensL m x).getD i default) ∧ ((tensL m x).getD i default).length ≤ 16384
  ends : ∀ i, i < m.Ops.length → ∀ v ∈ (tensL m x).getD (i + 1) default, (m.Ops.getD i default).Lo ≤ v ∧ v ≤ (m.Ops.getD i default).Hi
theorem all_ok {m : Model} {x : List Int} (hx : B8 x) (h : (tensFt m x).Err = 0) : AllOk m x := by
  obtain ⟨z1, z2, z3, z4⟩ := tens_zero h
  have hxl : (x.length : Int) = elemsN m.In := by
    unfold inputB at z2
    simp only [Bool.and_eq_true, decide_eq_true_eq] at z2
    exact z2.1
  refine ⟨(whole_ok z1).1, by rw [z4, tensG_len], ?_, fun i hi => ?_, fun i hi v hv => ?_⟩
  · rw [z4, tensG_get m x (Nat.zero_le _)]; rfl
  · rw [z4, tensG_get m x hi]
    have T := tens_ok z1 hx hxl i hi
    refine ⟨T.1, ?_⟩
    have S : shapeB (shAt m i) = true := shapes_ok z1 (i := i) (by omega)
    have e := elems_in S
    have := T.2
    unfold tens at this
    omega
  · rw [z4, tensG_get m x (show i + 1 ≤ m.Ops.length by omega)] at hv
    have e : (tensG m x (i + 1)).getD (i + 1) default = makeF m i (tensG m x i) := tens_succ m x i
    rw [e] at hv
    exact make_in z1 hi _ v hv
def pickN (n : Int) (k : Nat) : Nat := (IntKind.u64.wrap n % (k : Int)).toNat
theorem pickN_lt (n : Int) {k : Nat} (hk : 1 ≤ k) : pickN n k < k := by
  have := Int.emod_lt_of_pos (IntKind.u64.wrap n) (show 0 < (k : Int) by omega)
  unfold pickN
  omega
theorem pick_eq (n : Int) {k : Nat} (hk : 1 ≤ k) (hk2 : k ≤ 1048576) : IntKind.i64.wrap ((IntKind.u64.wrap n).tmod (IntKind.u64.wrap (k : Int))) = (pickN n k : Int) ∧ IntKind.u64.wrap (k : Int) ≠ 0 := by
  have e : IntKind.u64.wrap (k : Int) = (k : Int) := by rw [IntKind.wrap_u64]; omega
  have h0 : 0 ≤ IntKind.u64.wrap n := by rw [IntKind.wrap_u64]; omega
  have h1 := Int.emod_nonneg (IntKind.u64.wrap n) (show (k : Int) ≠ 0 by omega)
  have h2 := Int.emod_lt_of_pos (IntKind.u64.wrap n) (show 0 < (k : Int) by omega)
  rw [e, Int.tmod_eq_emod_of_nonneg h0]
  unfold pickN
  refine ⟨?_, by omega⟩
  rw [show IntKind.i64.wrap (IntKind.u64.wrap n % (k : Int)) = IntKind.u64.wrap n % (k : Int) from w64_id (by omega)]
  omega
theorem front_Wf {m : Model} (hm : m.Wf) {K : Nat} (hK : K ≤ 64) : (frontM m K).Wf := by
  obtain ⟨h1, h2, h3, ⟨h4, h5⟩, h6⟩ := hm
  refine ⟨h1, h2, h3, ⟨?_, fun o ho => h5 o (List.mem_of_mem_take ho)⟩, I64.iff.2 ?_⟩
  · show (m.Ops.take K).length * 208 ≤ reachBytes
    have : (m.Ops.take K).length ≤ m.Ops.length := by rw [List.length_take]; omega
    exact Nat.le_trans (Nat.mul_le_mul_right _ this) h4
  · show -9223372036854775808 ≤ (K : Int) ∧ (K : Int) ≤ 9223372036854775807
    omega
theorem plainFronts (m : Model) (hm : m.Wf) (x : List Int) (hxl : ListWf 1 I8 x) (n : Int) (hn : I64 n) : Ok Try.prog 5 [.agg (modelC m), .ro (x.map i8C), .int .i64 n] (.bool true) := by
  have hx : B8 x := fun v hv => I8.iff.1 (hxl.2 v hv)
  --@@1
  skip
  refine fn_ok Tb_ok (fn := Try.f5) Try.func5 rfl rfl (e := [(0, _), (1, _), (2, _)]) rfl (by decide) rfl ?_
  refine zs ?_
  refine zR ?_
  refine zbx [.int _ _, .int _ _, .int _ _, .int _ _, .int _ _, _, .int _ _] 7 ?_
  refine zLB ?_
  refine zn ?_
  refine zs ?_
  refine zs ?_
  refine zR ?_
  refine zLc (law11_fixed) ?_
  refine zLB ?_
  refine zn ?_
  refine W_cond (b := _) rfl (fun h18 => ?_) (fun h18 => ?_)
  · refine zs ?_
    refine zR ?_
    refine zLB ?_
    refine zn ?_
    refine zt ?_
    refine ends (l := [.bool _]) (q := .bool _) (.inr rfl) rfl ⟨trivial, trivial⟩ rfl rfl ?_
    exact absurd h18 (by decide)
  · refine zk ?_
    refine zs ?_
    refine zR ?_
    refine zLG [.int _ _, .int _ _, .int _ _, .int _ _, .int _ _, _, .int _ _] ?_
    refine zLO ?_
    refine zLc (plain_Tensors m hm x hx) ?_
    refine zLT [_, _] ?_
    refine zLO ?_
    refine zLG [.int _ _, .int _ _, .int _ _] ?_
    refine zal [.int .i64 0, .int .i64 0, .int .i64 0] 3 ?_
    refine zLO ?_
    refine zst (.agg [.int _ _, .int _ _, .int _ _]) [_, _, _] [[_, _, _]] ?_
    refine zn ?_
    refine zs ?_
    refine zs ?_
    refine zR ?_
    refine zLP ?_
    refine zLI ?_
    refine zLB ?_
    refine zn ?_
    refine W_cond (b := _) rfl (fun h27 => ?_) (fun h27 => ?_)
    · have hz : ¬ (tensFt m x).Err = 0 := by simpa using h27
      refine zs ?_
      refine zR ?_
      refine zLO ?_
      refine zLI ?_
      refine zLB ?_
      refine zLB ?_
      refine zn ?_
      refine zt ?_
      refine ends (l := [.bool _]) (q := .bool _) (.inr rfl) rfl ⟨trivial, trivial⟩ rfl rfl ?_
      rw [tensL, if_neg hz]; rfl
    · have hz : (tensFt m x).Err = 0 := by simpa using h27
      have A := all_ok hx hz
      have hn1 := A.n
      obtain ⟨z1, z2, z3, z4⟩ := tens_zero hz
      have hx0 : x.length ≤ 16384 := by have := (A.row 0 (by omega)).2; rwa [A.fst] at this
      have hb0 : (0 : Int) < (((tensL m x).map rowI).length : Int) := by rw [List.length_map, A.len]; omega
      have hc45 : (bif ((((tensL m x).map rowI).length : Int) != IntKind.i64.wrap (((m.Ops.map opC).length : Int) + 1)) then true else !decide ((tensL m x).getD 0 default = x)) = false := by
        rw [A.fst, List.length_map, List.length_map, A.len, show IntKind.i64.wrap ((m.Ops.length : Int) + 1) = (m.Ops.length : Int) + 1 from w64_id (by omega)]; simp
      obtain ⟨hpk0, hnz⟩ := pick_eq n (k := m.Ops.length + 1) (by omega) (by omega)
      have hl1 : ((m.Ops.length + 1 : Nat) : Int) = IntKind.i64.wrap (((m.Ops.map opC).length : Int) + 1) := by rw [List.length_map, show IntKind.i64.wrap ((m.Ops.length : Int) + 1) = (m.Ops.length : Int) + 1 from w64_id (by omega)]; omega
      rw [hl1] at hpk0 hnz
      have hpl := pickN_lt n (k := m.Ops.length + 1) (by omega)
      have hpk : IntKind.i64.wrap ((IntKind.u64.wrap n).tmod (IntKind.u64.wrap (IntKind.i64.wrap (((m.Ops.map opC).length : Int) + 1)))) = ((pickN n (m.Ops.length + 1) : Nat) : Int) := hpk0
      clear hpk0 hl1
      refine zk ?_
      refine zs ?_
      refine zs ?_
      refine zR ?_
      refine zLO ?_
      refine zLI ?_
      refine zLP ?_
      refine zLO ?_
      refine zLI ?_
      refine zLI ?_
      refine zLB ?_
      refine zLB ?_
      refine zgLO ?_
      (refine L_g Tb_ok (v := _) rfl rfl ((fun hg => (ave_index_ro rfl rfl rfl (fun _ => rfl) rfl (by first | omega | exact hb0 | exact hnz | (have := A.len; omega)) (by first | omega | exact hb0 | exact hnz | (have := A.len; omega)) ⟨⟨(by first | exact hg | (simp_all; done) | (simp at hg ⊢; simp [hg])), True.intro⟩, True.intro⟩))) rfl rfl ?_)
      refine zgLO ?_
      refine zgLO ?_
      refine L_callg (hr := fun hg => ref11_Same _ _ (by show ((tensL m x).getD 0 default).length ≤ _; rw [A.fst]; omega)) rfl rfl rfl rfl rfl (fun hg => ⟨⟨(by exact hg), True.intro⟩, ⟨⟨(by exact hg), True.intro⟩, True.intro⟩⟩) rfl rfl ?_
      refine zgLB ?_
      refine zpLB ?_
      refine zn ?_
      refine W_cond_f (b := _) rfl (by exact hc45) ?_
      refine zk ?_
      refine zs ?_
      refine zs ?_
      refine zR ?_
      refine zLP ?_
      refine zLO ?_
      refine zLI ?_
      refine zLI ?_
      refine zn ?_
      refine W_block ?_
      -- slot 70 changes in the loop: hint wanted
      -- slot 71 changes in the loop: hint wanted
      -- slot 72 changes in the loop: hint wanted
      -- slot 73 changes in the loop: hint wanted
      -- slot 74 changes in the loop: hint wanted
      refine W_forE (m.Ops.length) [(1, .ro _), (2, .int _ _), (3, .ptr 0 0 0), (7, .ro _), (47, .ro _), (48, .int _ _)] (fun (i : Nat) => [(49, .int .i64 (i : Int))]) [(0, some ⟨_, _, _, _⟩)] (fun (i : Nat) => []) [] (fun (i : Nat) => []) 1 (le_fit (sub_cat ⟨rfl, trivial⟩ ⟨rfl, rfl, rfl, rfl, rfl, rfl, trivial⟩) (subO_cat trivial ⟨.inr rfl, trivial⟩) (subK_cat trivial trivial) rfl rfl rfl (by rfl) rfl) ?_
      intro i hi
      refine W.of_le (s' := ⟨[(49, .int .i64 (i : Int)), (1, .ro _), (2, .int _ _), (3, .ptr 0 0 0), (7, .ro _), (47, .ro _), (48, .int _ _)], [(0, some ⟨_, _, _, _⟩)], [], 1⟩) (le_fit ⟨rfl, rfl, rfl, rfl, rfl, rfl, rfl, trivial⟩ ⟨.inr rfl, trivial⟩ trivial rfl rfl rfl (by rfl) rfl) ?_
      refine zs ?_
      refine zR ?_
      refine zLB ?_
      refine zn ?_
      refine zs ?_
      refine W_cond (b := _) rfl (fun h50 => ?_) (fun h50 => ?_)
      · have hit : i < m.Ops.length := by (have := of_decide_eq_true h50; simp only [List.length_map, List.length_take, List.length_drop] at this; omega)
        have hE := A.ends i hit
        have hR := A.row (i + 1) (by omega)
        have hi1 : (((i + 1 : Nat) : Int)) < (((tensL m x).map rowI).length : Int) := by rw [List.length_map, A.len]; omega
        refine zk ?_
        refine zs ?_
        refine W_block ?_
        refine zs ?_
        refine zR ?_
        refine zLI ?_
        (refine L_v Tb_ok (v := _) (ave_index_ro rfl rfl rfl (fun _ => rfl) rfl (by first | omega | exact hb0 | exact hnz | (have := A.len; omega)) (by first | omega | exact hb0 | exact hnz | (have := A.len; omega)) trivial) rfl ?_)
        refine zLG [.int _ _, .int _ _, .int _ _, .int _ _, .int _ _, .int _ _, .int _ _, .int _ _, .int _ _, .int _ _, .int _ _, .int _ _, _, _, .int _ _, .int _ _, .int _ _, .int _ _, .int _ _, .int _ _, .int _ _, .int _ _] ?_
        refine zal [.int .i64 0, .int .i64 0, .int .i64 0, .int .i64 0, .int .i64 0, .int .i64 0, .int .i64 0, .int .i64 0, .int .i64 0, .int .i64 0, .int .i64 0, .int .i64 0, .nils, .nils, .int .i64 0, .int .i64 0, .int .i64 0, .int .i64 0, .int .i64 0, .int .i64 0, .int .i64 0, .int .i64 0] 22 ?_
        refine zLI ?_
        refine zst (.agg [.int _ _, .int _ _, .int _ _, .int _ _, .int _ _, .int _ _, .int _ _, .int _ _, .int _ _, .int _ _, .int _ _, .int _ _, _, _, .int _ _, .int _ _, .int _ _, .int _ _, .int _ _, .int _ _, .int _ _, .int _ _]) [_, _, _, _, _, _, _, _, _, _, _, _, _, _, _, _, _, _, _, _, _, _] [[_, _, _, _, _, _, _, _, _, _, _, _, _, _, _, _, _, _, _, _, _, _]] ?_
        refine zn ?_
        refine zs ?_
        refine zR ?_
        refine zLO ?_
        refine zLI ?_
        refine zLI ?_
        simp only [w_succ hit (show m.Ops.length ≤ 4611686018427387904 by omega)]
        (refine L_v Tb_ok (v := _) (ave_index_ro rfl rfl rfl (fun _ => rfl) rfl (by first | omega | exact hb0 | exact hnz | (have := A.len; omega)) (by first | omega | exact hb0 | exact hnz | (have := A.len; omega)) trivial) rfl ?_)
        simp only [Int.toNat_natCast]
        refine zLO ?_
        refine zLI ?_
        refine zLI ?_
        refine zn ?_
        refine W_block ?_
        -- slot 70 changes in the loop: hint wanted
        -- slot 71 changes in the loop: hint wanted
        -- slot 72 changes in the loop: hint wanted
        -- slot 73 changes in the loop: hint wanted
        -- slot 74 changes in the loop: hint wanted
        refine W_forE (((tensL m x).getD (i + 1) default).length) [(1, .ro _), (2, .int _ _), (3, .ptr 0 0 0), (7, .ro _), (10, .ptr 1 0 0), (47, .ro _), (48, .int _ _), (49, .int _ _), (58, .ro _), (59, .int _ _)] (fun (j : Nat) => [(60, .int .i64 (j : Int))]) [(0, some ⟨_, _, _, _⟩), (1, some ⟨_, _, _, _⟩)] (fun (j : Nat) => []) [] (fun (j : Nat) => []) 2 (le_fit (sub_cat ⟨rfl, trivial⟩ ⟨rfl, rfl, rfl, rfl, rfl, rfl, rfl, rfl, rfl, rfl, trivial⟩) (subO_cat trivial ⟨.inr rfl, .inr rfl, trivial⟩) (subK_cat trivial trivial) rfl rfl rfl (by rfl) rfl) ?_
        intro j hj
        refine W.of_le (s' := ⟨[(60, .int .i64 (j : Int)), (1, .ro _), (2, .int _ _), (3, .ptr 0 0 0), (7, .ro _), (10, .ptr 1 0 0), (47, .ro _), (48, .int _ _), (49, .int _ _), (58, .ro _), (59, .int _ _)], [(0, some ⟨_, _, _, _⟩), (1, some ⟨_, _, _, _⟩)], [], 2⟩) (le_fit ⟨rfl, rfl, rfl, rfl, rfl, rfl, rfl, rfl, rfl, rfl, rfl, trivial⟩ ⟨.inr rfl, .inr rfl, trivial⟩ trivial rfl rfl rfl (by rfl) rfl) ?_
        refine zs ?_
        refine zR ?_
        refine zLB ?_
        refine zn ?_
        refine zs ?_
        refine W_cond (b := _) rfl (fun h61 => ?_) (fun h61 => ?_)
        · have hjt : j < ((tensL m x).getD (i + 1) default).length := by (have := of_decide_eq_true h61; simp only [List.length_map, List.length_take, List.length_drop] at this; omega)
          have hv := hE (((tensL m x).getD (i + 1) default).getD j default) (mem_getD hjt)
          have hv8 := hR.1 (((tensL m x).getD (i + 1) default).getD j default) (mem_getD hjt)
          have hw8 : IntKind.i64.wrap (((tensL m x).getD (i + 1) default).getD j default) = ((tensL m x).getD (i + 1) default).getD j default := w64_id (by omega)
          have hc75 : (bif decide (IntKind.i64.wrap (((tensL m x).getD (i + 1) default).getD j default) < (m.Ops.getD i default).Lo) then true else decide (IntKind.i64.wrap (((tensL m x).getD (i + 1) default).getD j default) > (m.Ops.getD i default).Hi)) = false := by rw [hw8, decide_eq_false (by omega), decide_eq_false (by omega)]; rfl
          refine zk ?_
          refine zs ?_
          refine W_block ?_
          refine zs ?_
          refine zR ?_
          (refine L_v Tb_ok (v := _) (ave_index_ro rfl rfl rfl (fun _ => rfl) rfl (by first | omega | exact hb0 | exact hnz | (have := A.len; omega)) (by first | omega | exact hb0 | exact hnz | (have := A.len; omega)) trivial) rfl ?_)
          refine zLI ?_
          refine zLI ?_
          refine zn ?_
          refine zs ?_
          refine zR ?_
          refine zLI ?_
          refine zLI ?_
          refine zLP ?_
          refine zLI ?_
          refine zLB ?_
          refine zLB ?_
          refine zgLI ?_
          refine zgLI ?_
          refine zgLP ?_
          refine zgLI ?_
          refine zgLB ?_
          refine zpLB ?_
          refine zn ?_
          refine W_cond_f (b := _) rfl (by exact hc75) ?_
          refine zk ?_
          refine zR ?_
          refine zLI ?_
          refine zLI ?_
          refine zn ?_
          refine for_end hjt (le_fit (sub_cat ⟨congrArg _ (w_succ hjt (by omega)), trivial⟩ ⟨rfl, rfl, rfl, rfl, rfl, rfl, rfl, rfl, rfl, rfl, trivial⟩) (subO_cat trivial ⟨.inr rfl, .inr rfl, trivial⟩) (subK_cat trivial trivial) rfl rfl rfl (by rfl) rfl)
        · have hje : j = ((tensL m x).getD (i + 1) default).length := by (have := of_decide_eq_false h61; simp only [List.length_map, List.length_take, List.length_drop] at this; omega)
          refine W_exit ?_
          repeat (first | refine pass_then ?_ | refine pass_for ?_)
          refine blockQ_hit ?_
          refine zR ?_
          refine zLI ?_
          refine zLI ?_
          refine zn ?_
          refine for_end hit (le_fit (sub_cat ⟨congrArg _ (w_succ hit (by omega)), trivial⟩ ⟨rfl, rfl, rfl, rfl, rfl, rfl, trivial⟩) (subO_cat trivial ⟨.inr rfl, trivial⟩) (subK_cat trivial trivial) rfl rfl rfl (by rfl) rfl)
      · have hie : i = m.Ops.length := by (have := of_decide_eq_false h50; simp only [List.length_map, List.length_take, List.length_drop] at this; omega)
        refine W_exit ?_
        repeat (first | refine pass_then ?_ | refine pass_for ?_)
        refine blockQ_hit ?_
        refine zs ?_
        refine zR ?_
        refine zLI ?_
        refine zLI ?_
        refine zLP ?_
        refine zLO ?_
        refine zLI ?_
        refine zLI ?_
        refine zLI ?_
        refine L_v Tb_ok (v := .int _ _) (av rfl ⟨trivial, (by omega)⟩) rfl ?_
        refine zLI ?_
        simp only [hpk]
        refine zLI ?_
        refine zn ?_
        refine zs ?_
        refine zR ?_
        refine zLG [.int _ _, .int _ _, .int _ _, .int _ _, .int _ _, _, .int _ _] ?_
        refine zal [.int .i64 0, .int .i64 0, .int .i64 0, .int .i64 0, .int .i64 0, .nils, .int .i64 0] 7 ?_
        refine zst (.agg [.int _ _, .int _ _, .int _ _, .int _ _, .int _ _, _, .int _ _]) [_, _, _, _, _, _, _] [[_, _, _, _, _, _, _]] ?_
        refine zn ?_
        refine zs ?_
        refine zR ?_
        refine L_build Tb_ok (t := 24) (len := 0) (el := 39) (sz := 22) (es := []) (z := [.int .i64 0, .int .i64 0, .int .i64 0, .int .i64 0, .int .i64 0, .int .i64 0, .int .i64 0, .int .i64 0, .int .i64 0, .int .i64 0, .int .i64 0, .int .i64 0, .nils, .nils, .int .i64 0, .int .i64 0, .int .i64 0, .int .i64 0, .int .i64 0, .int .i64 0, .int .i64 0, .int .i64 0]) rfl rfl rfl rfl rfl (by decide) trivial rfl rfl rfl rfl rfl ?_
        refine zLP ?_
        refine zLO ?_
        refine zLI ?_
        refine L_slice_mapto Tb_ok (f := opC) (xs := m.Ops) (pickN n (m.Ops.length + 1)) (el := 39) (sz := 22) rfl rfl rfl rfl rfl (fun _ => rfl) (by rfl) (by omega) ⟨trivial, trivial⟩ rfl ?_
        refine L_app_rowm Tb_ok (f := opC) [] (m.Ops.take (pickN n (m.Ops.length + 1))) rfl rfl rfl rfl (fun _ => rfl) (fun _ => rfl) (fun _ => rfl) rfl rfl rfl ⟨trivial, trivial⟩ (by rw [show (Tb.at 39).bytes = 208 from rfl]; simp; omega) rfl ?_
        refine zLP ?_
        refine zst (.app _ _) [_] [[_, _, _, _, _, _, _]] ?_
        refine zn ?_
        refine zs ?_
        refine zR ?_
        refine zLI ?_
        refine zLP ?_
        refine zst (.int _ _) [_] [[_, _, _, _, _, _, _]] ?_
        refine zn ?_
        refine zs ?_
        refine zR ?_
        refine zLG [.int _ _, .int _ _, .int _ _, .int _ _, .int _ _, _, .int _ _] ?_
        refine zLO ?_
        refine zLc (plain_Eval (frontM m (pickN n (m.Ops.length + 1))) (front_Wf hm (by omega)) x hx) ?_
        refine zLT [_, _] ?_
        refine zLO ?_
        refine zLG [.int _ _, .int _ _, .int _ _] ?_
        refine zal [.int .i64 0, .int .i64 0, .int .i64 0] 3 ?_
        refine zLO ?_
        refine zst (.agg [.int _ _, .int _ _, .int _ _]) [_, _, _] [[_, _, _]] ?_
        refine zn ?_
        refine zs ?_
        refine zR ?_
        refine zLG [.int _ _, .int _ _, .int _ _] ?_
        refine zLG [.int _ _, .int _ _, .int _ _] ?_
        refine zLB ?_
        refine zLB ?_
        refine zgLO ?_
        refine zgLO ?_
        refine zgLI ?_
        (refine L_g Tb_ok (v := _) rfl rfl ((fun hg => (ave_index_ro rfl rfl rfl (fun _ => rfl) rfl (by first | omega | exact hb0 | exact hnz | (have := A.len; omega)) (by first | omega | exact hb0 | exact hnz | (have := A.len; omega)) ⟨⟨(by first | exact hg | (simp_all; done) | (simp at hg ⊢; simp [hg])), True.intro⟩, ⟨⟨(by first | exact hg | (simp_all; done) | (simp at hg ⊢; simp [hg])), True.intro⟩, True.intro⟩⟩))) rfl rfl ?_)
        refine zgLO ?_
        refine L_callg (hr := fun hg => ref11_Same _ _ (by rw [(front_eval z1 (by omega) z2).2, ← z4]; exact Nat.le_trans (A.row _ (by omega)).2 (by omega))) rfl rfl rfl rfl rfl (fun hg => ⟨⟨(by exact hg), True.intro⟩, ⟨⟨(by exact hg), True.intro⟩, True.intro⟩⟩) rfl rfl ?_
        refine zpLB ?_
        refine zLB ?_
        refine zn ?_
        refine zt ?_
        refine ends (l := [.bool _]) (q := .bool _) (.inr rfl) rfl ⟨trivial, trivial⟩ rfl rfl ?_
        obtain ⟨f1, f2⟩ := front_eval z1 (K := pickN n (m.Ops.length + 1)) (by omega) z2
        rw [f1, f2, ← z4]
        simp
end Go.AM
end
section
open Go Go.AM Go.Proofs
set_option maxRecDepth 10000
set_option linter.unusedVariables false
set_option linter.unusedSimpArgs false
namespace Go.AM
/-- what is known of a step that reduces -/
structure StepH (m : Model) (x : List Int) (op : Int) (pick : Int) (i k c p : Nat) (a : List Int) : Prop where
  hi : i < m.Ops.length
  eop : op = (i : Int) + 1
  ow : IntKind.i64.wrap (op - 1) = (i : Int)
  f0 : findE m op = 0
  ea : a = (tensL m x).getD (m.Ops.getD i default).A.toNat default
  A0 : 0 ≤ (m.Ops.getD i default).A
  A1 : (m.Ops.getD i default).A < ((tensL m x).length : Int)
  tot : totE m op a = 0 ∧ totL m op a = sumsF m op a
  row : (tensL m x).getD (i + 1) default = (sumsF m op a).map (redV (m.Ops.getD i default) (findS m op).Len)
  len : 1 ≤ (sumsF m op a).length ∧ (sumsF m op a).length ≤ 16384
  C : (findS m op).Out.C = (c : Int) ∧ 1 ≤ c ∧ c ≤ 16384
  ek : k = pickN pick (sumsF m op a).length ∧ k < (sumsF m op a).length
  of : ofE m op (((k % c : Nat) : Int) + 1) (p : Int) = 0
  ep : p = k / c
  al : a.length ≤ 16384
  B : B8 a
  at_ : ∀ t ∈ termsF m op (((k % c : Nat) : Int) + 1) (p : Int), t.At < (a.length : Int)
  get : (sumsF m op a).getD k default = sumT (biasF m op (((k % c : Nat) : Int) + 1) (p : Int)) (termsF m op (((k % c : Nat) : Int) + 1) (p : Int)) a (m.Ops.getD i default).Pad
  bd : -4294967296 ≤ (sumsF m op a).getD k default ∧ (sumsF m op a).getD k default ≤ 4294967296
  ends : EndsOk (m.Ops.getD i default)
  L : 1 ≤ (findS m op).Len ∧ (findS m op).Len ≤ 512
  sa : (m.Ops.getD i default).Kind ≠ 4 → applyE (m.Ops.getD i default).SA = 0
theorem step_h {m : Model} (hm : m.Wf) {x : List Int} (hx : B8 x) (hz : (tensFt m x).Err = 0) {op pick : Int} (h1 : 1 ≤ op) (h2 : op ≤ m.Ops.length) (hk : (m.Ops.getD (op - 1).toNat default).Kind ≤ 4) : ∃ i k c p a, StepH m x op pick i k c p a := by
  obtain ⟨z1, z2, z3, z4⟩ := tens_zero hz
  have hxl : (x.length : Int) = elemsN m.In := by
    unfold inputB at z2
    simp only [Bool.and_eq_true, decide_eq_true_eq] at z2
    exact z2.1
  obtain ⟨i, hi⟩ : ∃ i : Nat, (i : Int) = op - 1 := ⟨(op - 1).toNat, by omega⟩
  have ei : (op - 1).toNat = i := by omega
  have hop : op = (i : Int) + 1 := by omega
  rw [ei] at hk
  have hil : i < m.Ops.length := by omega
  have hn := (whole_ok z1).1
  have O := op_at z1 hil
  have hA := O.A
  have kd := O.kind
  have hk14 : inB (m.Ops.getD i default).Kind 1 4 = true := by have : 1 ≤ (m.Ops.getD i default).Kind ∧ (m.Ops.getD i default).Kind ≤ 4 := ⟨kd.1, hk⟩; simpa [inB] using this
  have f0 := red_find z1 hil hk14
  rw [← hop] at f0
  obtain ⟨hS, _⟩ := site_ok f0
  have rs := red_site (m := m) (i := i) (by rw [← hop]; exact f0)
  rw [← hop] at rs
  obtain ⟨s1, s2, s3⟩ := rs
  have TA := tens_ok z1 hx hxl (m.Ops.getD i default).A.toNat (by omega)
  have ga : (tensL m x).getD (m.Ops.getD i default).A.toNat default = tens m x (m.Ops.getD i default).A.toNat := by rw [z4]; exact tensG_get m x (by omega)
  have al : (tensL m x).length = m.Ops.length + 1 := by rw [z4, tensG_len]
  obtain ⟨a, ha⟩ : ∃ a, a = (tensL m x).getD (m.Ops.getD i default).A.toNat default := ⟨_, rfl⟩
  have ha2 := ha
  rw [ga] at ha2
  have hal : (a.length : Int) = elemsI m op := by
    have := TA.2
    unfold elemsI; rw [s2, ha2]; exact this
  have eI := elems_in O.inB
  have tE : totE m op a = 0 := by unfold totE; rw [if_pos f0, if_pos hal]
  have sl := sums_len f0 a
  obtain ⟨c, hc⟩ : ∃ c : Nat, (c : Int) = (findS m op).Out.C := ⟨_, Int.toNat_of_nonneg (by have := shapeB_iff.1 hS.outB; omega)⟩
  have OB := shapeB_iff.1 hS.outB
  obtain ⟨p1, p2, p3⟩ := out_pos hS
  have hpos : 1 ≤ (sumsF m op a).length := by
    have : 0 < (findS m op).Out.H * (findS m op).Out.W * (findS m op).Out.C := Int.mul_pos (by omega) (by omega)
    have e := sl.2; unfold elemsN at e; omega
  obtain ⟨k, hkd⟩ : ∃ k, k = pickN pick (sumsF m op a).length := ⟨_, rfl⟩
  have hkl : k < (sumsF m op a).length := by rw [hkd]; exact pickN_lt pick hpos
  have hc1 : 1 ≤ c := by omega
  have hkm : k % c < c := Nat.mod_lt _ (by omega)
  obtain ⟨p, hp⟩ : ∃ p : Nat, p = k / c := ⟨_, rfl⟩
  obtain ⟨r, hr⟩ : ∃ r : Nat, r = k % c := ⟨_, rfl⟩
  have hkp : (p : Int) < (findS m op).Out.H * (findS m op).Out.W := by
    have e := sl.2; unfold elemsN at e; rw [← hc] at e
    obtain ⟨P, hP⟩ : ∃ P : Nat, (P : Int) = (findS m op).Out.H * (findS m op).Out.W := ⟨_, Int.toNat_of_nonneg (by omega)⟩
    rw [← hP] at e ⊢
    have : k < P * c := by
      have : ((sumsF m op a).length : Int) = ((P * c : Nat) : Int) := by rw [e, Int.natCast_mul]
      omega
    have := Nat.div_lt_of_lt_mul (by rw [Nat.mul_comm] at this; exact this : k < c * P)
    omega
  have hb : ofBad (findS m op) ((r : Int) + 1) (p : Int) = false := (ofBad_iff hS).2 ⟨by omega, by omega⟩
  have hlt2 := hkl
  rw [sumsF, List.length_map, List.length_range] at hlt2
  have eget : (sumsF m op a).getD k default = oneSum m op a p r := by
    rw [hp, hr]
    have ec : (findS m op).Out.C.toNat = c := by omega
    unfold sumsF
    rw [List.getD_eq_getElem?_getD, List.getElem?_map, List.getElem?_range hlt2]
    simp only [Option.map_some, Option.getD_some, ec]
  refine ⟨i, k, c, p, a, hil, hop, ?_, f0, ha, hA.1, by rw [al]; omega, ⟨tE, by rw [totL, if_pos tE]⟩, ?_, ⟨hpos, sl.1⟩, ⟨hc.symm, hc1, by omega⟩, ⟨hkd, hkl⟩, by rw [← hr]; unfold ofE; rw [if_pos f0, hb]; rfl, hp, ?_, by rw [ha2]; exact TA.1, fun t ht => ?_, ?_, ?_, O.ends, hS.len, fun k4 => ?_⟩
  · rw [hop]; exact (w64_id (by omega)).trans (by omega)
  · rw [z4, tensG_get m x (show i + 1 ≤ m.Ops.length by omega)]
    have e : (tensG m x (i + 1)).getD (i + 1) default = makeF m i (tensG m x i) := tens_succ m x i
    have ga' : (tensG m x i).getD (m.Ops.getD i default).A.toNat default = a := by rw [ha2]; exact tensG_get m x (by omega)
    rw [e, makeF, if_pos hk14, reduceF, ga', ← hop, ei]
  · have := TA.2
    rw [ha2]
    unfold elemsI at hal
    have e2 : ((tens m x (m.Ops.getD i default).A.toNat).length : Int) ≤ 16384 := by rw [this]; exact eI.2.2
    omega
  · have e2 : 0 ≤ (a.length : Int) := by omega
    rcases terms_in f0 _ _ t ht with h | h
    · omega
    · unfold elemsI at hal; omega
  · rw [eget, oneSum, ei, ← hr]
  · rw [eget]; exact oneSum_bd hm (by rw [ha2]; exact TA.1) (by rw [ei]; exact O.pad) _ _
  · have := O.sa (by omega)
    unfold applyE; rw [this]; rfl
end Go.AM
end
