/- The law NormHolds answers true, whatever its arguments: part 5 of 5 of its proof. -/
import Derived.Test.YtheclbekghjecaaRows
import Derived.WalkKit
import Derived.Test.YtheclbekghjecaaZNormHolds3
section
open Go Go.AM Go.Proofs
set_option maxRecDepth 10000
set_option linter.unusedVariables false
set_option linter.unusedSimpArgs false
namespace Go.AM
theorem mp_terms : termsF mPlain 1 1 0 = [⟨3, 0⟩, ⟨-2, 1⟩] := by decide +kernel
theorem mp_ofE : ofE mPlain 1 1 0 = 0 := by decide +kernel
theorem mp_bias : biasF mPlain 1 1 0 = 1 := by decide +kernel
theorem law12_fixed : Ok Try.prog 26 [] (.bool true) := by
  have h1 := norm_L1 mPlain 1 1
  have h2 := norm_Signed mPlain 1 1
  have h3 := norm_Quick mPlain 1 1 ⟨0, 10⟩
  have h4 := norm_Quick mPlain 1 1 ⟨5, 200⟩
  rw [show w64 (upF (termsF mPlain 1 1 0) - downF (termsF mPlain 1 1 0)) = 5 by decide +kernel, mp_ofE] at h1
  rw [show upF (termsF mPlain 1 1 0) = 3 by decide +kernel, show downF (termsF mPlain 1 1 0) = -2 by decide +kernel, mp_ofE] at h2
  rw [show quickS mPlain 1 1 ⟨0, 10⟩ = ⟨-49, 51⟩ by decide +kernel, show quickE mPlain 1 1 ⟨0, 10⟩ = 0 by decide +kernel] at h3
  rw [show quickS mPlain 1 1 ⟨5, 200⟩ = ⟨0, 0⟩ by decide +kernel, show quickE mPlain 1 1 ⟨5, 200⟩ = 30 by decide +kernel] at h4
  refine fn_ok Tb_ok (fn := Try.f26) Try.func26 rfl rfl (e := []) rfl (by decide) rfl ?_
  refine zs ?_
  refine zR ?_
  refine zLB ?_
  refine zn ?_
  refine zs ?_
  refine zR ?_
  refine zLc (law12_one) ?_
  refine zLc (h1) ?_
  refine zLT [_, _] ?_
  refine zLI ?_
  refine zLI ?_
  refine zLI ?_
  refine zLI ?_
  refine zn ?_
  refine zs ?_
  refine zR ?_
  refine zLc (law12_one) ?_
  refine zLc (h2) ?_
  refine zLT [_, _, _] ?_
  refine zLI ?_
  refine zLI ?_
  refine zLI ?_
  refine zLI ?_
  refine zLI ?_
  refine zLI ?_
  refine zn ?_
  refine zs ?_
  refine zR ?_
  refine zLc (law12_one) ?_
  refine zLG [.int _ _, .int _ _] ?_
  refine zLc (h3) ?_
  refine zLT [_, _] ?_
  refine zLG [.int _ _, .int _ _] ?_
  refine zLI ?_
  refine zal [.int .i64 0, .int .i64 0] 2 ?_
  refine zst (.agg [.int _ _, .int _ _]) [_, _] [[_, _]] ?_
  refine zLI ?_
  refine zn ?_
  refine zs ?_
  refine zR ?_
  refine zLc (law12_one) ?_
  refine zLG [.int _ _, .int _ _] ?_
  refine zLc (h4) ?_
  refine zLT [_, _] ?_
  refine zLG [.int _ _, .int _ _] ?_
  refine zLI ?_
  refine zal [.int .i64 0, .int .i64 0] 2 ?_
  refine zst (.agg [.int _ _, .int _ _]) [_, _] [[_, _]] ?_
  refine zLI ?_
  refine zn ?_
  refine zs ?_
  refine zR ?_
  refine zLI ?_
  refine zLB ?_
  refine zLB ?_
  refine zgLI ?_
  refine zgLB ?_
  refine zpLB ?_
  refine zLB ?_
  refine zgLI ?_
  refine zgLB ?_
  refine zpLB ?_
  refine zLB ?_
  refine zgLI ?_
  refine zgLB ?_
  refine zpLB ?_
  refine zLB ?_
  refine zgLI ?_
  refine zgLB ?_
  refine zpLB ?_
  refine zLB ?_
  refine zgLG [.int _ _, .int _ _] ?_
  refine zgLG [.int _ _, .int _ _] ?_
  refine zgLB ?_
  refine zpLB ?_
  refine zLB ?_
  refine zgLI ?_
  refine zgLB ?_
  refine zpLB ?_
  refine zLB ?_
  refine zgLI ?_
  refine zgLB ?_
  refine zpLB ?_
  refine zLB ?_
  refine zn ?_
  refine zt ?_
  refine ends (l := [.bool _]) (q := .bool _) (.inr rfl) rfl ⟨trivial, trivial⟩ rfl rfl ?_
  rfl
end Go.AM
end
section
open Go Go.AM Go.Proofs
set_option maxRecDepth 10000
set_option linter.unusedVariables false
set_option linter.unusedSimpArgs false
namespace Go.AM
theorem rf0 (m : Model) (op : Int) : rfE m op 0 = findE m op ∧ rfS m op 0 = findS m op := by
  have hE : rfE m op 0 = findE m op := by
    unfold rfE
    split
    · rename_i h0
      obtain ⟨hS, _⟩ := site_ok h0
      have B := shapeB_iff.1 hS.outB
      have c1 : ¬ (0 : Int) > (findS m op).Out.C := by omega
      simp [c1, h0]
    · rfl
  refine ⟨hE, ?_⟩
  unfold rfS
  rw [hE]
  split
  · rfl
  · rename_i h0
    have : fi1 m = true ∨ (fi1 m = false ∧ fi2 m op = true) ∨ (fi1 m = false ∧ fi2 m op = false ∧ fi3 m op = true) := by
      cases h1 : fi1 m <;> cases h2 : fi2 m op <;> cases h3 : fi3 m op <;> simp [findE, h1, h2, h3] at h0 ⊢
    rcases this with h1 | ⟨h1, h2⟩ | ⟨h1, h2, h3⟩ <;> simp [findS, *]
theorem i8_w {x : Int} (h : -128 ≤ x ∧ x ≤ 127) : IntKind.i64.wrap x = x := w64_id (by omega)
theorem normHolds (a : Ask12) (ha : a.Wf) : Ok Try.prog 10 [.agg (ask12C a)] (.bool true) := by
  have hX8 : ∀ k, k < a.X.length → -128 ≤ a.X.getD k default ∧ a.X.getD k default ≤ 127 := fun k hk => by
    rw [List.getD_eq_getElem?_getD, List.getElem?_eq_getElem hk]; exact I8.iff.1 (ha.2.2.2.2.2 _ (List.getElem_mem hk))
  have hXl : a.X.length ≤ 4611686018427387904 := by
    have h1 := ha.2.2.2.2.1
    have : reachBytes < 140737488355328 := by decide
    omega
  cases hc43 : (bif quickE a.M a.Op a.Ch a.S != 0 then true else totE a.M a.Op a.X != 0) with
  | true =>
    --@@1
    skip
    refine fn_ok Tb_ok (fn := Try.f10) Try.func10 rfl rfl (e := [(0, _)]) rfl (by decide) rfl ?_
    refine W_seq ?_
    refine W_region rfl ?_
    refine L_box Tb_ok (cs := [.int _ _, .int _ _, .int _ _, .int _ _, .int _ _, _, .int _ _, .int _ _, .int _ _, .int _ _, .int _ _, _]) (n := 12) rfl rfl rfl rfl trivial ?_
    refine L_v Tb_ok (v := .bool _) (av rfl ⟨trivial, trivial⟩) rfl ?_
    refine WL_nil ?_
    refine W_seq ?_
    refine W_seq ?_
    refine W_region rfl ?_
    refine L_call (hr := law12_fixed) rfl rfl trivial rfl rfl ?_
    refine L_v Tb_ok (v := .bool _) (av rfl ⟨trivial, trivial⟩) rfl ?_
    refine WL_nil ?_
    refine W_cond_f (b := _) rfl (by first | exact hc15 | rfl | decide | simp_all) ?_
    refine W_skip ?_
    refine W_seq ?_
    refine W_region rfl ?_
    refine L_v Tb_ok (v := .ptr _ _ _) (av rfl ⟨trivial, trivial⟩) rfl ?_
    refine L_v Tb_ok (v := .agg [.int _ _, .int _ _, .int _ _, .int _ _, .int _ _, _, .int _ _]) (av rfl ⟨trivial, rfl⟩) rfl ?_
    refine L_v Tb_ok (v := .ptr _ _ _) (av rfl ⟨trivial, trivial⟩) rfl ?_
    refine L_v Tb_ok (v := .int _ _) (av rfl ⟨trivial, rfl⟩) rfl ?_
    refine L_v Tb_ok (v := .ptr _ _ _) (av rfl ⟨trivial, trivial⟩) rfl ?_
    refine L_v Tb_ok (v := .int _ _) (av rfl ⟨trivial, rfl⟩) rfl ?_
    refine L_v Tb_ok (v := .ptr _ _ _) (av rfl ⟨trivial, trivial⟩) rfl ?_
    refine L_v Tb_ok (v := .agg [.int _ _, .int _ _]) (av rfl ⟨trivial, rfl⟩) rfl ?_
    refine L_call (hr := norm_Quick a.M a.Op a.Ch a.S) rfl rfl trivial rfl rfl ?_
    refine L_v Tb_ok (v := .tup [_, _]) (av rfl ⟨trivial, trivial⟩) rfl ?_
    refine L_v Tb_ok (v := .agg [.int _ _, .int _ _]) (av rfl ⟨trivial, trivial⟩) rfl ?_
    refine L_v Tb_ok (v := .int _ _) (av rfl ⟨trivial, trivial⟩) rfl ?_
    refine L_alloc Tb_ok (z := [.int .i64 0, .int .i64 0]) (n := 2) rfl rfl rfl rfl rfl ?_
    refine L_store Tb_ok (v := .agg [.int _ _, .int _ _]) (cs := [_, _]) (es' := [[_, _]]) rfl rfl rfl rfl rfl rfl rfl rfl rfl rfl ⟨trivial, trivial⟩ ?_
    refine L_v Tb_ok (v := .int _ _) (av rfl ⟨trivial, trivial⟩) rfl ?_
    refine WL_nil ?_
    refine W_seq ?_
    refine W_region rfl ?_
    refine L_v Tb_ok (v := .ptr _ _ _) (av rfl ⟨trivial, trivial⟩) rfl ?_
    refine L_v Tb_ok (v := .agg [.int _ _, .int _ _, .int _ _, .int _ _, .int _ _, _, .int _ _]) (av rfl ⟨trivial, rfl⟩) rfl ?_
    refine L_v Tb_ok (v := .ptr _ _ _) (av rfl ⟨trivial, trivial⟩) rfl ?_
    refine L_v Tb_ok (v := .int _ _) (av rfl ⟨trivial, rfl⟩) rfl ?_
    refine L_v Tb_ok (v := .ptr _ _ _) (av rfl ⟨trivial, trivial⟩) rfl ?_
    first | (refine L_v Tb_ok (v := .ro _) (av rfl ⟨trivial, rfl⟩) rfl ?_) | (refine L_v Tb_ok (v := .app _ _) (av rfl ⟨trivial, rfl⟩) rfl ?_) | (refine L_v Tb_ok (v := .row _ _ _) (av rfl ⟨trivial, rfl⟩) rfl ?_) | (refine L_v Tb_ok (v := .nils) (av rfl ⟨trivial, rfl⟩) rfl ?_)
    refine L_call (hr := plain_Totals a.M a.Op a.X) rfl rfl trivial rfl rfl ?_
    refine L_v Tb_ok (v := .tup [_, _]) (av rfl ⟨trivial, trivial⟩) rfl ?_
    first | (refine L_v Tb_ok (v := .ro _) (av rfl ⟨trivial, trivial⟩) rfl ?_) | (refine L_v Tb_ok (v := .app _ _) (av rfl ⟨trivial, trivial⟩) rfl ?_) | (refine L_v Tb_ok (v := .row _ _ _) (av rfl ⟨trivial, trivial⟩) rfl ?_) | (refine L_v Tb_ok (v := .nils) (av rfl ⟨trivial, trivial⟩) rfl ?_)
    refine L_v Tb_ok (v := .int _ _) (av rfl ⟨trivial, trivial⟩) rfl ?_
    first | (refine L_v Tb_ok (v := .ro _) (av rfl ⟨trivial, trivial⟩) rfl ?_) | (refine L_v Tb_ok (v := .app _ _) (av rfl ⟨trivial, trivial⟩) rfl ?_) | (refine L_v Tb_ok (v := .row _ _ _) (av rfl ⟨trivial, trivial⟩) rfl ?_) | (refine L_v Tb_ok (v := .nils) (av rfl ⟨trivial, trivial⟩) rfl ?_)
    refine L_v Tb_ok (v := .int _ _) (av rfl ⟨trivial, trivial⟩) rfl ?_
    refine WL_nil ?_
    refine W_seq ?_
    refine W_seq ?_
    refine W_region rfl ?_
    refine L_v Tb_ok (v := .int _ _) (av rfl ⟨trivial, trivial⟩) rfl ?_
    refine L_v Tb_ok (v := .bool _) (av rfl ⟨trivial, trivial⟩) rfl ?_
    refine L_v Tb_ok (v := .bool _) (av rfl ⟨trivial, trivial⟩) rfl ?_
    refine L_g Tb_ok (v := .int _ _) rfl rfl ((fun hg => (av rfl ⟨trivial, trivial⟩))) rfl rfl ?_
    refine L_g Tb_ok (v := .bool _) rfl rfl ((fun hg => (av rfl ⟨⟨⟨(by first | exact hg | (simp_all; done) | (simp at hg ⊢; simp [hg])), True.intro⟩, True.intro⟩, trivial⟩))) rfl rfl ?_
    refine L_v Tb_ok (v := .bool _) (av rfl (by refine ⟨?_, fun h => ?_, fun h => ?_⟩ <;> first | exact True.intro | exact ⟨h, True.intro⟩ | (refine ⟨?_, True.intro⟩; first | (rw [h]; done) | (rw [h]; rfl) | (simp [h]; done) | (simp at h hg ⊢; simp [h, hg]; done) | (simp_all; done) | (simp_all; omega)))) rfl ?_
    refine WL_nil ?_
    refine W_cond_t (b := _) rfl (by first | exact hc43 | rfl | decide | simp_all) ?_
    refine W_seq ?_
    refine W_region rfl ?_
    refine L_v Tb_ok (v := .int _ _) (av rfl ⟨trivial, trivial⟩) rfl ?_
    refine L_v Tb_ok (v := .bool _) (av rfl ⟨trivial, trivial⟩) rfl ?_
    refine L_v Tb_ok (v := .bool _) (av rfl ⟨trivial, trivial⟩) rfl ?_
    refine L_g Tb_ok (v := .agg [.int _ _, .int _ _]) rfl rfl ((fun hg => (av rfl ⟨trivial, rfl⟩))) rfl rfl ?_
    refine L_g Tb_ok (v := .agg [.int _ _, .int _ _]) rfl rfl ((fun hg => (av rfl ⟨trivial, rfl⟩))) rfl rfl ?_
    refine L_g Tb_ok (v := .bool _) rfl rfl ((fun hg => (av rfl ⟨⟨⟨(by first | exact hg | (simp_all; done) | (simp at hg ⊢; simp [hg])), True.intro⟩, ⟨⟨(by first | exact hg | (simp_all; done) | (simp at hg ⊢; simp [hg])), True.intro⟩, True.intro⟩⟩, trivial⟩))) rfl rfl ?_
    refine L_v Tb_ok (v := .bool _) (av rfl (by refine ⟨?_, fun h => ?_, fun h => ?_⟩ <;> first | exact True.intro | exact ⟨h, True.intro⟩ | (refine ⟨?_, True.intro⟩; first | (rw [h]; done) | (rw [h]; rfl) | (simp [h]; done) | (simp at h hg ⊢; simp [h, hg]; done) | (simp_all; done) | (simp_all; omega)))) rfl ?_
    refine L_v Tb_ok (v := .bool _) (av rfl ⟨trivial, trivial⟩) rfl ?_
    refine WL_nil ?_
    refine W_ret ?_
    refine ends (l := [.bool _]) (q := .bool _) (.inr rfl) rfl ⟨trivial, trivial⟩ rfl rfl ?_
    cases hq : quickE a.M a.Op a.Ch a.S == 0 with
    | true => rfl
    | false =>
      have hz : quickS a.M a.Op a.Ch a.S = ⟨0, 0⟩ := by
        unfold quickE at hq
        unfold quickS
        split
        · rename_i h0
          rw [if_pos h0] at hq
          split
          · rfl
          · rename_i hb; rw [if_neg hb] at hq; simp at hq
        · rfl
      rw [hz]; rfl
  | false =>
  have hqE : quickE a.M a.Op a.Ch a.S = 0 := by
    cases hq : quickE a.M a.Op a.Ch a.S != 0 with
    | true => rw [hq] at hc43; simp at hc43
    | false => simpa using hq
  have htE : totE a.M a.Op a.X = 0 := by
    rw [hqE] at hc43; simpa using hc43
  obtain ⟨e0, hb, hr, hQ⟩ := quick_ok ha.1 hqE
  obtain ⟨f0, fb, _⟩ := ofE_op e0
  obtain ⟨hS, _, hop, _⟩ := site_ok f0
  obtain ⟨hch, _⟩ := (ofBad_iff hS).1 fb
  have O := shapeB_iff.1 hS.outB
  have hXn : (a.X.length : Int) = (findS a.M a.Op).In.H * (findS a.M a.Op).In.W * (findS a.M a.Op).In.C := by
    unfold totE at htE
    rw [if_pos f0] at htE
    split at htE
    · assumption
    · omega
  have hT := plain_Totals a.M a.Op a.X
  rw [show totL a.M a.Op a.X = sumsF a.M a.Op a.X by simp [totL, htE], htE] at hT
  have hF := ref10_Find a.M ha.1 a.Op 0
  rw [(rf0 a.M a.Op).1, (rf0 a.M a.Op).2] at hF
  obtain ⟨P1, P2, P3⟩ := out_pos hS
  have hC0 : (findS a.M a.Op).Out.C ≠ 0 := by omega
  have hcw : IntKind.i64.wrap (a.Ch - 1) = a.Ch - 1 := w64_id (by omega)
  have hLl : (sumsF a.M a.Op a.X).length = ((findS a.M a.Op).Out.H * (findS a.M a.Op).Out.W * (findS a.M a.Op).Out.C).toNat := by simp [sumsF]
  have hLP : ((findS a.M a.Op).Out.H * (findS a.M a.Op).Out.W * (findS a.M a.Op).Out.C).toNat = ((findS a.M a.Op).Out.H * (findS a.M a.Op).Out.W).toNat * (findS a.M a.Op).Out.C.toNat := Int.toNat_mul (by omega) (by omega)
  have hLs : (sumsF a.M a.Op a.X).length ≤ 16384 := by omega
  have hLc : (a.Ch - 1).toNat < (sumsF a.M a.Op a.X).length := by
    rw [hLl, hLP]
    have : 1 * (findS a.M a.Op).Out.C.toNat ≤ ((findS a.M a.Op).Out.H * (findS a.M a.Op).Out.W).toNat * (findS a.M a.Op).Out.C.toNat := Nat.mul_le_mul_right _ (by omega)
    omega
  have hg : ∀ k, k < (sumsF a.M a.Op a.X).length → (sumsF a.M a.Op a.X).getD k default = oneSum a.M a.Op a.X (k / (findS a.M a.Op).Out.C.toNat) (k % (findS a.M a.Op).Out.C.toNat) ∧ ((k / (findS a.M a.Op).Out.C.toNat : Nat) : Int) < (findS a.M a.Op).Out.H * (findS a.M a.Op).Out.W := by
    intro k hk
    have hk2 := hk
    rw [hLl] at hk2
    refine ⟨by simp [sumsF, List.getD_eq_getElem?_getD, hk2], ?_⟩
    rw [hLP] at hk2
    have := (Nat.div_lt_iff_lt_mul (show 0 < (findS a.M a.Op).Out.C.toNat by omega)).2 hk2
    generalize k / (findS a.M a.Op).Out.C.toNat = q at this ⊢
    omega
  have hheld := fun (hs : ∀ x ∈ a.X, a.S.Lo ≤ x ∧ x ≤ a.S.Hi) (i : Nat) hi => held ha.1 hqE hXn hs (i := i) hi
  generalize sumsF a.M a.Op a.X = L at *
  --@@2
  skip
  refine fn_ok Tb_ok (fn := Try.f10) Try.func10 rfl rfl (e := [(0, _)]) rfl (by decide) rfl ?_
  refine W_seq ?_
  refine W_region rfl ?_
  refine L_box Tb_ok (cs := [.int _ _, .int _ _, .int _ _, .int _ _, .int _ _, _, .int _ _, .int _ _, .int _ _, .int _ _, .int _ _, _]) (n := 12) rfl rfl rfl rfl trivial ?_
  refine L_v Tb_ok (v := .bool _) (av rfl ⟨trivial, trivial⟩) rfl ?_
  refine WL_nil ?_
  refine W_seq ?_
  refine W_seq ?_
  refine W_region rfl ?_
  refine L_call (hr := law12_fixed) rfl rfl trivial rfl rfl ?_
  refine L_v Tb_ok (v := .bool _) (av rfl ⟨trivial, trivial⟩) rfl ?_
  refine WL_nil ?_
  refine W_cond_f (b := _) rfl (by first | exact hc15 | rfl | decide | simp_all) ?_
  refine W_skip ?_
  refine W_seq ?_
  refine W_region rfl ?_
  refine L_v Tb_ok (v := .ptr _ _ _) (av rfl ⟨trivial, trivial⟩) rfl ?_
  refine L_v Tb_ok (v := .agg [.int _ _, .int _ _, .int _ _, .int _ _, .int _ _, _, .int _ _]) (av rfl ⟨trivial, rfl⟩) rfl ?_
  refine L_v Tb_ok (v := .ptr _ _ _) (av rfl ⟨trivial, trivial⟩) rfl ?_
  refine L_v Tb_ok (v := .int _ _) (av rfl ⟨trivial, rfl⟩) rfl ?_
  refine L_v Tb_ok (v := .ptr _ _ _) (av rfl ⟨trivial, trivial⟩) rfl ?_
  refine L_v Tb_ok (v := .int _ _) (av rfl ⟨trivial, rfl⟩) rfl ?_
  refine L_v Tb_ok (v := .ptr _ _ _) (av rfl ⟨trivial, trivial⟩) rfl ?_
  refine L_v Tb_ok (v := .agg [.int _ _, .int _ _]) (av rfl ⟨trivial, rfl⟩) rfl ?_
  refine L_call (hr := norm_Quick a.M a.Op a.Ch a.S) rfl rfl trivial rfl rfl ?_
  refine L_v Tb_ok (v := .tup [_, _]) (av rfl ⟨trivial, trivial⟩) rfl ?_
  refine L_v Tb_ok (v := .agg [.int _ _, .int _ _]) (av rfl ⟨trivial, trivial⟩) rfl ?_
  refine L_v Tb_ok (v := .int _ _) (av rfl ⟨trivial, trivial⟩) rfl ?_
  refine L_alloc Tb_ok (z := [.int .i64 0, .int .i64 0]) (n := 2) rfl rfl rfl rfl rfl ?_
  refine L_store Tb_ok (v := .agg [.int _ _, .int _ _]) (cs := [_, _]) (es' := [[_, _]]) rfl rfl rfl rfl rfl rfl rfl rfl rfl rfl ⟨trivial, trivial⟩ ?_
  refine L_v Tb_ok (v := .int _ _) (av rfl ⟨trivial, trivial⟩) rfl ?_
  refine WL_nil ?_
  refine W_seq ?_
  refine W_region rfl ?_
  refine L_v Tb_ok (v := .ptr _ _ _) (av rfl ⟨trivial, trivial⟩) rfl ?_
  refine L_v Tb_ok (v := .agg [.int _ _, .int _ _, .int _ _, .int _ _, .int _ _, _, .int _ _]) (av rfl ⟨trivial, rfl⟩) rfl ?_
  refine L_v Tb_ok (v := .ptr _ _ _) (av rfl ⟨trivial, trivial⟩) rfl ?_
  refine L_v Tb_ok (v := .int _ _) (av rfl ⟨trivial, rfl⟩) rfl ?_
  refine L_v Tb_ok (v := .ptr _ _ _) (av rfl ⟨trivial, trivial⟩) rfl ?_
  first | (refine L_v Tb_ok (v := .ro _) (av rfl ⟨trivial, rfl⟩) rfl ?_) | (refine L_v Tb_ok (v := .app _ _) (av rfl ⟨trivial, rfl⟩) rfl ?_) | (refine L_v Tb_ok (v := .row _ _ _) (av rfl ⟨trivial, rfl⟩) rfl ?_) | (refine L_v Tb_ok (v := .nils) (av rfl ⟨trivial, rfl⟩) rfl ?_)
  refine L_call (hr := hT) rfl rfl trivial rfl rfl ?_
  refine L_v Tb_ok (v := .tup [_, _]) (av rfl ⟨trivial, trivial⟩) rfl ?_
  first | (refine L_v Tb_ok (v := .ro _) (av rfl ⟨trivial, trivial⟩) rfl ?_) | (refine L_v Tb_ok (v := .app _ _) (av rfl ⟨trivial, trivial⟩) rfl ?_) | (refine L_v Tb_ok (v := .row _ _ _) (av rfl ⟨trivial, trivial⟩) rfl ?_) | (refine L_v Tb_ok (v := .nils) (av rfl ⟨trivial, trivial⟩) rfl ?_)
  refine L_v Tb_ok (v := .int _ _) (av rfl ⟨trivial, trivial⟩) rfl ?_
  first | (refine L_v Tb_ok (v := .ro _) (av rfl ⟨trivial, trivial⟩) rfl ?_) | (refine L_v Tb_ok (v := .app _ _) (av rfl ⟨trivial, trivial⟩) rfl ?_) | (refine L_v Tb_ok (v := .row _ _ _) (av rfl ⟨trivial, trivial⟩) rfl ?_) | (refine L_v Tb_ok (v := .nils) (av rfl ⟨trivial, trivial⟩) rfl ?_)
  refine L_v Tb_ok (v := .int _ _) (av rfl ⟨trivial, trivial⟩) rfl ?_
  refine WL_nil ?_
  refine W_seq ?_
  refine W_seq ?_
  refine W_region rfl ?_
  refine L_v Tb_ok (v := .int _ _) (av rfl ⟨trivial, trivial⟩) rfl ?_
  refine L_v Tb_ok (v := .bool _) (av rfl ⟨trivial, trivial⟩) rfl ?_
  refine L_v Tb_ok (v := .bool _) (av rfl ⟨trivial, trivial⟩) rfl ?_
  refine L_g Tb_ok (v := .int _ _) rfl rfl ((fun hg => (av rfl ⟨trivial, trivial⟩))) rfl rfl ?_
  refine L_g Tb_ok (v := .bool _) rfl rfl ((fun hg => (av rfl ⟨⟨⟨(by first | exact hg | (simp_all; done) | (simp at hg ⊢; simp [hg])), True.intro⟩, True.intro⟩, trivial⟩))) rfl rfl ?_
  refine L_v Tb_ok (v := .bool _) (av rfl (by refine ⟨?_, fun h => ?_, fun h => ?_⟩ <;> first | exact True.intro | exact ⟨h, True.intro⟩ | (refine ⟨?_, True.intro⟩; first | (rw [h]; done) | (rw [h]; rfl) | (simp [h]; done) | (simp at h hg ⊢; simp [h, hg]; done) | (simp_all; done) | (simp_all; omega)))) rfl ?_
  refine WL_nil ?_
  refine W_cond (b := _) rfl (fun h43 => ?_) (fun h43 => ?_)
  · exfalso
    rw [hqE] at h43; simp at h43
  · refine W_skip ?_
    refine W_seq ?_
    refine W_seq ?_
    refine W_region rfl ?_
    refine L_v Tb_ok (v := .ptr _ _ _) (av rfl ⟨trivial, trivial⟩) rfl ?_
    first | (refine L_v Tb_ok (v := .ro _) (av rfl ⟨trivial, rfl⟩) rfl ?_) | (refine L_v Tb_ok (v := .app _ _) (av rfl ⟨trivial, rfl⟩) rfl ?_) | (refine L_v Tb_ok (v := .row _ _ _) (av rfl ⟨trivial, rfl⟩) rfl ?_) | (refine L_v Tb_ok (v := .nils) (av rfl ⟨trivial, rfl⟩) rfl ?_)
    refine L_v Tb_ok (v := .int _ _) (av rfl ⟨trivial, trivial⟩) rfl ?_
    refine L_v Tb_ok (v := .int _ _) (av rfl ⟨trivial, trivial⟩) rfl ?_
    refine WL_nil ?_
    refine W_block ?_
    refine W_inv (ι := {k : Nat // k ≤ a.X.length ∧ ∀ x ∈ a.X.take k, a.S.Lo ≤ x ∧ x ≤ a.S.Hi}) (fun k => ⟨[(1, .ptr 0 0 0), (3, .ptr 1 0 0), (5, .ro (L.map intC)), (52, .ro (a.X.map i8C)), (53, .int .i64 ((a.X.map i8C).length : Int)), (54, .int .i64 (k.1 : Int))], [(0, some ⟨63, 12, 0, [ask12C a]⟩), (1, some ⟨60, 2, 0, [spanC (quickS a.M a.Op a.Ch a.S)]⟩)], [], 2⟩) (fun k => a.X.length - k.1) ⟨0, Nat.zero_le _, by simp⟩ (le_fit ⟨rfl, rfl, rfl, rfl, rfl, rfl, trivial⟩ ⟨.inr rfl, .inr rfl, trivial⟩ trivial rfl rfl rfl rfl rfl) ?_
    rintro ⟨k, hk, hks⟩
    refine W_seq ?_
    refine W_region rfl ?_
    refine L_v Tb_ok (v := .bool _) (av rfl ⟨trivial, trivial⟩) rfl ?_
    refine WL_nil ?_
    refine W_seq ?_
    refine W_cond (b := _) rfl (fun h55 => ?_) (fun h55 => ?_)
    · have hlt : k < a.X.length := by simpa using h55
      refine W_skip ?_
      refine W_seq ?_
      refine W_block ?_
      refine W_seq ?_
      refine W_region rfl ?_
      first | (refine L_v Tb_ok (v := _) (ave_index_ro rfl rfl rfl (fun _ => rfl) rfl (by first | omega | assumption | decide | (simp_all; done) | (simp_all; omega)) (by first | omega | assumption | decide | (simp_all; done) | (simp_all; omega)) trivial) rfl ?_) | (refine L_v Tb_ok (v := _) (ave_index_app rfl rfl rfl (fun _ => rfl) rfl (by first | omega | assumption | decide | (simp_all; done) | (simp_all; omega)) (by first | omega | assumption | decide | (simp_all; done) | (simp_all; omega)) trivial) rfl ?_) | (refine L_v Tb_ok (v := _) (ave_index_row rfl rfl rfl rfl rfl rfl (by first | omega | assumption | decide | (simp_all; done) | (simp_all; omega)) (by first | omega | assumption | decide | (simp_all; done) | (simp_all; omega)) trivial) rfl ?_) | (refine L_v Tb_ok (v := .rptr _) (av rfl ⟨trivial, ⟨(by first | omega | assumption | decide | (simp_all; done) | (simp_all; omega)), (by first | omega | assumption | decide | (simp_all; done) | (simp_all; omega))⟩, rfl⟩) rfl ?_) | (refine L_v Tb_ok (v := .ptr _ _ _) (av rfl ⟨trivial, ⟨(by first | omega | assumption | decide | (simp_all; done) | (simp_all; omega)), (by first | omega | assumption | decide | (simp_all; done) | (simp_all; omega))⟩, rfl⟩) rfl ?_)
      refine L_v Tb_ok (v := .int _ _) (av rfl ⟨trivial, rfl⟩) rfl ?_
      refine L_v Tb_ok (v := .int _ _) (av rfl ⟨trivial, trivial⟩) rfl ?_
      refine WL_nil ?_
      refine W_seq ?_
      refine W_region rfl ?_
      refine L_v Tb_ok (v := .int _ _) (av rfl ⟨trivial, trivial⟩) rfl ?_
      refine L_v Tb_ok (v := .int _ _) (av rfl ⟨trivial, trivial⟩) rfl ?_
      refine L_v Tb_ok (v := .ptr _ _ _) (av rfl ⟨trivial, trivial⟩) rfl ?_
      refine L_v Tb_ok (v := .ptr _ _ _) (av rfl ⟨trivial, trivial⟩) rfl ?_
      refine L_v Tb_ok (v := .int _ _) (av rfl ⟨trivial, rfl⟩) rfl ?_
      refine L_v Tb_ok (v := .bool _) (av rfl ⟨trivial, trivial⟩) rfl ?_
      refine L_v Tb_ok (v := .bool _) (av rfl ⟨trivial, trivial⟩) rfl ?_
      refine L_g Tb_ok (v := .int _ _) rfl rfl ((fun hg => (av rfl ⟨trivial, trivial⟩))) rfl rfl ?_
      refine L_g Tb_ok (v := .int _ _) rfl rfl ((fun hg => (av rfl ⟨⟨⟨(by first | exact hg | (simp_all; done) | (simp at hg ⊢; simp [hg])), True.intro⟩, True.intro⟩, trivial⟩))) rfl rfl ?_
      refine L_g Tb_ok (v := .ptr _ _ _) rfl rfl ((fun hg => (av rfl ⟨trivial, trivial⟩))) rfl rfl ?_
      refine L_g Tb_ok (v := .ptr _ _ _) rfl rfl ((fun hg => (av rfl ⟨⟨⟨(by first | exact hg | (simp_all; done) | (simp at hg ⊢; simp [hg])), True.intro⟩, True.intro⟩, trivial⟩))) rfl rfl ?_
      refine L_g Tb_ok (v := .int _ _) rfl rfl ((fun hg => (av rfl ⟨⟨⟨(by first | exact hg | (simp_all; done) | (simp at hg ⊢; simp [hg])), True.intro⟩, True.intro⟩, rfl⟩))) rfl rfl ?_
      refine L_g Tb_ok (v := .bool _) rfl rfl ((fun hg => (av rfl ⟨⟨⟨(by first | exact hg | (simp_all; done) | (simp at hg ⊢; simp [hg])), True.intro⟩, ⟨⟨(by first | exact hg | (simp_all; done) | (simp at hg ⊢; simp [hg])), True.intro⟩, True.intro⟩⟩, trivial⟩))) rfl rfl ?_
      refine L_v Tb_ok (v := .bool _) (av rfl (by refine ⟨?_, fun h => ?_, fun h => ?_⟩ <;> first | exact True.intro | exact ⟨h, True.intro⟩ | (refine ⟨?_, True.intro⟩; first | (rw [h]; done) | (rw [h]; rfl) | (simp [h]; done) | (simp at h hg ⊢; simp [h, hg]; done) | (simp_all; done) | (simp_all; omega)))) rfl ?_
      refine WL_nil ?_
      refine W_cond (b := _) rfl (fun h71 => ?_) (fun h71 => ?_)
      · refine W_seq ?_
        refine W_region rfl ?_
        refine L_v Tb_ok (v := .bool _) (av rfl ⟨trivial, trivial⟩) rfl ?_
        refine WL_nil ?_
        refine W_ret ?_
        refine ends (l := [.bool _]) (q := .bool _) (.inr rfl) rfl ⟨trivial, trivial⟩ rfl rfl ?_
        rfl
      · refine W_skip ?_
        refine W_region rfl ?_
        refine L_v Tb_ok (v := .int _ _) (av rfl ⟨trivial, trivial⟩) rfl ?_
        refine L_v Tb_ok (v := .int _ _) (av rfl ⟨trivial, trivial⟩) rfl ?_
        refine WL_nil ?_
        refine round_end ⟨k + 1, hlt, ?_⟩ (by dsimp only; omega) (le_fit ⟨rfl, rfl, rfl, rfl, rfl, congrArg _ (w_succ hlt hXl), trivial⟩ ⟨.inr rfl, .inr rfl, trivial⟩ trivial rfl rfl rfl rfl rfl)
        intro x hx
        rw [List.take_add_one, List.mem_append] at hx
        rcases hx with hx | hx
        · exact hks x hx
        · rw [List.getElem?_eq_getElem hlt] at hx
          simp only [Option.toList_some, List.mem_singleton] at hx
          have e : a.X.getD k default = x := by rw [hx, List.getD_eq_getElem?_getD, List.getElem?_eq_getElem hlt]; rfl
          have hw := i8_w (hX8 k hlt)
          have h71' : (bif decide (IntKind.i64.wrap (a.X.getD k default) < a.S.Lo) then true else decide (IntKind.i64.wrap (a.X.getD k default) > a.S.Hi)) = false := h71
          rw [hw, e] at h71'
          by_cases c1 : x < a.S.Lo
          · simp [c1] at h71'
          · simp [c1] at h71'; omega
    · have hke : k = a.X.length := by simp at h55; omega
      rw [hke, List.take_length] at hks
      have hh := hheld hks
      refine W_exit ?_
      repeat (first | refine pass_then ?_ | refine pass_once ?_ | refine pass_le ?_ | refine pass_round ?_ | refine pass_for ?_ | refine blockQ_miss rfl ?_)
      refine blockQ_hit ?_
      refine W_seq ?_
      refine W_region rfl ?_
      refine L_v Tb_ok (v := .ptr _ _ _) (av rfl ⟨trivial, trivial⟩) rfl ?_
      refine L_v Tb_ok (v := .agg [.int _ _, .int _ _, .int _ _, .int _ _, .int _ _, _, .int _ _]) (av rfl ⟨trivial, rfl⟩) rfl ?_
      refine L_v Tb_ok (v := .ptr _ _ _) (av rfl ⟨trivial, trivial⟩) rfl ?_
      refine L_v Tb_ok (v := .int _ _) (av rfl ⟨trivial, rfl⟩) rfl ?_
      refine L_call (hr := hF) rfl rfl trivial rfl rfl ?_
      refine L_v Tb_ok (v := .tup [_, _]) (av rfl ⟨trivial, trivial⟩) rfl ?_
      refine L_v Tb_ok (v := .agg [.int _ _, .int _ _, .int _ _, .int _ _, .int _ _, .int _ _, .int _ _, .int _ _, .int _ _, .int _ _, .int _ _, .int _ _, _, _, .int _ _, .int _ _, .int _ _, .int _ _, .int _ _, .int _ _, .int _ _, .int _ _, .int _ _, .int _ _, .int _ _, .int _ _, .int _ _, .int _ _]) (av rfl ⟨trivial, trivial⟩) rfl ?_
      refine L_v Tb_ok (v := .int _ _) (av rfl ⟨trivial, trivial⟩) rfl ?_
      refine L_alloc Tb_ok (z := [.int .i64 0, .int .i64 0, .int .i64 0, .int .i64 0, .int .i64 0, .int .i64 0, .int .i64 0, .int .i64 0, .int .i64 0, .int .i64 0, .int .i64 0, .int .i64 0, .nils, .nils, .int .i64 0, .int .i64 0, .int .i64 0, .int .i64 0, .int .i64 0, .int .i64 0, .int .i64 0, .int .i64 0, .int .i64 0, .int .i64 0, .int .i64 0, .int .i64 0, .int .i64 0, .int .i64 0]) (n := 28) rfl rfl rfl rfl rfl ?_
      refine L_store Tb_ok (v := .agg [.int _ _, .int _ _, .int _ _, .int _ _, .int _ _, .int _ _, .int _ _, .int _ _, .int _ _, .int _ _, .int _ _, .int _ _, _, _, .int _ _, .int _ _, .int _ _, .int _ _, .int _ _, .int _ _, .int _ _, .int _ _, .int _ _, .int _ _, .int _ _, .int _ _, .int _ _, .int _ _]) (cs := [_, _, _, _, _, _, _, _, _, _, _, _, _, _, _, _, _, _, _, _, _, _, _, _, _, _, _, _]) (es' := [[_, _, _, _, _, _, _, _, _, _, _, _, _, _, _, _, _, _, _, _, _, _, _, _, _, _, _, _]]) rfl rfl rfl rfl rfl rfl rfl rfl rfl rfl ⟨trivial, trivial⟩ ?_
      refine L_v Tb_ok (v := .int _ _) (av rfl ⟨trivial, trivial⟩) rfl ?_
      refine WL_nil ?_
      refine W_seq ?_
      refine W_region rfl ?_
      refine L_v Tb_ok (v := .int _ _) (av rfl ⟨trivial, trivial⟩) rfl ?_
      refine WL_nil ?_
      refine W_seq ?_
      refine W_seq ?_
      refine W_region rfl ?_
      first | (refine L_v Tb_ok (v := .ro _) (av rfl ⟨trivial, trivial⟩) rfl ?_) | (refine L_v Tb_ok (v := .app _ _) (av rfl ⟨trivial, trivial⟩) rfl ?_) | (refine L_v Tb_ok (v := .row _ _ _) (av rfl ⟨trivial, trivial⟩) rfl ?_) | (refine L_v Tb_ok (v := .nils) (av rfl ⟨trivial, trivial⟩) rfl ?_)
      refine L_v Tb_ok (v := .int _ _) (av rfl ⟨trivial, trivial⟩) rfl ?_
      refine L_v Tb_ok (v := .int _ _) (av rfl ⟨trivial, trivial⟩) rfl ?_
      refine WL_nil ?_
      refine W_block ?_
      refine W_inv (ι := {p : Nat × Nat // p.1 ≤ L.length ∧ p.2 ≤ p.1 ∧ ((a.Ch - 1).toNat < p.1 → 0 < p.2)}) (fun p => ⟨[(1, .ptr 0 0 0), (3, .ptr 1 0 0), (9, .ptr 2 0 0), (11, .int .i64 (p.1.2 : Int)), (81, .ro (L.map intC)), (82, .int .i64 ((L.map intC).length : Int)), (83, .int .i64 (p.1.1 : Int))], [(0, some ⟨63, 12, 0, [ask12C a]⟩), (1, some ⟨60, 2, 0, [spanC (quickS a.M a.Op a.Ch a.S)]⟩), (2, some ⟨42, 28, 0, [rsiteC (findS a.M a.Op)]⟩)], [], 3⟩) (fun p => L.length - p.1.1) ⟨(0, 0), Nat.zero_le _, Nat.le_refl _, fun h => by simp at h⟩ (le_fit ⟨rfl, rfl, rfl, rfl, rfl, rfl, rfl, trivial⟩ ⟨.inr rfl, .inr rfl, .inr rfl, trivial⟩ trivial rfl rfl rfl rfl rfl) ?_
      rintro ⟨⟨j, n⟩, hj, hn, hjn⟩
      dsimp only at hj hn hjn
      refine W_seq ?_
      refine W_region rfl ?_
      refine L_v Tb_ok (v := .bool _) (av rfl ⟨trivial, trivial⟩) rfl ?_
      refine WL_nil ?_
      refine W_seq ?_
      refine W_cond (b := _) rfl (fun h84 => ?_) (fun h84 => ?_)
      · have hjl : j < L.length := by simpa using h84
        refine W_skip ?_
        refine W_seq ?_
        refine W_block ?_
        refine W_seq ?_
        refine W_region rfl ?_
        refine L_v Tb_ok (v := .int _ _) (av rfl ⟨trivial, trivial⟩) rfl ?_
        first | (refine L_v Tb_ok (v := _) (ave_index_ro rfl rfl rfl (fun _ => rfl) rfl (by first | omega | assumption | decide | (simp_all; done) | (simp_all; omega)) (by first | omega | assumption | decide | (simp_all; done) | (simp_all; omega)) trivial) rfl ?_) | (refine L_v Tb_ok (v := _) (ave_index_app rfl rfl rfl (fun _ => rfl) rfl (by first | omega | assumption | decide | (simp_all; done) | (simp_all; omega)) (by first | omega | assumption | decide | (simp_all; done) | (simp_all; omega)) trivial) rfl ?_) | (refine L_v Tb_ok (v := _) (ave_index_row rfl rfl rfl rfl rfl rfl (by first | omega | assumption | decide | (simp_all; done) | (simp_all; omega)) (by first | omega | assumption | decide | (simp_all; done) | (simp_all; omega)) trivial) rfl ?_) | (refine L_v Tb_ok (v := .rptr _) (av rfl ⟨trivial, ⟨(by first | omega | assumption | decide | (simp_all; done) | (simp_all; omega)), (by first | omega | assumption | decide | (simp_all; done) | (simp_all; omega))⟩, rfl⟩) rfl ?_) | (refine L_v Tb_ok (v := .ptr _ _ _) (av rfl ⟨trivial, ⟨(by first | omega | assumption | decide | (simp_all; done) | (simp_all; omega)), (by first | omega | assumption | decide | (simp_all; done) | (simp_all; omega))⟩, rfl⟩) rfl ?_)
        refine L_v Tb_ok (v := .int _ _) (av rfl ⟨trivial, rfl⟩) rfl ?_
        refine L_v Tb_ok (v := .int _ _) (av rfl ⟨trivial, trivial⟩) rfl ?_
        refine L_v Tb_ok (v := .int _ _) (av rfl ⟨trivial, trivial⟩) rfl ?_
        refine WL_nil ?_
        refine W_seq ?_
        refine W_draw 15 Tb_mixed rfl (by decide) (by kernel_rfl) (by kernel_rfl) ?_
        refine E_v Tb_ok (v := .ptr _ _ _) (av rfl ⟨trivial, trivial⟩) rfl ?_
        refine E_v Tb_ok (v := .ptr _ _ _) (av rfl ⟨trivial, trivial⟩) rfl ?_
        refine E_v Tb_ok (v := .int _ _) (av rfl ⟨trivial, rfl⟩) rfl ?_
        refine E_v Tb_ok (v := .bool _) (av rfl ⟨trivial, trivial⟩) rfl ?_
        refine E_v Tb_ok (v := .bool _) (av rfl ⟨trivial, trivial⟩) rfl ?_
        refine E_g Tb_ok (v := .int _ _) rfl rfl ((fun hg => (av rfl ⟨trivial, trivial⟩))) rfl rfl ?_
        refine E_g Tb_ok (v := .ptr _ _ _) rfl rfl ((fun hg => (av rfl ⟨trivial, trivial⟩))) rfl rfl ?_
        refine E_g Tb_ok (v := .ptr _ _ _) rfl rfl ((fun hg => (av rfl ⟨⟨⟨(by first | exact hg | (simp_all; done) | (simp at hg ⊢; simp [hg])), True.intro⟩, True.intro⟩, trivial⟩))) rfl rfl ?_
        refine E_g Tb_ok (v := .int _ _) rfl rfl ((fun hg => (av rfl ⟨⟨⟨(by first | exact hg | (simp_all; done) | (simp at hg ⊢; simp [hg])), True.intro⟩, True.intro⟩, rfl⟩))) rfl rfl ?_
        refine E_g Tb_ok (v := .int _ _) rfl rfl ((fun hg => (av rfl ⟨⟨⟨(by first | exact hg | (simp_all; done) | (simp at hg ⊢; simp [hg])), True.intro⟩, ⟨⟨(by first | exact hg | (simp_all; done) | (simp at hg ⊢; simp [hg])), True.intro⟩, True.intro⟩⟩, (by exact hC0)⟩))) rfl rfl ?_
        refine E_g Tb_ok (v := .ptr _ _ _) rfl rfl ((fun hg => (av rfl ⟨trivial, trivial⟩))) rfl rfl ?_
        refine E_g Tb_ok (v := .int _ _) rfl rfl ((fun hg => (av rfl ⟨⟨⟨(by first | exact hg | (simp_all; done) | (simp at hg ⊢; simp [hg])), True.intro⟩, True.intro⟩, rfl⟩))) rfl rfl ?_
        refine E_g Tb_ok (v := .int _ _) rfl rfl ((fun hg => (av rfl ⟨⟨⟨(by first | exact hg | (simp_all; done) | (simp at hg ⊢; simp [hg])), True.intro⟩, True.intro⟩, trivial⟩))) rfl rfl ?_
        refine E_g Tb_ok (v := .bool _) rfl rfl ((fun hg => (av rfl ⟨⟨⟨(by first | exact hg | (simp_all; done) | (simp at hg ⊢; simp [hg])), True.intro⟩, ⟨⟨(by first | exact hg | (simp_all; done) | (simp at hg ⊢; simp [hg])), True.intro⟩, True.intro⟩⟩, trivial⟩))) rfl rfl ?_
        refine E_v Tb_ok (v := .bool _) (av rfl (by refine ⟨?_, fun h => ?_, fun h => ?_⟩ <;> first | exact True.intro | exact ⟨h, True.intro⟩ | (refine ⟨?_, True.intro⟩; first | (rw [h]; done) | (rw [h]; rfl) | (simp [h]; done) | (simp at h hg ⊢; simp [h, hg]; done) | (simp_all; done) | (simp_all; omega)))) rfl ?_
        refine LexE_nil ?_
        refine WL_nil ?_
        refine W_cond (b := _) rfl (fun h102 => ?_) (fun h102 => ?_)
        · refine W_seq ?_
          refine W_region rfl ?_
          refine L_v Tb_ok (v := .int _ _) (av rfl ⟨trivial, trivial⟩) rfl ?_
          refine L_v Tb_ok (v := .int _ _) (av rfl ⟨trivial, trivial⟩) rfl ?_
          refine L_v Tb_ok (v := .int _ _) (av rfl ⟨trivial, trivial⟩) rfl ?_
          refine WL_nil ?_
          refine W_seq ?_
          refine W_region rfl ?_
          refine L_v Tb_ok (v := .int _ _) (av rfl ⟨trivial, trivial⟩) rfl ?_
          refine L_v Tb_ok (v := .ptr _ _ _) (av rfl ⟨trivial, trivial⟩) rfl ?_
          refine L_v Tb_ok (v := .int _ _) (av rfl ⟨trivial, rfl⟩) rfl ?_
          refine L_v Tb_ok (v := .bool _) (av rfl ⟨trivial, trivial⟩) rfl ?_
          refine L_v Tb_ok (v := .bool _) (av rfl ⟨trivial, trivial⟩) rfl ?_
          refine L_g Tb_ok (v := .int _ _) rfl rfl ((fun hg => (av rfl ⟨trivial, trivial⟩))) rfl rfl ?_
          refine L_g Tb_ok (v := .ptr _ _ _) rfl rfl ((fun hg => (av rfl ⟨trivial, trivial⟩))) rfl rfl ?_
          refine L_g Tb_ok (v := .int _ _) rfl rfl ((fun hg => (av rfl ⟨⟨⟨(by first | exact hg | (simp_all; done) | (simp at hg ⊢; simp [hg])), True.intro⟩, True.intro⟩, rfl⟩))) rfl rfl ?_
          refine L_g Tb_ok (v := .bool _) rfl rfl ((fun hg => (av rfl ⟨⟨⟨(by first | exact hg | (simp_all; done) | (simp at hg ⊢; simp [hg])), True.intro⟩, ⟨⟨(by first | exact hg | (simp_all; done) | (simp at hg ⊢; simp [hg])), True.intro⟩, True.intro⟩⟩, trivial⟩))) rfl rfl ?_
          refine L_v Tb_ok (v := .bool _) (av rfl (by refine ⟨?_, fun h => ?_, fun h => ?_⟩ <;> first | exact True.intro | exact ⟨h, True.intro⟩ | (refine ⟨?_, True.intro⟩; first | (rw [h]; done) | (rw [h]; rfl) | (simp [h]; done) | (simp at h hg ⊢; simp [h, hg]; done) | (simp_all; done) | (simp_all; omega)))) rfl ?_
          refine WL_nil ?_
          refine W_cond (b := _) rfl (fun h114 => ?_) (fun h114 => ?_)
          · exfalso
            obtain ⟨g1, g2⟩ := hg j hjl
            have hjC : ((j : Nat) : Int).tmod (findS a.M a.Op).Out.C = a.Ch - 1 := by
              have h102' : (bif decide ((findS a.M a.Op).Out.C > 0) then ((j : Nat) : Int).tmod (findS a.M a.Op).Out.C == IntKind.i64.wrap (a.Ch - 1) else false) = true := h102
              rw [hcw, decide_eq_true (show (findS a.M a.Op).Out.C > 0 by omega)] at h102'
              simpa using h102'
            have hjm : j % (findS a.M a.Op).Out.C.toNat = (a.Ch - 1).toNat := by
              rw [Int.tmod_eq_emod_of_nonneg (by omega)] at hjC
              have e : (((j % (findS a.M a.Op).Out.C.toNat : Nat)) : Int) = ((j : Nat) : Int) % (findS a.M a.Op).Out.C := by rw [Int.natCast_emod]; congr 1; omega
              rw [hjC] at e
              generalize j % (findS a.M a.Op).Out.C.toNat = q at e ⊢
              omega
            have := hh _ g2
            rw [← hjm, ← g1] at this
            have h114' : (bif decide (L.getD ((j : Nat) : Int).toNat default < (quickS a.M a.Op a.Ch a.S).Lo) then true else decide (L.getD ((j : Nat) : Int).toNat default > (quickS a.M a.Op a.Ch a.S).Hi)) = true := h114
            rw [Int.toNat_natCast, decide_eq_false (show ¬ L.getD j default < (quickS a.M a.Op a.Ch a.S).Lo by omega), decide_eq_false (show ¬ L.getD j default > (quickS a.M a.Op a.Ch a.S).Hi by omega)] at h114'
            simp at h114'
          · refine W_skip ?_
            refine W_region rfl ?_
            refine L_v Tb_ok (v := .int _ _) (av rfl ⟨trivial, trivial⟩) rfl ?_
            refine L_v Tb_ok (v := .int _ _) (av rfl ⟨trivial, trivial⟩) rfl ?_
            refine WL_nil ?_
            first
            | (refine round_end ⟨(j + 1, n + 1), hjl, by dsimp only; omega, fun _ => Nat.succ_pos n⟩ (by dsimp only; omega) (le_fit ⟨rfl, rfl, rfl, congrArg _ (w_succ (show n < 4611686018427387904 by omega) (Nat.le_refl _)), rfl, rfl, congrArg _ (w_succ hjl (by omega)), trivial⟩ ⟨.inr rfl, .inr rfl, .inr rfl, trivial⟩ trivial rfl rfl rfl rfl rfl); done)
            | (refine round_end ⟨(j + 1, n), hjl, by dsimp only; omega, fun h => ?_⟩ (by dsimp only; omega) (le_fit ⟨rfl, rfl, rfl, rfl, rfl, rfl, congrArg _ (w_succ hjl (by omega)), trivial⟩ ⟨.inr rfl, .inr rfl, .inr rfl, trivial⟩ trivial rfl rfl rfl rfl rfl)
               dsimp only at h ⊢
               rcases Nat.lt_or_ge (a.Ch - 1).toNat j with h2 | h2
               · exact hjn h2
               · exfalso
                 have hje : j = (a.Ch - 1).toNat := by omega
                 have hjC : ((j : Nat) : Int).tmod (findS a.M a.Op).Out.C = a.Ch - 1 := by rw [Int.tmod_eq_emod_of_nonneg (by omega), Int.emod_eq_of_lt (by omega) (by omega)]; omega
                 have h102' : (bif decide ((findS a.M a.Op).Out.C > 0) then ((j : Nat) : Int).tmod (findS a.M a.Op).Out.C == IntKind.i64.wrap (a.Ch - 1) else false) = false := h102
                 rw [hjC, hcw, decide_eq_true (show (findS a.M a.Op).Out.C > 0 by omega)] at h102'
                 simp at h102')
        · refine W_skip ?_
          refine W_region rfl ?_
          refine L_v Tb_ok (v := .int _ _) (av rfl ⟨trivial, trivial⟩) rfl ?_
          refine L_v Tb_ok (v := .int _ _) (av rfl ⟨trivial, trivial⟩) rfl ?_
          refine WL_nil ?_
          first
          | (refine round_end ⟨(j + 1, n + 1), hjl, by dsimp only; omega, fun _ => Nat.succ_pos n⟩ (by dsimp only; omega) (le_fit ⟨rfl, rfl, rfl, congrArg _ (w_succ (show n < 4611686018427387904 by omega) (Nat.le_refl _)), rfl, rfl, congrArg _ (w_succ hjl (by omega)), trivial⟩ ⟨.inr rfl, .inr rfl, .inr rfl, trivial⟩ trivial rfl rfl rfl rfl rfl); done)
          | (refine round_end ⟨(j + 1, n), hjl, by dsimp only; omega, fun h => ?_⟩ (by dsimp only; omega) (le_fit ⟨rfl, rfl, rfl, rfl, rfl, rfl, congrArg _ (w_succ hjl (by omega)), trivial⟩ ⟨.inr rfl, .inr rfl, .inr rfl, trivial⟩ trivial rfl rfl rfl rfl rfl)
             dsimp only at h ⊢
             rcases Nat.lt_or_ge (a.Ch - 1).toNat j with h2 | h2
             · exact hjn h2
             · exfalso
               have hje : j = (a.Ch - 1).toNat := by omega
               have hjC : ((j : Nat) : Int).tmod (findS a.M a.Op).Out.C = a.Ch - 1 := by rw [Int.tmod_eq_emod_of_nonneg (by omega), Int.emod_eq_of_lt (by omega) (by omega)]; omega
               have h102' : (bif decide ((findS a.M a.Op).Out.C > 0) then ((j : Nat) : Int).tmod (findS a.M a.Op).Out.C == IntKind.i64.wrap (a.Ch - 1) else false) = false := h102
               rw [hjC, hcw, decide_eq_true (show (findS a.M a.Op).Out.C > 0 by omega)] at h102'
               simp at h102')
      · have hjl : j = L.length := by simp at h84; omega
        refine W_exit ?_
        repeat (first | refine pass_then ?_ | refine pass_once ?_ | refine pass_le ?_ | refine pass_round ?_ | refine pass_for ?_ | refine blockQ_miss rfl ?_)
        refine blockQ_hit ?_
        refine W_seq ?_
        refine W_region rfl ?_
        refine L_v Tb_ok (v := .int _ _) (av rfl ⟨trivial, trivial⟩) rfl ?_
        refine L_v Tb_ok (v := .bool _) (av rfl ⟨trivial, trivial⟩) rfl ?_
        refine L_v Tb_ok (v := .bool _) (av rfl ⟨trivial, trivial⟩) rfl ?_
        refine WL_nil ?_
        refine W_ret ?_
        refine ends (l := [.bool _]) (q := .bool _) (.inr rfl) rfl ⟨trivial, trivial⟩ rfl rfl ?_
        have := hjn (by rw [hjl]; exact hLc)
        exact congrArg AV.bool (decide_eq_true (show ((n : Nat) : Int) > 0 by omega))
end Go.AM
end
section
namespace Go.Proofs.Ytheclbekghjecaa.normHolds
open Go.ChangeShapes Go.WideShapes Go.ChangeAt Go.RowKit
open Go.ChangeMaps (open_string shut_string)
set_option linter.unusedVariables false
theorem own : ownKnob Try.prog.godebug = none := by kernel_rfl
theorem laidOut : laidOutB Try.prog = true := by kernel_rfl
set_option maxRecDepth 100000 in
theorem lifted (os : Os) (started : os.Started) (H : Type) (enc : TypeId × Value → H) :
    ReturnsInHanded {} Try.checked os 10 .any (Rows.normHoldsSpec.pre6 enc Try.prog Try.f10 Rows.normHoldsRow.domain false) (Rows.normHoldsSpec.post enc Try.prog Try.f10 false true false false) := by
  refine returnsInHanded_of_change_sized (C := Try.checked) own started (by kernel_rfl) Try.func10
    (ChangeSpec.witness6 (enc := enc) (C := Try.checked) false ⟨#[], #[.agg #[.int .i64 0, .int .i64 0, .int .i64 0, .int .i64 0, .int .i64 0, .slice none 0 0, .int .i64 0, .int .i64 0, .int .i64 0, .int .i64 0, .int .i64 0, .slice none 0 0]], []⟩ 8 (by kernel_rfl) (by kernel_rfl) (by kernel_rfl) (by kernel_rfl)) ?_
  intro W base args ds gs before hval0 hW hcnd hsz0 _
  have hsz : (DataW.weightsEach Try.prog (Try.f10.params.toList ++ Rows.normHoldsSpec.plain.varTypes Try.prog) (ds ++ gs)).all (· ≤ reachBytes) = true := hsz0
  have hval : ∀ (j : Nat) t v, Try.f10.params[j]? = some t → args[j]? = some v → Value.okWide Try.prog W .any base t v := hval0
  have hW' := hW
  obtain ⟨p, q, hA0, hV, rfl, hfz, hnd⟩ := hW
  have hA : DataW.TrodAll enc Try.prog W 0 (fun _ => true) true Try.f10.params.toList args.toList ds p := hA0
  rw [Try.params10] at hA hval hsz
  obtain ⟨v0, vs0, d0, ds0, p0, q0, hargs, rfl, rfl, h0, r0⟩ := trodAll_cons hA
  obtain ⟨rfl, rfl, rfl⟩ := trodAll_nil r0
  obtain rfl : args = #[v0] := by cases args; simp_all
  obtain ⟨rfl, rfl⟩ := trodVars_none hV
  have k0 := h0
  have lt0 : ∀ x ∈ p0, x.block < W.heap.size := by obtain ⟨m, hm⟩ := k0; exact DataW.trod_lt m _ _ _ hm
  obtain ⟨y0, K0, w0⟩ := Go.AM.Opn.arg Go.AM.arg0 h0 (j := 0) (t := 63) hsz rfl rfl
  have R0 := Go.AM.arg_agg Try.underlying63 (hval 0 63 v0 rfl rfl) K0
  clear hA0 hval0 hsz0 hsz
  refine (Go.AM.Ok.law (Go.AM.normHolds y0 w0) (Go.AM.rel1 R0)).mono fun e W' ⟨he, bel⟩ => ?_
  subst he
  exact ⟨_, rfl, _, _, _, [], _, [], hW', trodAll_mk1 (shut_bool Try.underlying4 _), (trodAll_cons_mk (Below.trod laidOut (by kernel_rfl) (of_decide_eq_true (by kernel_rfl)) k0 bel lt0) trodAll_mk0), rfl, bel.frame _, fun h => by cases h⟩
theorem over : Rows.normHoldsRow.holds Try.pinned (OpenSpec.ofChange Rows.normHoldsSpec) :=
  OpenClaim.holds_of_wide 10 Try.f10 rfl rfl rfl rfl rfl rfl rfl ⟨rfl, rfl, rfl, rfl, rfl⟩ rfl rfl rfl rfl rfl (by kernel_rfl) Try.func10 (by kernel_rfl)
    (of_decide_eq_true (by kernel_rfl)) (by unfold Func.isWrapper; first | (rw [if_pos (by decide +kernel)]; kernel_rfl) | (rw [if_neg (by decide +kernel)]; exact ⟨rfl, rfl⟩))
    (fun os started H enc _ => lifted os started H enc)
theorem proved : Rows.NormHoldsSaid := over
end Go.Proofs.Ytheclbekghjecaa.normHolds
namespace Go.Proofs.Ytheclbekghjecaa
/-- The row, under a short name, for the claim. -/
theorem normHolds_holds : Rows.NormHoldsSaid := normHolds.proved
end Go.Proofs.Ytheclbekghjecaa
end
