/- The law TermsOf answers true, whatever its arguments: part 6 of 6 of its proof. -/
import Derived.Test.YtheclbekghjecaaRows
import Derived.WalkKit
import Derived.Test.YtheclbekghjecaaZTermsOf4
section
open Go Go.AM Go.Proofs
set_option maxRecDepth 10000
set_option linter.unusedVariables false
set_option linter.unusedSimpArgs false
namespace Go.AM
theorem termsOf (a : Ask10) (ha : a.Wf) : Ok Try.prog 3 [.agg (ask10C a)] (.bool true) := by
  have hE := ofE_rc (m := a.M) (op := a.Op) (ch := a.Ch) (at_ := a.At)
  have hl := termsF_len a.M a.Op a.Ch a.At
  refine fn_ok Tb_ok (fn := Try.f3) Try.func3 rfl rfl (e := [(0, _)]) rfl (by decide) rfl ?_
  refine W_seq ?_
  refine W_region rfl ?_
  refine L_box Tb_ok (cs := [.int _ _, .int _ _, .int _ _, .int _ _, .int _ _, _, .int _ _, .int _ _, .int _ _, .int _ _]) (n := 10) rfl rfl rfl rfl trivial ?_
  refine L_v Tb_ok (v := .bool _) (av rfl ⟨trivial, trivial⟩) rfl ?_
  refine WL_nil ?_
  refine W_seq ?_
  refine W_region rfl ?_
  refine L_v Tb_ok (v := .ptr _ _ _) (av rfl ⟨trivial, trivial⟩) rfl ?_
  refine L_v Tb_ok (v := .agg [.int _ _, .int _ _, .int _ _, .int _ _, .int _ _, _, .int _ _]) (av rfl ⟨trivial, rfl⟩) rfl ?_
  refine L_v Tb_ok (v := .ptr _ _ _) (av rfl ⟨trivial, trivial⟩) rfl ?_
  refine L_v Tb_ok (v := .int _ _) (av rfl ⟨trivial, rfl⟩) rfl ?_
  refine L_v Tb_ok (v := .ptr _ _ _) (av rfl ⟨trivial, trivial⟩) rfl ?_
  refine L_v Tb_ok (v := .int _ _) (av rfl ⟨trivial, rfl⟩) rfl ?_
  refine L_v Tb_ok (v := .ptr _ _ _) (av rfl ⟨trivial, trivial⟩) rfl ?_
  refine L_v Tb_ok (v := .int _ _) (av rfl ⟨trivial, rfl⟩) rfl ?_
  refine L_call (hr := terms_Of a.M a.Op a.Ch a.At) rfl rfl trivial rfl rfl ?_
  refine L_v Tb_ok (v := .tup [_, _, _]) (av rfl ⟨trivial, trivial⟩) rfl ?_
  first | (refine L_v Tb_ok (v := .ro _) (av rfl ⟨trivial, trivial⟩) rfl ?_) | (refine L_v Tb_ok (v := .app _ _) (av rfl ⟨trivial, trivial⟩) rfl ?_) | (refine L_v Tb_ok (v := .row _ _ _) (av rfl ⟨trivial, trivial⟩) rfl ?_) | (refine L_v Tb_ok (v := .nils) (av rfl ⟨trivial, trivial⟩) rfl ?_)
  refine L_v Tb_ok (v := .int _ _) (av rfl ⟨trivial, trivial⟩) rfl ?_
  refine L_v Tb_ok (v := .int _ _) (av rfl ⟨trivial, trivial⟩) rfl ?_
  first | (refine L_v Tb_ok (v := .ro _) (av rfl ⟨trivial, trivial⟩) rfl ?_) | (refine L_v Tb_ok (v := .app _ _) (av rfl ⟨trivial, trivial⟩) rfl ?_) | (refine L_v Tb_ok (v := .row _ _ _) (av rfl ⟨trivial, trivial⟩) rfl ?_) | (refine L_v Tb_ok (v := .nils) (av rfl ⟨trivial, trivial⟩) rfl ?_)
  refine L_v Tb_ok (v := .int _ _) (av rfl ⟨trivial, trivial⟩) rfl ?_
  refine L_v Tb_ok (v := .int _ _) (av rfl ⟨trivial, trivial⟩) rfl ?_
  refine WL_nil ?_
  refine W_seq ?_
  refine W_region rfl ?_
  refine L_v Tb_ok (v := .ptr _ _ _) (av rfl ⟨trivial, trivial⟩) rfl ?_
  refine L_v Tb_ok (v := .agg [.int _ _, .int _ _, .int _ _, .int _ _, .int _ _, _, .int _ _]) (av rfl ⟨trivial, rfl⟩) rfl ?_
  refine L_v Tb_ok (v := .ptr _ _ _) (av rfl ⟨trivial, trivial⟩) rfl ?_
  refine L_v Tb_ok (v := .int _ _) (av rfl ⟨trivial, rfl⟩) rfl ?_
  refine L_v Tb_ok (v := .ptr _ _ _) (av rfl ⟨trivial, trivial⟩) rfl ?_
  refine L_v Tb_ok (v := .int _ _) (av rfl ⟨trivial, rfl⟩) rfl ?_
  refine L_call (hr := ref10_FindChan a.M ha.1 a.Op a.Ch) rfl rfl trivial rfl rfl ?_
  refine L_v Tb_ok (v := .tup [_, _]) (av rfl ⟨trivial, trivial⟩) rfl ?_
  refine L_v Tb_ok (v := .agg [.int _ _, .int _ _, .int _ _, .int _ _, .int _ _, .int _ _, .int _ _, .int _ _, .int _ _, .int _ _, .int _ _, .int _ _, _, _, .int _ _, .int _ _, .int _ _, .int _ _, .int _ _, .int _ _, .int _ _, .int _ _, .int _ _, .int _ _, .int _ _, .int _ _, .int _ _, .int _ _]) (av rfl ⟨trivial, trivial⟩) rfl ?_
  refine L_v Tb_ok (v := .int _ _) (av rfl ⟨trivial, trivial⟩) rfl ?_
  refine L_alloc Tb_ok (z := [.int .i64 0, .int .i64 0, .int .i64 0, .int .i64 0, .int .i64 0, .int .i64 0, .int .i64 0, .int .i64 0, .int .i64 0, .int .i64 0, .int .i64 0, .int .i64 0, .nils, .nils, .int .i64 0, .int .i64 0, .int .i64 0, .int .i64 0, .int .i64 0, .int .i64 0, .int .i64 0, .int .i64 0, .int .i64 0, .int .i64 0, .int .i64 0, .int .i64 0, .int .i64 0, .int .i64 0]) (n := 28) rfl rfl rfl rfl rfl ?_
  refine L_store Tb_ok (v := .agg [.int _ _, .int _ _, .int _ _, .int _ _, .int _ _, .int _ _, .int _ _, .int _ _, .int _ _, .int _ _, .int _ _, .int _ _, _, _, .int _ _, .int _ _, .int _ _, .int _ _, .int _ _, .int _ _, .int _ _, .int _ _, .int _ _, .int _ _, .int _ _, .int _ _, .int _ _, .int _ _]) (cs := [_, _, _, _, _, _, _, _, _, _, _, _, _, _, _, _, _, _, _, _, _, _, _, _, _, _, _, _]) (es' := [[_, _, _, _, _, _, _, _, _, _, _, _, _, _, _, _, _, _, _, _, _, _, _, _, _, _, _, _]]) rfl rfl rfl rfl rfl rfl rfl rfl rfl rfl ⟨trivial, trivial⟩ ?_
  refine L_v Tb_ok (v := .int _ _) (av rfl ⟨trivial, trivial⟩) rfl ?_
  refine WL_nil ?_
  refine W_seq ?_
  refine W_seq ?_
  refine W_draw 14 Tb_mixed rfl (by decide) (by kernel_rfl) (by kernel_rfl) ?_
  refine E_v Tb_ok (v := .int _ _) (av rfl ⟨trivial, trivial⟩) rfl ?_
  refine E_v Tb_ok (v := .bool _) (av rfl ⟨trivial, trivial⟩) rfl ?_
  refine E_v Tb_ok (v := .bool _) (av rfl ⟨trivial, trivial⟩) rfl ?_
  refine E_g Tb_ok (v := .ptr _ _ _) rfl rfl ((fun hg => (av rfl ⟨trivial, trivial⟩))) rfl rfl ?_
  refine E_g Tb_ok (v := .int _ _) rfl rfl ((fun hg => (av rfl ⟨⟨⟨(by first | exact hg | (simp_all; done) | (simp at hg ⊢; simp [hg])), True.intro⟩, True.intro⟩, rfl⟩))) rfl rfl ?_
  refine E_g Tb_ok (v := .bool _) rfl rfl ((fun hg => (av rfl ⟨⟨⟨(by first | exact hg | (simp_all; done) | (simp at hg ⊢; simp [hg])), True.intro⟩, True.intro⟩, trivial⟩))) rfl rfl ?_
  refine E_g Tb_ok (v := .bool _) rfl rfl ((fun hg => (av rfl ⟨⟨⟨(by first | exact hg | (simp_all; done) | (simp at hg ⊢; simp [hg])), True.intro⟩, True.intro⟩, trivial⟩))) rfl rfl ?_
  refine E_g Tb_ok (v := .ptr _ _ _) rfl rfl ((fun hg => (av rfl ⟨trivial, trivial⟩))) rfl rfl ?_
  refine E_g Tb_ok (v := .int _ _) rfl rfl ((fun hg => (av rfl ⟨⟨⟨(by first | exact hg | (simp_all; done) | (simp at hg ⊢; simp [hg])), True.intro⟩, True.intro⟩, rfl⟩))) rfl rfl ?_
  refine E_g Tb_ok (v := .agg [.int _ _, .int _ _, .int _ _, .int _ _, .int _ _, .int _ _, .int _ _, .int _ _, .int _ _, .int _ _, .int _ _, .int _ _, _, _, .int _ _, .int _ _, .int _ _, .int _ _, .int _ _, .int _ _, .int _ _, .int _ _, .int _ _, .int _ _, .int _ _, .int _ _, .int _ _, .int _ _]) rfl rfl ((fun hg => (av rfl ⟨trivial, rfl⟩))) rfl rfl ?_
  refine E_callg (hr := fun hg => ref10_Positions (rcS a.M a.Op a.Ch)) rfl rfl rfl rfl rfl (fun hg => ⟨⟨(by first | exact hg | (simp_all; done) | (simp at hg ⊢; simp [hg])), True.intro⟩, True.intro⟩) rfl rfl ?_
  refine E_g Tb_ok (v := .bool _) rfl rfl ((fun hg => (av rfl ⟨⟨⟨(by first | exact hg | (simp_all; done) | (simp at hg ⊢; simp [hg])), True.intro⟩, ⟨⟨(by first | exact hg | (simp_all; done) | (simp at hg ⊢; simp [hg])), True.intro⟩, True.intro⟩⟩, trivial⟩))) rfl rfl ?_
  refine E_g Tb_ok (v := .bool _) rfl rfl ((fun hg => (av rfl (by refine ⟨?_, fun h => ?_, fun h => ?_⟩ <;> first | exact True.intro | exact ⟨h, True.intro⟩ | (refine ⟨?_, True.intro⟩; first | (rw [h]; done) | (rw [h]; rfl) | (simp [h]; done) | (simp at h hg ⊢; simp [h, hg]; done) | (simp_all; done) | (simp_all; omega)))))) rfl rfl ?_
  refine E_v Tb_ok (v := .bool _) (av rfl (by refine ⟨?_, fun h => ?_, fun h => ?_⟩ <;> first | exact True.intro | exact ⟨h, True.intro⟩ | (refine ⟨?_, True.intro⟩; first | (rw [h]; done) | (rw [h]; rfl) | (simp [h]; done) | (simp at h hg ⊢; simp [h, hg]; done) | (simp_all; done) | (simp_all; omega)))) rfl ?_
  refine LexE_nil ?_
  refine WL_nil ?_
  refine W_ift (b := _) (M := ⟨[(1, .ptr 0 0 0), (3, .ro ((termsF a.M a.Op a.Ch a.At).map termC)), (4, .int .i64 (biasF a.M a.Op a.Ch a.At)), (5, .int .i64 (ofE a.M a.Op a.Ch a.At)), (6, .ptr 1 0 0), (7, .int .i64 (bif bif rcE a.M a.Op a.Ch == 0 then bif decide (a.At < 0) then true else decide (a.At ≥ w64 ((rcS a.M a.Op a.Ch).Out.H * (rcS a.M a.Op a.Ch).Out.W)) else false then (3 : Int) else rcE a.M a.Op a.Ch))], [(0, some ⟨28, 10, 0, [ask10C a]⟩), (1, some ⟨42, 28, 0, [rsiteC (rcS a.M a.Op a.Ch)]⟩)], [], 2⟩) (p := True) rfl (fun h44 => ?_) (fun h44 => ?_) (fun m44 => ?_)
  · refine W_region rfl ?_
    refine L_v Tb_ok (v := .int _ _) (av rfl ⟨trivial, trivial⟩) rfl ?_
    refine WL_nil ?_
    exact ⟨trivial, le_t (F := fun X => ⟨[(1, .ptr 0 0 0), (3, .ro ((termsF a.M a.Op a.Ch a.At).map termC)), (4, .int .i64 (biasF a.M a.Op a.Ch a.At)), (5, .int .i64 (ofE a.M a.Op a.Ch a.At)), (6, .ptr 1 0 0), (7, .int .i64 X)], [(0, some ⟨28, 10, 0, [ask10C a]⟩), (1, some ⟨42, 28, 0, [rsiteC (rcS a.M a.Op a.Ch)]⟩)], [], 2⟩) (x := (3 : Int)) (y := rcE a.M a.Op a.Ch) h44 (le_fit ⟨rfl, rfl, rfl, rfl, rfl, rfl, trivial⟩ ⟨.inr rfl, .inr rfl, trivial⟩ trivial rfl rfl rfl rfl rfl)⟩
  · refine W_skip ?_
    exact ⟨trivial, le_f (F := fun X => ⟨[(1, .ptr 0 0 0), (3, .ro ((termsF a.M a.Op a.Ch a.At).map termC)), (4, .int .i64 (biasF a.M a.Op a.Ch a.At)), (5, .int .i64 (ofE a.M a.Op a.Ch a.At)), (6, .ptr 1 0 0), (7, .int .i64 X)], [(0, some ⟨28, 10, 0, [ask10C a]⟩), (1, some ⟨42, 28, 0, [rsiteC (rcS a.M a.Op a.Ch)]⟩)], [], 2⟩) (x := (3 : Int)) (y := rcE a.M a.Op a.Ch) h44 (le_fit ⟨rfl, rfl, rfl, rfl, rfl, rfl, trivial⟩ ⟨.inr rfl, .inr rfl, trivial⟩ trivial rfl rfl rfl rfl rfl)⟩
  refine W_seq ?_
  refine W_seq ?_
  refine W_region rfl ?_
  rw [← hE]
  refine L_call (hr := law10_fixed) rfl rfl trivial rfl rfl ?_
  refine L_v Tb_ok (v := .bool _) (av rfl ⟨trivial, trivial⟩) rfl ?_
  refine L_v Tb_ok (v := .bool _) (av rfl ⟨trivial, trivial⟩) rfl ?_
  refine L_g Tb_ok (v := .int _ _) rfl rfl ((fun hg => (av rfl ⟨trivial, trivial⟩))) rfl rfl ?_
  refine L_g Tb_ok (v := .int _ _) rfl rfl ((fun hg => (av rfl ⟨trivial, trivial⟩))) rfl rfl ?_
  refine L_g Tb_ok (v := .bool _) rfl rfl ((fun hg => (av rfl ⟨⟨⟨(by first | exact hg | (simp_all; done) | (simp at hg ⊢; simp [hg])), True.intro⟩, ⟨⟨(by first | exact hg | (simp_all; done) | (simp at hg ⊢; simp [hg])), True.intro⟩, True.intro⟩⟩, trivial⟩))) rfl rfl ?_
  refine L_v Tb_ok (v := .bool _) (av rfl (by refine ⟨?_, fun h => ?_, fun h => ?_⟩ <;> first | exact True.intro | exact ⟨h, True.intro⟩ | (refine ⟨?_, True.intro⟩; first | (rw [h]; done) | (rw [h]; rfl) | (simp [h]; done) | (simp at h hg ⊢; simp [h, hg]; done) | (simp_all; done) | (simp_all; omega)))) rfl ?_
  refine WL_nil ?_
  refine W_cond (b := _) rfl (fun h51 => ?_) (fun h51 => ?_)
  · exfalso
    simp at h51
  · refine W_skip ?_
    refine W_seq ?_
    refine W_seq ?_
    refine W_region rfl ?_
    refine L_v Tb_ok (v := .int _ _) (av rfl ⟨trivial, trivial⟩) rfl ?_
    refine L_v Tb_ok (v := .bool _) (av rfl ⟨trivial, trivial⟩) rfl ?_
    refine WL_nil ?_
    refine W_cond (b := _) rfl (fun h53 => ?_) (fun h53 => ?_)
    · refine W_seq ?_
      refine W_region rfl ?_
      first | (refine L_v Tb_ok (v := .ro _) (av rfl ⟨trivial, trivial⟩) rfl ?_) | (refine L_v Tb_ok (v := .app _ _) (av rfl ⟨trivial, trivial⟩) rfl ?_) | (refine L_v Tb_ok (v := .row _ _ _) (av rfl ⟨trivial, trivial⟩) rfl ?_) | (refine L_v Tb_ok (v := .nils) (av rfl ⟨trivial, trivial⟩) rfl ?_)
      refine L_v Tb_ok (v := .int _ _) (av rfl ⟨trivial, trivial⟩) rfl ?_
      refine L_v Tb_ok (v := .bool _) (av rfl ⟨trivial, trivial⟩) rfl ?_
      refine L_v Tb_ok (v := .bool _) (av rfl ⟨trivial, trivial⟩) rfl ?_
      refine L_g Tb_ok (v := .int _ _) rfl rfl ((fun hg => (av rfl ⟨trivial, trivial⟩))) rfl rfl ?_
      refine L_g Tb_ok (v := .bool _) rfl rfl ((fun hg => (av rfl ⟨⟨⟨(by first | exact hg | (simp_all; done) | (simp at hg ⊢; simp [hg])), True.intro⟩, True.intro⟩, trivial⟩))) rfl rfl ?_
      refine L_v Tb_ok (v := .bool _) (av rfl (by refine ⟨?_, fun h => ?_, fun h => ?_⟩ <;> first | exact True.intro | exact ⟨h, True.intro⟩ | (refine ⟨?_, True.intro⟩; first | (rw [h]; done) | (rw [h]; rfl) | (simp [h]; done) | (simp at h hg ⊢; simp [h, hg]; done) | (simp_all; done) | (simp_all; omega)))) rfl ?_
      refine L_v Tb_ok (v := .bool _) (av rfl ⟨trivial, trivial⟩) rfl ?_
      refine WL_nil ?_
      refine W_ret ?_
      refine ends (l := [.bool _]) (q := .bool _) (.inr rfl) rfl ⟨trivial, trivial⟩ rfl rfl ?_
      have z : ofE a.M a.Op a.Ch a.At ≠ 0 := by simpa using h53
      obtain ⟨t1, t2⟩ := ofE_bad z
      rw [t1, t2]; rfl
    · have z : ofE a.M a.Op a.Ch a.At = 0 := by simpa using h53
      obtain ⟨h0, hb, _⟩ := ofE_op z
      obtain ⟨hS, _⟩ := site_ok h0
      obtain ⟨hch, hat⟩ := (ofBad_iff hS).1 hb
      obtain ⟨e1, e2⟩ := (rc_ok h0).1 hch
      have hTm : Ok Try.prog 16 [.agg (rsiteC (rcS a.M a.Op a.Ch)), .int .i64 a.Ch, .int .i64 a.At] (.ro ((tlF (findS a.M a.Op) a.Ch a.At).map termC)) := by rw [e2]; exact ref10_Terms hS (lenF_site h0) hch hat
      have hBi : Ok Try.prog 17 [.agg (rsiteC (rcS a.M a.Op a.Ch)), .int .i64 a.Ch] (.int .i64 (if (findS a.M a.Op).Op.Kind = 4 then 0 else w64 ((findS a.M a.Op).Op.Bias.getD (w64 (a.Ch - 1)).toNat default))) := by rw [e2]; exact ref10_Bias (findS a.M a.Op) a.Ch (bias_ix hS hch)
      refine W_skip ?_
      refine W_seq ?_
      refine W_region rfl ?_
      first | (refine L_v Tb_ok (v := .ro _) (av rfl ⟨trivial, trivial⟩) rfl ?_) | (refine L_v Tb_ok (v := .app _ _) (av rfl ⟨trivial, trivial⟩) rfl ?_) | (refine L_v Tb_ok (v := .row _ _ _) (av rfl ⟨trivial, trivial⟩) rfl ?_) | (refine L_v Tb_ok (v := .nils) (av rfl ⟨trivial, trivial⟩) rfl ?_)
      refine L_v Tb_ok (v := .agg [.int _ _, .int _ _, .int _ _, .int _ _, .int _ _, .int _ _, .int _ _, .int _ _, .int _ _, .int _ _, .int _ _, .int _ _, _, _, .int _ _, .int _ _, .int _ _, .int _ _, .int _ _, .int _ _, .int _ _, .int _ _, .int _ _, .int _ _, .int _ _, .int _ _, .int _ _, .int _ _]) (av rfl ⟨trivial, rfl⟩) rfl ?_
      refine L_v Tb_ok (v := .ptr _ _ _) (av rfl ⟨trivial, trivial⟩) rfl ?_
      refine L_v Tb_ok (v := .int _ _) (av rfl ⟨trivial, rfl⟩) rfl ?_
      refine L_v Tb_ok (v := .ptr _ _ _) (av rfl ⟨trivial, trivial⟩) rfl ?_
      refine L_v Tb_ok (v := .int _ _) (av rfl ⟨trivial, rfl⟩) rfl ?_
      refine L_call (hr := hTm) rfl rfl trivial rfl rfl ?_
      refine L_call (hr := law10_same (termsF a.M a.Op a.Ch a.At) (tlF (findS a.M a.Op) a.Ch a.At) (by omega)) rfl rfl trivial rfl rfl ?_
      refine L_v Tb_ok (v := .bool _) (av rfl ⟨trivial, trivial⟩) rfl ?_
      refine L_g Tb_ok (v := .int _ _) rfl rfl ((fun hg => (av rfl ⟨trivial, trivial⟩))) rfl rfl ?_
      refine L_g Tb_ok (v := .agg [.int _ _, .int _ _, .int _ _, .int _ _, .int _ _, .int _ _, .int _ _, .int _ _, .int _ _, .int _ _, .int _ _, .int _ _, _, _, .int _ _, .int _ _, .int _ _, .int _ _, .int _ _, .int _ _, .int _ _, .int _ _, .int _ _, .int _ _, .int _ _, .int _ _, .int _ _, .int _ _]) rfl rfl ((fun hg => (av rfl ⟨trivial, rfl⟩))) rfl rfl ?_
      refine L_g Tb_ok (v := .ptr _ _ _) rfl rfl ((fun hg => (av rfl ⟨trivial, trivial⟩))) rfl rfl ?_
      refine L_g Tb_ok (v := .int _ _) rfl rfl ((fun hg => (av rfl ⟨⟨⟨(by first | exact hg | (simp_all; done) | (simp at hg ⊢; simp [hg])), True.intro⟩, True.intro⟩, rfl⟩))) rfl rfl ?_
      refine L_callg (hr := fun hg => hBi) rfl rfl rfl rfl rfl (fun hg => ⟨⟨(by first | exact hg | (simp_all; done) | (simp at hg ⊢; simp [hg])), True.intro⟩, ⟨⟨(by first | exact hg | (simp_all; done) | (simp at hg ⊢; simp [hg])), True.intro⟩, True.intro⟩⟩) rfl rfl ?_
      refine L_g Tb_ok (v := .bool _) rfl rfl ((fun hg => (av rfl ⟨⟨⟨(by first | exact hg | (simp_all; done) | (simp at hg ⊢; simp [hg])), True.intro⟩, ⟨⟨(by first | exact hg | (simp_all; done) | (simp at hg ⊢; simp [hg])), True.intro⟩, True.intro⟩⟩, trivial⟩))) rfl rfl ?_
      refine L_v Tb_ok (v := .bool _) (av rfl (by refine ⟨?_, fun h => ?_, fun h => ?_⟩ <;> first | exact True.intro | exact ⟨h, True.intro⟩ | (refine ⟨?_, True.intro⟩; first | (rw [h]; done) | (rw [h]; rfl) | (simp [h]; done) | (simp at h hg ⊢; simp [h, hg]; done) | (simp_all; done) | (simp_all; omega)))) rfl ?_
      refine L_v Tb_ok (v := .bool _) (av rfl ⟨trivial, trivial⟩) rfl ?_
      refine WL_nil ?_
      refine W_ret ?_
      refine ends (l := [.bool _]) (q := .bool _) (.inr rfl) rfl ⟨trivial, trivial⟩ rfl rfl ?_
      rw [termsF_eq h0 hb, bias_eq h0 hb]
      simp
end Go.AM
end
section
namespace Go.Proofs.Ytheclbekghjecaa.termsOf
open Go.ChangeShapes Go.WideShapes Go.ChangeAt Go.RowKit
open Go.ChangeMaps (open_string shut_string)
set_option linter.unusedVariables false
theorem own : ownKnob Try.prog.godebug = none := by kernel_rfl
theorem laidOut : laidOutB Try.prog = true := by kernel_rfl
set_option maxRecDepth 100000 in
theorem lifted (os : Os) (started : os.Started) (H : Type) (enc : TypeId × Value → H) :
    ReturnsInHanded {} Try.checked os 3 .any (Rows.termsOfSpec.pre6 enc Try.prog Try.f3 Rows.termsOfRow.domain false) (Rows.termsOfSpec.post enc Try.prog Try.f3 false true false false) := by
  refine returnsInHanded_of_change_sized (C := Try.checked) own started (by kernel_rfl) Try.func3
    (ChangeSpec.witness6 (enc := enc) (C := Try.checked) false ⟨#[], #[.agg #[.int .i64 0, .int .i64 0, .int .i64 0, .int .i64 0, .int .i64 0, .slice none 0 0, .int .i64 0, .int .i64 0, .int .i64 0, .int .i64 0]], []⟩ 8 (by kernel_rfl) (by kernel_rfl) (by kernel_rfl) (by kernel_rfl)) ?_
  intro W base args ds gs before hval0 hW hcnd hsz0 _
  have hsz : (DataW.weightsEach Try.prog (Try.f3.params.toList ++ Rows.termsOfSpec.plain.varTypes Try.prog) (ds ++ gs)).all (· ≤ reachBytes) = true := hsz0
  have hval : ∀ (j : Nat) t v, Try.f3.params[j]? = some t → args[j]? = some v → Value.okWide Try.prog W .any base t v := hval0
  have hW' := hW
  obtain ⟨p, q, hA0, hV, rfl, hfz, hnd⟩ := hW
  have hA : DataW.TrodAll enc Try.prog W 0 (fun _ => true) true Try.f3.params.toList args.toList ds p := hA0
  rw [Try.params3] at hA hval hsz
  obtain ⟨v0, vs0, d0, ds0, p0, q0, hargs, rfl, rfl, h0, r0⟩ := trodAll_cons hA
  obtain ⟨rfl, rfl, rfl⟩ := trodAll_nil r0
  obtain rfl : args = #[v0] := by cases args; simp_all
  obtain ⟨rfl, rfl⟩ := trodVars_none hV
  have k0 := h0
  have lt0 : ∀ x ∈ p0, x.block < W.heap.size := by obtain ⟨m, hm⟩ := k0; exact DataW.trod_lt m _ _ _ hm
  obtain ⟨y0, K0, w0⟩ := Go.AM.Opn.arg Go.AM.arg0 h0 (j := 0) (t := 28) hsz rfl rfl
  have R0 := Go.AM.arg_agg Try.underlying28 (hval 0 28 v0 rfl rfl) K0
  clear hA0 hval0 hsz0 hsz
  refine (Go.AM.Ok.law (Go.AM.termsOf y0 w0) (Go.AM.rel1 R0)).mono fun e W' ⟨he, bel⟩ => ?_
  subst he
  exact ⟨_, rfl, _, _, _, [], _, [], hW', trodAll_mk1 (shut_bool Try.underlying4 _), (trodAll_cons_mk (Below.trod laidOut (by kernel_rfl) (of_decide_eq_true (by kernel_rfl)) k0 bel lt0) trodAll_mk0), rfl, bel.frame _, fun h => by cases h⟩
theorem over : Rows.termsOfRow.holds Try.pinned (OpenSpec.ofChange Rows.termsOfSpec) :=
  OpenClaim.holds_of_wide 3 Try.f3 rfl rfl rfl rfl rfl rfl rfl ⟨rfl, rfl, rfl, rfl, rfl⟩ rfl rfl rfl rfl rfl (by kernel_rfl) Try.func3 (by kernel_rfl)
    (of_decide_eq_true (by kernel_rfl)) (by unfold Func.isWrapper; first | (rw [if_pos (by decide +kernel)]; kernel_rfl) | (rw [if_neg (by decide +kernel)]; exact ⟨rfl, rfl⟩))
    (fun os started H enc _ => lifted os started H enc)
theorem proved : Rows.TermsOfSaid := over
end Go.Proofs.Ytheclbekghjecaa.termsOf
namespace Go.Proofs.Ytheclbekghjecaa
/-- The row, under a short name, for the claim. -/
theorem termsOf_holds : Rows.TermsOfSaid := termsOf.proved
end Go.Proofs.Ytheclbekghjecaa
end
