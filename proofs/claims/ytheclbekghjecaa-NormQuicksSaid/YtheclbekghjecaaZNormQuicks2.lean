/- The law NormQuicks answers true, whatever its arguments: part 3 of 6 of its proof (the machine on trees, the functions' contracts). -/

import Derived.Test.YtheclbekghjecaaZNormQuicks1
section
open Go Go.AM Go.Proofs
set_option maxRecDepth 10000
set_option linter.unusedVariables false
set_option linter.unusedSimpArgs false
namespace Go.AM
def inB (n lo hi : Int) : Bool := decide (lo ≤ n) && decide (n ≤ hi)
theorem ref06_in (n lo hi : Int) : Ok Try.prog 72 [.int .i64 n, .int .i64 lo, .int .i64 hi] (.bool (inB n lo hi)) := by
  refine fn_ok Tb_ok (fn := Try.f72) Try.func72 rfl rfl (e := [(0, _), (1, _), (2, _)]) rfl (by decide) rfl ?_
  refine W_seq ?_
  refine W_region rfl ?_
  refine L_v Tb_ok (v := .bool _) (av rfl ⟨trivial, trivial⟩) rfl ?_
  refine WL_nil ?_
  refine W_seq ?_
  refine W_region rfl ?_
  refine L_v Tb_ok (v := .int _ _) (av rfl ⟨trivial, trivial⟩) rfl ?_
  refine L_v Tb_ok (v := .int _ _) (av rfl ⟨trivial, trivial⟩) rfl ?_
  refine L_v Tb_ok (v := .bool _) (av rfl ⟨trivial, trivial⟩) rfl ?_
  refine L_v Tb_ok (v := .bool _) (av rfl ⟨trivial, trivial⟩) rfl ?_
  refine L_g Tb_ok (v := .int _ _) rfl rfl ((fun hg => (av rfl ⟨trivial, trivial⟩))) rfl rfl ?_
  refine L_g Tb_ok (v := .int _ _) rfl rfl ((fun hg => (av rfl ⟨trivial, trivial⟩))) rfl rfl ?_
  refine L_g Tb_ok (v := .bool _) rfl rfl ((fun hg => (av rfl ⟨⟨⟨(by first | exact hg | (simp_all; done) | (simp at hg ⊢; simp [hg])), True.intro⟩, ⟨⟨(by first | exact hg | (simp_all; done) | (simp at hg ⊢; simp [hg])), True.intro⟩, True.intro⟩⟩, trivial⟩))) rfl rfl ?_
  refine L_v Tb_ok (v := .bool _) (av rfl (by refine ⟨?_, fun h => ?_, fun h => ?_⟩ <;> first | exact True.intro | exact ⟨h, True.intro⟩ | (refine ⟨?_, True.intro⟩; first | (rw [h]; done) | (rw [h]; rfl) | (simp [h]; done) | (simp at h hg ⊢; simp [h, hg]; done) | (simp_all; done) | (simp_all; omega)))) rfl ?_
  refine L_v Tb_ok (v := .bool _) (av rfl ⟨trivial, trivial⟩) rfl ?_
  refine WL_nil ?_
  refine W_ret ?_
  refine ends (l := [.bool _]) (q := .bool _) (.inr rfl) rfl ⟨trivial, trivial⟩ rfl rfl ?_
  simp [inB]
theorem within (n lo hi : Int) : Ok Try.prog 57 [.int .i64 n, .int .i64 lo, .int .i64 hi] (.bool (inB n lo hi)) := by
  refine fn_ok Tb_ok (fn := Try.f57) Try.func57 rfl rfl (e := [(0, _), (1, _), (2, _)]) rfl (by decide) rfl ?_
  refine W_seq ?_
  refine W_region rfl ?_
  refine L_v Tb_ok (v := .bool _) (av rfl ⟨trivial, trivial⟩) rfl ?_
  refine WL_nil ?_
  refine W_seq ?_
  refine W_region rfl ?_
  refine L_v Tb_ok (v := .int _ _) (av rfl ⟨trivial, trivial⟩) rfl ?_
  refine L_v Tb_ok (v := .int _ _) (av rfl ⟨trivial, trivial⟩) rfl ?_
  refine L_v Tb_ok (v := .bool _) (av rfl ⟨trivial, trivial⟩) rfl ?_
  refine L_v Tb_ok (v := .bool _) (av rfl ⟨trivial, trivial⟩) rfl ?_
  refine L_g Tb_ok (v := .int _ _) rfl rfl ((fun hg => (av rfl ⟨trivial, trivial⟩))) rfl rfl ?_
  refine L_g Tb_ok (v := .int _ _) rfl rfl ((fun hg => (av rfl ⟨trivial, trivial⟩))) rfl rfl ?_
  refine L_g Tb_ok (v := .bool _) rfl rfl ((fun hg => (av rfl ⟨⟨⟨(by first | exact hg | (simp_all; done) | (simp at hg ⊢; simp [hg])), True.intro⟩, ⟨⟨(by first | exact hg | (simp_all; done) | (simp at hg ⊢; simp [hg])), True.intro⟩, True.intro⟩⟩, trivial⟩))) rfl rfl ?_
  refine L_v Tb_ok (v := .bool _) (av rfl (by refine ⟨?_, fun h => ?_, fun h => ?_⟩ <;> first | exact True.intro | exact ⟨h, True.intro⟩ | (refine ⟨?_, True.intro⟩; first | (rw [h]; done) | (rw [h]; rfl) | (simp [h]; done) | (simp at h hg ⊢; simp [h, hg]; done) | (simp_all; done) | (simp_all; omega)))) rfl ?_
  refine L_v Tb_ok (v := .bool _) (av rfl ⟨trivial, trivial⟩) rfl ?_
  refine WL_nil ?_
  refine W_ret ?_
  refine ends (l := [.bool _]) (q := .bool _) (.inr rfl) rfl ⟨trivial, trivial⟩ rfl rfl ?_
  simp [inB]
theorem ref08_values (n : Int) : Ok Try.prog 50 [.int .i64 n] (.bool (inB n (-128) 127)) := by
  refine fn_ok Tb_ok (fn := Try.f50) Try.func50 rfl rfl (e := [(0, _)]) rfl (by decide) rfl ?_
  refine W_seq ?_
  refine W_region rfl ?_
  refine L_v Tb_ok (v := .bool _) (av rfl ⟨trivial, trivial⟩) rfl ?_
  refine WL_nil ?_
  refine W_seq ?_
  refine W_region rfl ?_
  refine L_v Tb_ok (v := .int _ _) (av rfl ⟨trivial, trivial⟩) rfl ?_
  refine L_v Tb_ok (v := .bool _) (av rfl ⟨trivial, trivial⟩) rfl ?_
  refine L_v Tb_ok (v := .bool _) (av rfl ⟨trivial, trivial⟩) rfl ?_
  refine L_g Tb_ok (v := .int _ _) rfl rfl ((fun hg => (av rfl ⟨trivial, trivial⟩))) rfl rfl ?_
  refine L_g Tb_ok (v := .bool _) rfl rfl ((fun hg => (av rfl ⟨⟨⟨(by first | exact hg | (simp_all; done) | (simp at hg ⊢; simp [hg])), True.intro⟩, True.intro⟩, trivial⟩))) rfl rfl ?_
  refine L_v Tb_ok (v := .bool _) (av rfl (by refine ⟨?_, fun h => ?_, fun h => ?_⟩ <;> first | exact True.intro | exact ⟨h, True.intro⟩ | (refine ⟨?_, True.intro⟩; first | (rw [h]; done) | (rw [h]; rfl) | (simp [h]; done) | (simp at h hg ⊢; simp [h, hg]; done) | (simp_all; done) | (simp_all; omega)))) rfl ?_
  refine L_v Tb_ok (v := .bool _) (av rfl ⟨trivial, trivial⟩) rfl ?_
  refine WL_nil ?_
  refine W_ret ?_
  refine ends (l := [.bool _]) (q := .bool _) (.inr rfl) rfl ⟨trivial, trivial⟩ rfl rfl ?_
  simp [inB]
theorem ref08_Reduces (n : Int) : Ok Try.prog 37 [.int .i64 n] (.bool (inB n 1 4)) := by
  refine fn_ok Tb_ok (fn := Try.f37) Try.func37 rfl rfl (e := [(0, _)]) rfl (by decide) rfl ?_
  refine W_seq ?_
  refine W_region rfl ?_
  refine L_v Tb_ok (v := .bool _) (av rfl ⟨trivial, trivial⟩) rfl ?_
  refine WL_nil ?_
  refine W_seq ?_
  refine W_region rfl ?_
  refine L_v Tb_ok (v := .int _ _) (av rfl ⟨trivial, trivial⟩) rfl ?_
  refine L_v Tb_ok (v := .bool _) (av rfl ⟨trivial, trivial⟩) rfl ?_
  refine L_v Tb_ok (v := .bool _) (av rfl ⟨trivial, trivial⟩) rfl ?_
  refine L_g Tb_ok (v := .int _ _) rfl rfl ((fun hg => (av rfl ⟨trivial, trivial⟩))) rfl rfl ?_
  refine L_g Tb_ok (v := .bool _) rfl rfl ((fun hg => (av rfl ⟨⟨⟨(by first | exact hg | (simp_all; done) | (simp at hg ⊢; simp [hg])), True.intro⟩, True.intro⟩, trivial⟩))) rfl rfl ?_
  refine L_v Tb_ok (v := .bool _) (av rfl (by refine ⟨?_, fun h => ?_, fun h => ?_⟩ <;> first | exact True.intro | exact ⟨h, True.intro⟩ | (refine ⟨?_, True.intro⟩; first | (rw [h]; done) | (rw [h]; rfl) | (simp [h]; done) | (simp at h hg ⊢; simp [h, hg]; done) | (simp_all; done) | (simp_all; omega)))) rfl ?_
  refine L_v Tb_ok (v := .bool _) (av rfl ⟨trivial, trivial⟩) rfl ?_
  refine WL_nil ?_
  refine W_ret ?_
  refine ends (l := [.bool _]) (q := .bool _) (.inr rfl) rfl ⟨trivial, trivial⟩ rfl rfl ?_
  simp [inB]
theorem model_Reduces (n : Int) : Ok Try.prog 47 [.int .i64 n] (.bool (inB n 1 4)) := by
  refine fn_ok Tb_ok (fn := Try.f47) Try.func47 rfl rfl (e := [(0, _)]) rfl (by decide) rfl ?_
  refine W_seq ?_
  refine W_region rfl ?_
  refine L_v Tb_ok (v := .bool _) (av rfl ⟨trivial, trivial⟩) rfl ?_
  refine WL_nil ?_
  refine W_seq ?_
  refine W_seq ?_
  refine W_region rfl ?_
  refine L_v Tb_ok (v := .int _ _) (av rfl ⟨trivial, trivial⟩) rfl ?_
  refine WL_nil ?_
  refine W_block ?_
  refine W_seq ?_
  refine W_seq ?_
  refine W_region rfl ?_
  refine L_v Tb_ok (v := .bool _) (av rfl ⟨trivial, trivial⟩) rfl ?_
  refine L_v Tb_ok (v := .bool _) (av rfl ⟨trivial, trivial⟩) rfl ?_
  refine WL_nil ?_
  refine W_cond (b := _) rfl (fun h4 => ?_) (fun h4 => ?_)
  · refine W_skip ?_
    refine W_cond (b := _) rfl (fun h4_1 => ?_) (fun h4_1 => ?_)
    · refine W_seq ?_
      refine W_region rfl ?_
      refine L_v Tb_ok (v := .bool _) (av rfl ⟨trivial, trivial⟩) rfl ?_
      refine WL_nil ?_
      refine W_ret ?_
      refine ends (l := [.bool _]) (q := .bool _) (.inr rfl) rfl ⟨trivial, trivial⟩ rfl rfl ?_
      simp_all [inB] <;> omega
    · refine W_skip ?_
      refine W_seq ?_
      refine W_region rfl ?_
      refine L_v Tb_ok (v := .bool _) (av rfl ⟨trivial, trivial⟩) rfl ?_
      refine WL_nil ?_
      refine W_ret ?_
      refine ends (l := [.bool _]) (q := .bool _) (.inr rfl) rfl ⟨trivial, trivial⟩ rfl rfl ?_
      simp_all [inB] <;> omega
  · refine W_seq ?_
    refine W_region rfl ?_
    refine L_v Tb_ok (v := .bool _) (av rfl ⟨trivial, trivial⟩) rfl ?_
    refine L_v Tb_ok (v := .bool _) (av rfl ⟨trivial, trivial⟩) rfl ?_
    refine WL_nil ?_
    refine W_cond (b := _) rfl (fun h4_2 => ?_) (fun h4_2 => ?_)
    · refine W_skip ?_
      refine W_cond (b := _) rfl (fun h4_3 => ?_) (fun h4_3 => ?_)
      · refine W_seq ?_
        refine W_region rfl ?_
        refine L_v Tb_ok (v := .bool _) (av rfl ⟨trivial, trivial⟩) rfl ?_
        refine WL_nil ?_
        refine W_ret ?_
        refine ends (l := [.bool _]) (q := .bool _) (.inr rfl) rfl ⟨trivial, trivial⟩ rfl rfl ?_
        simp_all [inB] <;> omega
      · refine W_skip ?_
        refine W_seq ?_
        refine W_region rfl ?_
        refine L_v Tb_ok (v := .bool _) (av rfl ⟨trivial, trivial⟩) rfl ?_
        refine WL_nil ?_
        refine W_ret ?_
        refine ends (l := [.bool _]) (q := .bool _) (.inr rfl) rfl ⟨trivial, trivial⟩ rfl rfl ?_
        simp_all [inB] <;> omega
    · refine W_seq ?_
      refine W_region rfl ?_
      refine L_v Tb_ok (v := .bool _) (av rfl ⟨trivial, trivial⟩) rfl ?_
      refine L_v Tb_ok (v := .bool _) (av rfl ⟨trivial, trivial⟩) rfl ?_
      refine WL_nil ?_
      refine W_cond (b := _) rfl (fun h4_4 => ?_) (fun h4_4 => ?_)
      · refine W_skip ?_
        refine W_cond (b := _) rfl (fun h4_5 => ?_) (fun h4_5 => ?_)
        · refine W_seq ?_
          refine W_region rfl ?_
          refine L_v Tb_ok (v := .bool _) (av rfl ⟨trivial, trivial⟩) rfl ?_
          refine WL_nil ?_
          refine W_ret ?_
          refine ends (l := [.bool _]) (q := .bool _) (.inr rfl) rfl ⟨trivial, trivial⟩ rfl rfl ?_
          simp_all [inB] <;> omega
        · refine W_skip ?_
          refine W_seq ?_
          refine W_region rfl ?_
          refine L_v Tb_ok (v := .bool _) (av rfl ⟨trivial, trivial⟩) rfl ?_
          refine WL_nil ?_
          refine W_ret ?_
          refine ends (l := [.bool _]) (q := .bool _) (.inr rfl) rfl ⟨trivial, trivial⟩ rfl rfl ?_
          simp_all [inB] <;> omega
      · refine W_region rfl ?_
        refine L_v Tb_ok (v := .bool _) (av rfl ⟨trivial, trivial⟩) rfl ?_
        refine L_v Tb_ok (v := .bool _) (av rfl ⟨trivial, trivial⟩) rfl ?_
        refine WL_nil ?_
        refine W_cond (b := _) rfl (fun h4_6 => ?_) (fun h4_6 => ?_)
        · refine W_seq ?_
          refine W_region rfl ?_
          refine L_v Tb_ok (v := .bool _) (av rfl ⟨trivial, trivial⟩) rfl ?_
          refine WL_nil ?_
          refine W_ret ?_
          refine ends (l := [.bool _]) (q := .bool _) (.inr rfl) rfl ⟨trivial, trivial⟩ rfl rfl ?_
          simp_all [inB] <;> omega
        · refine W_skip ?_
          refine W_seq ?_
          refine W_region rfl ?_
          refine L_v Tb_ok (v := .bool _) (av rfl ⟨trivial, trivial⟩) rfl ?_
          refine WL_nil ?_
          refine W_ret ?_
          refine ends (l := [.bool _]) (q := .bool _) (.inr rfl) rfl ⟨trivial, trivial⟩ rfl rfl ?_
          simp_all [inB] <;> omega
theorem ref05_dim (n : Int) : Ok Try.prog 63 [.int .i64 n] (.bool (inB n 1 1024)) := by
  refine fn_ok Tb_ok (fn := Try.f63) Try.func63 rfl rfl (e := [(0, _)]) rfl (by decide) rfl ?_
  refine W_seq ?_
  refine W_region rfl ?_
  refine L_v Tb_ok (v := .bool _) (av rfl ⟨trivial, trivial⟩) rfl ?_
  refine WL_nil ?_
  refine W_seq ?_
  refine W_region rfl ?_
  refine L_v Tb_ok (v := .int _ _) (av rfl ⟨trivial, trivial⟩) rfl ?_
  refine L_v Tb_ok (v := .bool _) (av rfl ⟨trivial, trivial⟩) rfl ?_
  refine L_v Tb_ok (v := .bool _) (av rfl ⟨trivial, trivial⟩) rfl ?_
  refine L_g Tb_ok (v := .int _ _) rfl rfl ((fun hg => (av rfl ⟨trivial, trivial⟩))) rfl rfl ?_
  refine L_g Tb_ok (v := .bool _) rfl rfl ((fun hg => (av rfl ⟨⟨⟨(by first | exact hg | (simp_all; done) | (simp at hg ⊢; simp [hg])), True.intro⟩, True.intro⟩, trivial⟩))) rfl rfl ?_
  refine L_v Tb_ok (v := .bool _) (av rfl (by refine ⟨?_, fun h => ?_, fun h => ?_⟩ <;> first | exact True.intro | exact ⟨h, True.intro⟩ | (refine ⟨?_, True.intro⟩; first | (rw [h]; done) | (rw [h]; rfl) | (simp [h]; done) | (simp at h hg ⊢; simp [h, hg]; done) | (simp_all; done) | (simp_all; omega)))) rfl ?_
  refine L_v Tb_ok (v := .bool _) (av rfl ⟨trivial, trivial⟩) rfl ?_
  refine WL_nil ?_
  refine W_ret ?_
  refine ends (l := [.bool _]) (q := .bool _) (.inr rfl) rfl ⟨trivial, trivial⟩ rfl rfl ?_
  simp [inB]
def elems (s : Shape) : Int := w64 (w64 (s.H * s.W) * s.C)
def shapeB (s : Shape) : Bool := inB s.H 1 1024 && inB s.W 1 1024 && inB s.C 1 1024 && decide (elems s ≤ 16384)
theorem ref05_Valid (s : Shape) : Ok Try.prog 49 [.agg (shapeC s)] (.bool (shapeB s)) := by
  refine fn_ok Tb_ok (fn := Try.f49) Try.func49 rfl rfl (e := [(0, _)]) rfl (by decide) rfl ?_
  refine W_seq ?_
  refine W_region rfl ?_
  refine L_box Tb_ok (cs := [.int _ _, .int _ _, .int _ _]) (n := 3) rfl rfl rfl rfl trivial ?_
  refine L_v Tb_ok (v := .bool _) (av rfl ⟨trivial, trivial⟩) rfl ?_
  refine WL_nil ?_
  refine W_seq ?_
  refine W_region rfl ?_
  refine L_v Tb_ok (v := .ptr _ _ _) (av rfl ⟨trivial, trivial⟩) rfl ?_
  refine L_v Tb_ok (v := .int _ _) (av rfl ⟨trivial, rfl⟩) rfl ?_
  refine L_call (hr := ref05_dim _) rfl rfl trivial rfl rfl ?_
  refine L_v Tb_ok (v := .bool _) (av rfl ⟨trivial, trivial⟩) rfl ?_
  refine L_g Tb_ok (v := .ptr _ _ _) rfl rfl ((fun hg => (av rfl ⟨trivial, trivial⟩))) rfl rfl ?_
  refine L_g Tb_ok (v := .int _ _) rfl rfl ((fun hg => (av rfl ⟨⟨⟨(by first | exact hg | (simp_all; done) | (simp at hg ⊢; simp [hg])), True.intro⟩, True.intro⟩, rfl⟩))) rfl rfl ?_
  refine L_callg (hr := fun hg => ref05_dim _) rfl rfl rfl rfl rfl (fun hg => ⟨⟨(by first | exact hg | (simp_all; done) | (simp at hg ⊢; simp [hg])), True.intro⟩, True.intro⟩) rfl rfl ?_
  refine L_v Tb_ok (v := .bool _) (av rfl (by refine ⟨?_, fun h => ?_, fun h => ?_⟩ <;> first | exact True.intro | exact ⟨h, True.intro⟩ | (refine ⟨?_, True.intro⟩; first | (rw [h]; done) | (rw [h]; rfl) | (simp [h]; done) | (simp at h hg ⊢; simp [h, hg]; done) | (simp_all; done) | (simp_all; omega)))) rfl ?_
  refine L_v Tb_ok (v := .bool _) (av rfl ⟨trivial, trivial⟩) rfl ?_
  refine L_g Tb_ok (v := .ptr _ _ _) rfl rfl ((fun hg => (av rfl ⟨trivial, trivial⟩))) rfl rfl ?_
  refine L_g Tb_ok (v := .int _ _) rfl rfl ((fun hg => (av rfl ⟨⟨⟨(by first | exact hg | (simp_all; done) | (simp at hg ⊢; simp [hg])), True.intro⟩, True.intro⟩, rfl⟩))) rfl rfl ?_
  refine L_callg (hr := fun hg => ref05_dim _) rfl rfl rfl rfl rfl (fun hg => ⟨⟨(by first | exact hg | (simp_all; done) | (simp at hg ⊢; simp [hg])), True.intro⟩, True.intro⟩) rfl rfl ?_
  refine L_v Tb_ok (v := .bool _) (av rfl (by refine ⟨?_, fun h => ?_, fun h => ?_⟩ <;> first | exact True.intro | exact ⟨h, True.intro⟩ | (refine ⟨?_, True.intro⟩; first | (rw [h]; done) | (rw [h]; rfl) | (simp [h]; done) | (simp at h hg ⊢; simp [h, hg]; done) | (simp_all; done) | (simp_all; omega)))) rfl ?_
  refine L_v Tb_ok (v := .bool _) (av rfl ⟨trivial, trivial⟩) rfl ?_
  refine L_g Tb_ok (v := .ptr _ _ _) rfl rfl ((fun hg => (av rfl ⟨trivial, trivial⟩))) rfl rfl ?_
  refine L_g Tb_ok (v := .int _ _) rfl rfl ((fun hg => (av rfl ⟨⟨⟨(by first | exact hg | (simp_all; done) | (simp at hg ⊢; simp [hg])), True.intro⟩, True.intro⟩, rfl⟩))) rfl rfl ?_
  refine L_g Tb_ok (v := .ptr _ _ _) rfl rfl ((fun hg => (av rfl ⟨trivial, trivial⟩))) rfl rfl ?_
  refine L_g Tb_ok (v := .int _ _) rfl rfl ((fun hg => (av rfl ⟨⟨⟨(by first | exact hg | (simp_all; done) | (simp at hg ⊢; simp [hg])), True.intro⟩, True.intro⟩, rfl⟩))) rfl rfl ?_
  refine L_g Tb_ok (v := .int _ _) rfl rfl ((fun hg => (av rfl ⟨⟨⟨(by first | exact hg | (simp_all; done) | (simp at hg ⊢; simp [hg])), True.intro⟩, ⟨⟨(by first | exact hg | (simp_all; done) | (simp at hg ⊢; simp [hg])), True.intro⟩, True.intro⟩⟩, trivial⟩))) rfl rfl ?_
  refine L_g Tb_ok (v := .ptr _ _ _) rfl rfl ((fun hg => (av rfl ⟨trivial, trivial⟩))) rfl rfl ?_
  refine L_g Tb_ok (v := .int _ _) rfl rfl ((fun hg => (av rfl ⟨⟨⟨(by first | exact hg | (simp_all; done) | (simp at hg ⊢; simp [hg])), True.intro⟩, True.intro⟩, rfl⟩))) rfl rfl ?_
  refine L_g Tb_ok (v := .int _ _) rfl rfl ((fun hg => (av rfl ⟨⟨⟨(by first | exact hg | (simp_all; done) | (simp at hg ⊢; simp [hg])), True.intro⟩, ⟨⟨(by first | exact hg | (simp_all; done) | (simp at hg ⊢; simp [hg])), True.intro⟩, True.intro⟩⟩, trivial⟩))) rfl rfl ?_
  refine L_g Tb_ok (v := .bool _) rfl rfl ((fun hg => (av rfl ⟨⟨⟨(by first | exact hg | (simp_all; done) | (simp at hg ⊢; simp [hg])), True.intro⟩, True.intro⟩, trivial⟩))) rfl rfl ?_
  refine L_v Tb_ok (v := .bool _) (av rfl (by refine ⟨?_, fun h => ?_, fun h => ?_⟩ <;> first | exact True.intro | exact ⟨h, True.intro⟩ | (refine ⟨?_, True.intro⟩; first | (rw [h]; done) | (rw [h]; rfl) | (simp [h]; done) | (simp at h hg ⊢; simp [h, hg]; done) | (simp_all; done) | (simp_all; omega)))) rfl ?_
  refine L_v Tb_ok (v := .bool _) (av rfl ⟨trivial, trivial⟩) rfl ?_
  refine WL_nil ?_
  refine W_ret ?_
  refine ends (l := [.bool _]) (q := .bool _) (.inr rfl) rfl ⟨trivial, trivial⟩ rfl rfl ?_
  first | rfl | (simp [shapeB, elems, w64]; done) | (simp only [Bool.cond_false_right]; rfl)
def sideB (k step a b : Int) : Bool := inB k 1 32 && inB step 1 32 && inB a 0 (w64 (k - 1)) && inB b 0 (w64 (k - 1))
theorem window_side (k step a b : Int) : Ok Try.prog 69 [.int .i64 k, .int .i64 step, .int .i64 a, .int .i64 b] (.bool (sideB k step a b)) := by
  refine fn_ok Tb_ok (fn := Try.f69) Try.func69 rfl rfl (e := [(0, _), (1, _), (2, _), (3, _)]) rfl (by decide) rfl ?_
  refine W_seq ?_
  refine W_region rfl ?_
  refine L_v Tb_ok (v := .bool _) (av rfl ⟨trivial, trivial⟩) rfl ?_
  refine WL_nil ?_
  refine W_seq ?_
  refine W_region rfl ?_
  refine L_v Tb_ok (v := .int _ _) (av rfl ⟨trivial, trivial⟩) rfl ?_
  refine L_call (hr := within _ _ _) rfl rfl trivial rfl rfl ?_
  refine L_v Tb_ok (v := .bool _) (av rfl ⟨trivial, trivial⟩) rfl ?_
  refine L_g Tb_ok (v := .int _ _) rfl rfl ((fun hg => (av rfl ⟨trivial, trivial⟩))) rfl rfl ?_
  refine L_callg (hr := fun hg => within _ _ _) rfl rfl rfl rfl rfl (fun hg => ⟨⟨(by first | exact hg | (simp_all; done) | (simp at hg ⊢; simp [hg])), True.intro⟩, True.intro⟩) rfl rfl ?_
  refine L_v Tb_ok (v := .bool _) (av rfl (by refine ⟨?_, fun h => ?_, fun h => ?_⟩ <;> first | exact True.intro | exact ⟨h, True.intro⟩ | (refine ⟨?_, True.intro⟩; first | (rw [h]; done) | (rw [h]; rfl) | (simp [h]; done) | (simp at h hg ⊢; simp [h, hg]; done) | (simp_all; done) | (simp_all; omega)))) rfl ?_
  refine L_v Tb_ok (v := .bool _) (av rfl ⟨trivial, trivial⟩) rfl ?_
  refine L_g Tb_ok (v := .int _ _) rfl rfl ((fun hg => (av rfl ⟨trivial, trivial⟩))) rfl rfl ?_
  refine L_g Tb_ok (v := .int _ _) rfl rfl ((fun hg => (av rfl ⟨trivial, trivial⟩))) rfl rfl ?_
  refine L_g Tb_ok (v := .int _ _) rfl rfl ((fun hg => (av rfl ⟨⟨⟨(by first | exact hg | (simp_all; done) | (simp at hg ⊢; simp [hg])), True.intro⟩, True.intro⟩, trivial⟩))) rfl rfl ?_
  refine L_callg (hr := fun hg => within _ _ _) rfl rfl rfl rfl rfl (fun hg => ⟨⟨(by first | exact hg | (simp_all; done) | (simp at hg ⊢; simp [hg])), True.intro⟩, ⟨⟨(by first | exact hg | (simp_all; done) | (simp at hg ⊢; simp [hg])), True.intro⟩, True.intro⟩⟩) rfl rfl ?_
  refine L_v Tb_ok (v := .bool _) (av rfl (by refine ⟨?_, fun h => ?_, fun h => ?_⟩ <;> first | exact True.intro | exact ⟨h, True.intro⟩ | (refine ⟨?_, True.intro⟩; first | (rw [h]; done) | (rw [h]; rfl) | (simp [h]; done) | (simp at h hg ⊢; simp [h, hg]; done) | (simp_all; done) | (simp_all; omega)))) rfl ?_
  refine L_v Tb_ok (v := .bool _) (av rfl ⟨trivial, trivial⟩) rfl ?_
  refine L_g Tb_ok (v := .int _ _) rfl rfl ((fun hg => (av rfl ⟨trivial, trivial⟩))) rfl rfl ?_
  refine L_g Tb_ok (v := .int _ _) rfl rfl ((fun hg => (av rfl ⟨trivial, trivial⟩))) rfl rfl ?_
  refine L_g Tb_ok (v := .int _ _) rfl rfl ((fun hg => (av rfl ⟨⟨⟨(by first | exact hg | (simp_all; done) | (simp at hg ⊢; simp [hg])), True.intro⟩, True.intro⟩, trivial⟩))) rfl rfl ?_
  refine L_callg (hr := fun hg => within _ _ _) rfl rfl rfl rfl rfl (fun hg => ⟨⟨(by first | exact hg | (simp_all; done) | (simp at hg ⊢; simp [hg])), True.intro⟩, ⟨⟨(by first | exact hg | (simp_all; done) | (simp at hg ⊢; simp [hg])), True.intro⟩, True.intro⟩⟩) rfl rfl ?_
  refine L_v Tb_ok (v := .bool _) (av rfl (by refine ⟨?_, fun h => ?_, fun h => ?_⟩ <;> first | exact True.intro | exact ⟨h, True.intro⟩ | (refine ⟨?_, True.intro⟩; first | (rw [h]; done) | (rw [h]; rfl) | (simp [h]; done) | (simp at h hg ⊢; simp [h, hg]; done) | (simp_all; done) | (simp_all; omega)))) rfl ?_
  refine L_v Tb_ok (v := .bool _) (av rfl ⟨trivial, trivial⟩) rfl ?_
  refine WL_nil ?_
  refine W_ret ?_
  refine ends (l := [.bool _]) (q := .bool _) (.inr rfl) rfl ⟨trivial, trivial⟩ rfl rfl ?_
  simp [sideB, w64]
def windowB (w : Window) : Bool := sideB w.KH w.SH w.Top w.Bottom && sideB w.KW w.SW w.Left w.Right
theorem window_Valid (w : Window) : Ok Try.prog 54 [.agg (windowC w)] (.bool (windowB w)) := by
  refine fn_ok Tb_ok (fn := Try.f54) Try.func54 rfl rfl (e := [(0, _)]) rfl (by decide) rfl ?_
  refine W_seq ?_
  refine W_region rfl ?_
  refine L_box Tb_ok (cs := [.int _ _, .int _ _, .int _ _, .int _ _, .int _ _, .int _ _, .int _ _, .int _ _]) (n := 8) rfl rfl rfl rfl trivial ?_
  refine L_v Tb_ok (v := .bool _) (av rfl ⟨trivial, trivial⟩) rfl ?_
  refine WL_nil ?_
  refine W_seq ?_
  refine W_region rfl ?_
  refine L_v Tb_ok (v := .ptr _ _ _) (av rfl ⟨trivial, trivial⟩) rfl ?_
  refine L_v Tb_ok (v := .int _ _) (av rfl ⟨trivial, rfl⟩) rfl ?_
  refine L_v Tb_ok (v := .ptr _ _ _) (av rfl ⟨trivial, trivial⟩) rfl ?_
  refine L_v Tb_ok (v := .int _ _) (av rfl ⟨trivial, rfl⟩) rfl ?_
  refine L_v Tb_ok (v := .ptr _ _ _) (av rfl ⟨trivial, trivial⟩) rfl ?_
  refine L_v Tb_ok (v := .int _ _) (av rfl ⟨trivial, rfl⟩) rfl ?_
  refine L_v Tb_ok (v := .ptr _ _ _) (av rfl ⟨trivial, trivial⟩) rfl ?_
  refine L_v Tb_ok (v := .int _ _) (av rfl ⟨trivial, rfl⟩) rfl ?_
  refine L_call (hr := window_side _ _ _ _) rfl rfl trivial rfl rfl ?_
  refine L_v Tb_ok (v := .bool _) (av rfl ⟨trivial, trivial⟩) rfl ?_
  refine L_g Tb_ok (v := .ptr _ _ _) rfl rfl ((fun hg => (av rfl ⟨trivial, trivial⟩))) rfl rfl ?_
  refine L_g Tb_ok (v := .int _ _) rfl rfl ((fun hg => (av rfl ⟨⟨⟨(by first | exact hg | (simp_all; done) | (simp at hg ⊢; simp [hg])), True.intro⟩, True.intro⟩, rfl⟩))) rfl rfl ?_
  refine L_g Tb_ok (v := .ptr _ _ _) rfl rfl ((fun hg => (av rfl ⟨trivial, trivial⟩))) rfl rfl ?_
  refine L_g Tb_ok (v := .int _ _) rfl rfl ((fun hg => (av rfl ⟨⟨⟨(by first | exact hg | (simp_all; done) | (simp at hg ⊢; simp [hg])), True.intro⟩, True.intro⟩, rfl⟩))) rfl rfl ?_
  refine L_g Tb_ok (v := .ptr _ _ _) rfl rfl ((fun hg => (av rfl ⟨trivial, trivial⟩))) rfl rfl ?_
  refine L_g Tb_ok (v := .int _ _) rfl rfl ((fun hg => (av rfl ⟨⟨⟨(by first | exact hg | (simp_all; done) | (simp at hg ⊢; simp [hg])), True.intro⟩, True.intro⟩, rfl⟩))) rfl rfl ?_
  refine L_g Tb_ok (v := .ptr _ _ _) rfl rfl ((fun hg => (av rfl ⟨trivial, trivial⟩))) rfl rfl ?_
  refine L_g Tb_ok (v := .int _ _) rfl rfl ((fun hg => (av rfl ⟨⟨⟨(by first | exact hg | (simp_all; done) | (simp at hg ⊢; simp [hg])), True.intro⟩, True.intro⟩, rfl⟩))) rfl rfl ?_
  refine L_callg (hr := fun hg => window_side _ _ _ _) rfl rfl rfl rfl rfl (fun hg => ⟨⟨(by first | exact hg | (simp_all; done) | (simp at hg ⊢; simp [hg])), True.intro⟩, ⟨⟨(by first | exact hg | (simp_all; done) | (simp at hg ⊢; simp [hg])), True.intro⟩, ⟨⟨(by first | exact hg | (simp_all; done) | (simp at hg ⊢; simp [hg])), True.intro⟩, ⟨⟨(by first | exact hg | (simp_all; done) | (simp at hg ⊢; simp [hg])), True.intro⟩, True.intro⟩⟩⟩⟩) rfl rfl ?_
  refine L_v Tb_ok (v := .bool _) (av rfl (by refine ⟨?_, fun h => ?_, fun h => ?_⟩ <;> first | exact True.intro | exact ⟨h, True.intro⟩ | (refine ⟨?_, True.intro⟩; first | (rw [h]; done) | (rw [h]; rfl) | (simp [h]; done) | (simp at h hg ⊢; simp [h, hg]; done) | (simp_all; done) | (simp_all; omega)))) rfl ?_
  refine L_v Tb_ok (v := .bool _) (av rfl ⟨trivial, trivial⟩) rfl ?_
  refine WL_nil ?_
  refine W_ret ?_
  refine ends (l := [.bool _]) (q := .bool _) (.inr rfl) rfl ⟨trivial, trivial⟩ rfl rfl ?_
  simp [windowB]
theorem ref06_Valid (w : Window) : Ok Try.prog 61 [.agg (windowC w)] (.bool (windowB w)) := by
  refine fn_ok Tb_ok (fn := Try.f61) Try.func61 rfl rfl (e := [(0, _)]) rfl (by decide) rfl ?_
  refine W_seq ?_
  refine W_region rfl ?_
  refine L_box Tb_ok (cs := [.int _ _, .int _ _, .int _ _, .int _ _, .int _ _, .int _ _, .int _ _, .int _ _]) (n := 8) rfl rfl rfl rfl trivial ?_
  refine L_v Tb_ok (v := .bool _) (av rfl ⟨trivial, trivial⟩) rfl ?_
  refine WL_nil ?_
  refine W_seq ?_
  refine W_region rfl ?_
  refine L_v Tb_ok (v := .ptr _ _ _) (av rfl ⟨trivial, trivial⟩) rfl ?_
  refine L_v Tb_ok (v := .int _ _) (av rfl ⟨trivial, rfl⟩) rfl ?_
  refine L_call (hr := ref06_in _ _ _) rfl rfl trivial rfl rfl ?_
  refine L_v Tb_ok (v := .bool _) (av rfl ⟨trivial, trivial⟩) rfl ?_
  refine L_g Tb_ok (v := .ptr _ _ _) rfl rfl ((fun hg => (av rfl ⟨trivial, trivial⟩))) rfl rfl ?_
  refine L_g Tb_ok (v := .int _ _) rfl rfl ((fun hg => (av rfl ⟨⟨⟨(by first | exact hg | (simp_all; done) | (simp at hg ⊢; simp [hg])), True.intro⟩, True.intro⟩, rfl⟩))) rfl rfl ?_
  refine L_callg (hr := fun hg => ref06_in _ _ _) rfl rfl rfl rfl rfl (fun hg => ⟨⟨(by first | exact hg | (simp_all; done) | (simp at hg ⊢; simp [hg])), True.intro⟩, True.intro⟩) rfl rfl ?_
  refine L_v Tb_ok (v := .bool _) (av rfl (by refine ⟨?_, fun h => ?_, fun h => ?_⟩ <;> first | exact True.intro | exact ⟨h, True.intro⟩ | (refine ⟨?_, True.intro⟩; first | (rw [h]; done) | (rw [h]; rfl) | (simp [h]; done) | (simp at h hg ⊢; simp [h, hg]; done) | (simp_all; done) | (simp_all; omega)))) rfl ?_
  refine L_v Tb_ok (v := .bool _) (av rfl ⟨trivial, trivial⟩) rfl ?_
  refine L_g Tb_ok (v := .ptr _ _ _) rfl rfl ((fun hg => (av rfl ⟨trivial, trivial⟩))) rfl rfl ?_
  refine L_g Tb_ok (v := .int _ _) rfl rfl ((fun hg => (av rfl ⟨⟨⟨(by first | exact hg | (simp_all; done) | (simp at hg ⊢; simp [hg])), True.intro⟩, True.intro⟩, rfl⟩))) rfl rfl ?_
  refine L_callg (hr := fun hg => ref06_in _ _ _) rfl rfl rfl rfl rfl (fun hg => ⟨⟨(by first | exact hg | (simp_all; done) | (simp at hg ⊢; simp [hg])), True.intro⟩, True.intro⟩) rfl rfl ?_
  refine L_v Tb_ok (v := .bool _) (av rfl (by refine ⟨?_, fun h => ?_, fun h => ?_⟩ <;> first | exact True.intro | exact ⟨h, True.intro⟩ | (refine ⟨?_, True.intro⟩; first | (rw [h]; done) | (rw [h]; rfl) | (simp [h]; done) | (simp at h hg ⊢; simp [h, hg]; done) | (simp_all; done) | (simp_all; omega)))) rfl ?_
  refine L_v Tb_ok (v := .bool _) (av rfl ⟨trivial, trivial⟩) rfl ?_
  refine L_g Tb_ok (v := .ptr _ _ _) rfl rfl ((fun hg => (av rfl ⟨trivial, trivial⟩))) rfl rfl ?_
  refine L_g Tb_ok (v := .int _ _) rfl rfl ((fun hg => (av rfl ⟨⟨⟨(by first | exact hg | (simp_all; done) | (simp at hg ⊢; simp [hg])), True.intro⟩, True.intro⟩, rfl⟩))) rfl rfl ?_
  refine L_callg (hr := fun hg => ref06_in _ _ _) rfl rfl rfl rfl rfl (fun hg => ⟨⟨(by first | exact hg | (simp_all; done) | (simp at hg ⊢; simp [hg])), True.intro⟩, True.intro⟩) rfl rfl ?_
  refine L_v Tb_ok (v := .bool _) (av rfl (by refine ⟨?_, fun h => ?_, fun h => ?_⟩ <;> first | exact True.intro | exact ⟨h, True.intro⟩ | (refine ⟨?_, True.intro⟩; first | (rw [h]; done) | (rw [h]; rfl) | (simp [h]; done) | (simp at h hg ⊢; simp [h, hg]; done) | (simp_all; done) | (simp_all; omega)))) rfl ?_
  refine L_v Tb_ok (v := .bool _) (av rfl ⟨trivial, trivial⟩) rfl ?_
  refine L_g Tb_ok (v := .ptr _ _ _) rfl rfl ((fun hg => (av rfl ⟨trivial, trivial⟩))) rfl rfl ?_
  refine L_g Tb_ok (v := .int _ _) rfl rfl ((fun hg => (av rfl ⟨⟨⟨(by first | exact hg | (simp_all; done) | (simp at hg ⊢; simp [hg])), True.intro⟩, True.intro⟩, rfl⟩))) rfl rfl ?_
  refine L_g Tb_ok (v := .ptr _ _ _) rfl rfl ((fun hg => (av rfl ⟨trivial, trivial⟩))) rfl rfl ?_
  refine L_g Tb_ok (v := .int _ _) rfl rfl ((fun hg => (av rfl ⟨⟨⟨(by first | exact hg | (simp_all; done) | (simp at hg ⊢; simp [hg])), True.intro⟩, True.intro⟩, rfl⟩))) rfl rfl ?_
  refine L_g Tb_ok (v := .int _ _) rfl rfl ((fun hg => (av rfl ⟨⟨⟨(by first | exact hg | (simp_all; done) | (simp at hg ⊢; simp [hg])), True.intro⟩, True.intro⟩, trivial⟩))) rfl rfl ?_
  refine L_callg (hr := fun hg => ref06_in _ _ _) rfl rfl rfl rfl rfl (fun hg => ⟨⟨(by first | exact hg | (simp_all; done) | (simp at hg ⊢; simp [hg])), True.intro⟩, ⟨⟨(by first | exact hg | (simp_all; done) | (simp at hg ⊢; simp [hg])), True.intro⟩, True.intro⟩⟩) rfl rfl ?_
  refine L_v Tb_ok (v := .bool _) (av rfl (by refine ⟨?_, fun h => ?_, fun h => ?_⟩ <;> first | exact True.intro | exact ⟨h, True.intro⟩ | (refine ⟨?_, True.intro⟩; first | (rw [h]; done) | (rw [h]; rfl) | (simp [h]; done) | (simp at h hg ⊢; simp [h, hg]; done) | (simp_all; done) | (simp_all; omega)))) rfl ?_
  refine L_v Tb_ok (v := .bool _) (av rfl ⟨trivial, trivial⟩) rfl ?_
  refine L_g Tb_ok (v := .ptr _ _ _) rfl rfl ((fun hg => (av rfl ⟨trivial, trivial⟩))) rfl rfl ?_
  refine L_g Tb_ok (v := .int _ _) rfl rfl ((fun hg => (av rfl ⟨⟨⟨(by first | exact hg | (simp_all; done) | (simp at hg ⊢; simp [hg])), True.intro⟩, True.intro⟩, rfl⟩))) rfl rfl ?_
  refine L_g Tb_ok (v := .ptr _ _ _) rfl rfl ((fun hg => (av rfl ⟨trivial, trivial⟩))) rfl rfl ?_
  refine L_g Tb_ok (v := .int _ _) rfl rfl ((fun hg => (av rfl ⟨⟨⟨(by first | exact hg | (simp_all; done) | (simp at hg ⊢; simp [hg])), True.intro⟩, True.intro⟩, rfl⟩))) rfl rfl ?_
  refine L_g Tb_ok (v := .int _ _) rfl rfl ((fun hg => (av rfl ⟨⟨⟨(by first | exact hg | (simp_all; done) | (simp at hg ⊢; simp [hg])), True.intro⟩, True.intro⟩, trivial⟩))) rfl rfl ?_
  refine L_callg (hr := fun hg => ref06_in _ _ _) rfl rfl rfl rfl rfl (fun hg => ⟨⟨(by first | exact hg | (simp_all; done) | (simp at hg ⊢; simp [hg])), True.intro⟩, ⟨⟨(by first | exact hg | (simp_all; done) | (simp at hg ⊢; simp [hg])), True.intro⟩, True.intro⟩⟩) rfl rfl ?_
  refine L_v Tb_ok (v := .bool _) (av rfl (by refine ⟨?_, fun h => ?_, fun h => ?_⟩ <;> first | exact True.intro | exact ⟨h, True.intro⟩ | (refine ⟨?_, True.intro⟩; first | (rw [h]; done) | (rw [h]; rfl) | (simp [h]; done) | (simp at h hg ⊢; simp [h, hg]; done) | (simp_all; done) | (simp_all; omega)))) rfl ?_
  refine L_v Tb_ok (v := .bool _) (av rfl ⟨trivial, trivial⟩) rfl ?_
  refine L_g Tb_ok (v := .ptr _ _ _) rfl rfl ((fun hg => (av rfl ⟨trivial, trivial⟩))) rfl rfl ?_
  refine L_g Tb_ok (v := .int _ _) rfl rfl ((fun hg => (av rfl ⟨⟨⟨(by first | exact hg | (simp_all; done) | (simp at hg ⊢; simp [hg])), True.intro⟩, True.intro⟩, rfl⟩))) rfl rfl ?_
  refine L_g Tb_ok (v := .ptr _ _ _) rfl rfl ((fun hg => (av rfl ⟨trivial, trivial⟩))) rfl rfl ?_
  refine L_g Tb_ok (v := .int _ _) rfl rfl ((fun hg => (av rfl ⟨⟨⟨(by first | exact hg | (simp_all; done) | (simp at hg ⊢; simp [hg])), True.intro⟩, True.intro⟩, rfl⟩))) rfl rfl ?_
  refine L_g Tb_ok (v := .int _ _) rfl rfl ((fun hg => (av rfl ⟨⟨⟨(by first | exact hg | (simp_all; done) | (simp at hg ⊢; simp [hg])), True.intro⟩, True.intro⟩, trivial⟩))) rfl rfl ?_
  refine L_callg (hr := fun hg => ref06_in _ _ _) rfl rfl rfl rfl rfl (fun hg => ⟨⟨(by first | exact hg | (simp_all; done) | (simp at hg ⊢; simp [hg])), True.intro⟩, ⟨⟨(by first | exact hg | (simp_all; done) | (simp at hg ⊢; simp [hg])), True.intro⟩, True.intro⟩⟩) rfl rfl ?_
  refine L_v Tb_ok (v := .bool _) (av rfl (by refine ⟨?_, fun h => ?_, fun h => ?_⟩ <;> first | exact True.intro | exact ⟨h, True.intro⟩ | (refine ⟨?_, True.intro⟩; first | (rw [h]; done) | (rw [h]; rfl) | (simp [h]; done) | (simp at h hg ⊢; simp [h, hg]; done) | (simp_all; done) | (simp_all; omega)))) rfl ?_
  refine L_v Tb_ok (v := .bool _) (av rfl ⟨trivial, trivial⟩) rfl ?_
  refine L_g Tb_ok (v := .ptr _ _ _) rfl rfl ((fun hg => (av rfl ⟨trivial, trivial⟩))) rfl rfl ?_
  refine L_g Tb_ok (v := .int _ _) rfl rfl ((fun hg => (av rfl ⟨⟨⟨(by first | exact hg | (simp_all; done) | (simp at hg ⊢; simp [hg])), True.intro⟩, True.intro⟩, rfl⟩))) rfl rfl ?_
  refine L_g Tb_ok (v := .ptr _ _ _) rfl rfl ((fun hg => (av rfl ⟨trivial, trivial⟩))) rfl rfl ?_
  refine L_g Tb_ok (v := .int _ _) rfl rfl ((fun hg => (av rfl ⟨⟨⟨(by first | exact hg | (simp_all; done) | (simp at hg ⊢; simp [hg])), True.intro⟩, True.intro⟩, rfl⟩))) rfl rfl ?_
  refine L_g Tb_ok (v := .int _ _) rfl rfl ((fun hg => (av rfl ⟨⟨⟨(by first | exact hg | (simp_all; done) | (simp at hg ⊢; simp [hg])), True.intro⟩, True.intro⟩, trivial⟩))) rfl rfl ?_
  refine L_callg (hr := fun hg => ref06_in _ _ _) rfl rfl rfl rfl rfl (fun hg => ⟨⟨(by first | exact hg | (simp_all; done) | (simp at hg ⊢; simp [hg])), True.intro⟩, ⟨⟨(by first | exact hg | (simp_all; done) | (simp at hg ⊢; simp [hg])), True.intro⟩, True.intro⟩⟩) rfl rfl ?_
  refine L_v Tb_ok (v := .bool _) (av rfl (by refine ⟨?_, fun h => ?_, fun h => ?_⟩ <;> first | exact True.intro | exact ⟨h, True.intro⟩ | (refine ⟨?_, True.intro⟩; first | (rw [h]; done) | (rw [h]; rfl) | (simp [h]; done) | (simp at h hg ⊢; simp [h, hg]; done) | (simp_all; done) | (simp_all; omega)))) rfl ?_
  refine L_v Tb_ok (v := .bool _) (av rfl ⟨trivial, trivial⟩) rfl ?_
  refine WL_nil ?_
  refine W_ret ?_
  refine ends (l := [.bool _]) (q := .bool _) (.inr rfl) rfl ⟨trivial, trivial⟩ rfl rfl ?_
  simp only [windowB, sideB, w64, Bool.cond_false_right]; congr 1; ac_rfl
def shapeE (s : Shape) : Int := bif shapeB s then 0 else 50
def elemsR (s : Shape) : Int := bif shapeB s then elems s else 0
theorem notIn {x lo hi : Int} {b : Bool} (h : (bif decide (x < lo) then true else decide (x > hi)) = b) : inB x lo hi = !b := by
  subst h; simp [inB]
  by_cases h1 : x < lo <;> by_cases h2 : x > hi <;> simp [h1, h2] <;> omega
theorem one_wrap {x : Int} (h : inB x 1 1024 = true) : IntKind.i64.wrap (1 * x) = x := by
  simp [inB] at h; rw [w64_id] <;> omega
theorem shape_Elems (s : Shape) : Ok Try.prog 53 [.agg (shapeC s)] (.tup [.int .i64 (elemsR s), .int .i64 (shapeE s)]) := by
  refine fn_ok Tb_ok (fn := Try.f53) Try.func53 rfl rfl (e := [(0, _)]) rfl (by decide) rfl ?_
  refine W_seq ?_
  refine W_region rfl ?_
  refine L_box Tb_ok (cs := [.int _ _, .int _ _, .int _ _]) (n := 3) rfl rfl rfl rfl trivial ?_
  refine L_v Tb_ok (v := .int _ _) (av rfl ⟨trivial, trivial⟩) rfl ?_
  refine L_v Tb_ok (v := .int _ _) (av rfl ⟨trivial, trivial⟩) rfl ?_
  refine WL_nil ?_
  refine W_seq ?_
  refine W_region rfl ?_
  refine L_v Tb_ok (v := .int _ _) (av rfl ⟨trivial, trivial⟩) rfl ?_
  refine WL_nil ?_
  refine W_seq ?_
  refine W_seq ?_
  refine W_region rfl ?_
  refine L_v Tb_ok (v := .ptr _ _ _) (av rfl ⟨trivial, trivial⟩) rfl ?_
  refine L_v Tb_ok (v := .int _ _) (av rfl ⟨trivial, rfl⟩) rfl ?_
  refine L_v Tb_ok (v := .ptr _ _ _) (av rfl ⟨trivial, trivial⟩) rfl ?_
  refine L_v Tb_ok (v := .int _ _) (av rfl ⟨trivial, rfl⟩) rfl ?_
  refine L_v Tb_ok (v := .ptr _ _ _) (av rfl ⟨trivial, trivial⟩) rfl ?_
  refine L_v Tb_ok (v := .int _ _) (av rfl ⟨trivial, rfl⟩) rfl ?_
  refine L_v Tb_ok (v := .agg [.int _ _, .int _ _, .int _ _]) (av rfl ⟨trivial, rfl⟩) rfl ?_
  refine L_v Tb_ok (v := .int _ _) (av rfl ⟨trivial, trivial⟩) rfl ?_
  refine WL_nil ?_
  refine W_block ?_
  refine W_loop_of ?_
  refine LoopW_once ?_
  refine W_seq ?_
  refine W_region rfl ?_
  refine L_v Tb_ok (v := .bool _) (av rfl ⟨trivial, trivial⟩) rfl ?_
  refine WL_nil ?_
  refine W_seq ?_
  refine W_cond_t (b := _) rfl (by first | exact hc15 | rfl | decide | simp_all) ?_
  refine W_skip ?_
  refine W_seq ?_
  refine W_block ?_
  refine W_seq ?_
  refine W_region rfl ?_
  refine L_v Tb_ok (v := .int _ _) (av rfl ⟨trivial, ⟨by first | omega | assumption | decide | (simp_all; done) | (simp_all; omega), by first | omega | assumption | decide | (simp_all; done) | (simp_all; omega)⟩, rfl⟩) rfl ?_
  refine L_v Tb_ok (v := .int _ _) (av rfl ⟨trivial, trivial⟩) rfl ?_
  refine WL_nil ?_
  refine W_seq ?_
  refine W_seq ?_
  refine W_region rfl ?_
  refine L_v Tb_ok (v := .int _ _) (av rfl ⟨trivial, trivial⟩) rfl ?_
  refine L_v Tb_ok (v := .bool _) (av rfl ⟨trivial, trivial⟩) rfl ?_
  refine L_v Tb_ok (v := .bool _) (av rfl ⟨trivial, trivial⟩) rfl ?_
  refine L_g Tb_ok (v := .int _ _) rfl rfl ((fun hg => (av rfl ⟨trivial, trivial⟩))) rfl rfl ?_
  refine L_g Tb_ok (v := .bool _) rfl rfl ((fun hg => (av rfl ⟨⟨⟨(by first | exact hg | (simp_all; done) | (simp at hg ⊢; simp [hg])), True.intro⟩, True.intro⟩, trivial⟩))) rfl rfl ?_
  refine L_v Tb_ok (v := .bool _) (av rfl (by refine ⟨?_, fun h => ?_, fun h => ?_⟩ <;> first | exact True.intro | exact ⟨h, True.intro⟩ | (refine ⟨?_, True.intro⟩; first | (rw [h]; done) | (rw [h]; rfl) | (simp [h]; done) | (simp at h hg ⊢; simp [h, hg]; done) | (simp_all; done) | (simp_all; omega)))) rfl ?_
  refine WL_nil ?_
  refine W_cond (b := _) rfl (fun h22 => ?_) (fun h22 => ?_)
  · refine W_seq ?_
    refine W_region rfl ?_
    refine L_v Tb_ok (v := .int _ _) (av rfl ⟨trivial, trivial⟩) rfl ?_
    refine L_v Tb_ok (v := .int _ _) (av rfl ⟨trivial, trivial⟩) rfl ?_
    refine WL_nil ?_
    refine W_ret ?_
    refine ends (l := [.int _ _, .int _ _]) (q := .tup [.int _ _, .int _ _]) (.inr rfl) rfl ⟨trivial, trivial, trivial⟩ rfl rfl ?_
    first
    | (simp [shapeB, shapeE, elemsR, notIn h22]; done)
    | (simp [shapeB, shapeE, elemsR, notIn h22_1]; done)
    | (simp [shapeB, shapeE, elemsR, notIn h22_2]; done)
    | (rw [one_wrap (notIn h22)] at *
       have h28' : decide (elems s > 16384) = _ := h28
       have hB : shapeB s = decide (elems s ≤ 16384) := by simp [shapeB, notIn h22, notIn h22_1, notIn h22_2]
       have hC : decide (elems s ≤ 16384) = !decide (elems s > 16384) := by by_cases h : elems s ≤ 16384 <;> simp [h] <;> omega
       simp [shapeE, elemsR, hB, hC, h28']
       try rfl)
  · refine W_skip ?_
    refine W_region rfl ?_
    refine L_v Tb_ok (v := .int _ _) (av rfl ⟨trivial, trivial⟩) rfl ?_
    refine L_v Tb_ok (v := .int _ _) (av rfl ⟨trivial, trivial⟩) rfl ?_
    refine L_v Tb_ok (v := .int _ _) (av rfl ⟨trivial, trivial⟩) rfl ?_
    refine L_v Tb_ok (v := .int _ _) (av rfl ⟨trivial, trivial⟩) rfl ?_
    refine WL_nil ?_
    refine W_region rfl ?_
    refine L_v Tb_ok (v := .int _ _) (av rfl ⟨trivial, trivial⟩) rfl ?_
    refine L_v Tb_ok (v := .int _ _) (av rfl ⟨trivial, trivial⟩) rfl ?_
    refine WL_nil ?_
    refine LoopW_once ?_
    refine W_seq ?_
    refine W_region rfl ?_
    refine L_v Tb_ok (v := .bool _) (av rfl ⟨trivial, trivial⟩) rfl ?_
    refine WL_nil ?_
    refine W_seq ?_
    refine W_cond_t (b := _) rfl (by first | exact hc15 | rfl | decide | simp_all) ?_
    refine W_skip ?_
    refine W_seq ?_
    refine W_block ?_
    refine W_seq ?_
    refine W_region rfl ?_
    refine L_v Tb_ok (v := .int _ _) (av rfl ⟨trivial, ⟨by first | omega | assumption | decide | (simp_all; done) | (simp_all; omega), by first | omega | assumption | decide | (simp_all; done) | (simp_all; omega)⟩, rfl⟩) rfl ?_
    refine L_v Tb_ok (v := .int _ _) (av rfl ⟨trivial, trivial⟩) rfl ?_
    refine WL_nil ?_
    refine W_seq ?_
    refine W_seq ?_
    refine W_region rfl ?_
    refine L_v Tb_ok (v := .int _ _) (av rfl ⟨trivial, trivial⟩) rfl ?_
    refine L_v Tb_ok (v := .bool _) (av rfl ⟨trivial, trivial⟩) rfl ?_
    refine L_v Tb_ok (v := .bool _) (av rfl ⟨trivial, trivial⟩) rfl ?_
    refine L_g Tb_ok (v := .int _ _) rfl rfl ((fun hg => (av rfl ⟨trivial, trivial⟩))) rfl rfl ?_
    refine L_g Tb_ok (v := .bool _) rfl rfl ((fun hg => (av rfl ⟨⟨⟨(by first | exact hg | (simp_all; done) | (simp at hg ⊢; simp [hg])), True.intro⟩, True.intro⟩, trivial⟩))) rfl rfl ?_
    refine L_v Tb_ok (v := .bool _) (av rfl (by refine ⟨?_, fun h => ?_, fun h => ?_⟩ <;> first | exact True.intro | exact ⟨h, True.intro⟩ | (refine ⟨?_, True.intro⟩; first | (rw [h]; done) | (rw [h]; rfl) | (simp [h]; done) | (simp at h hg ⊢; simp [h, hg]; done) | (simp_all; done) | (simp_all; omega)))) rfl ?_
    refine WL_nil ?_
    refine W_cond (b := _) rfl (fun h22_1 => ?_) (fun h22_1 => ?_)
    · refine W_seq ?_
      refine W_region rfl ?_
      refine L_v Tb_ok (v := .int _ _) (av rfl ⟨trivial, trivial⟩) rfl ?_
      refine L_v Tb_ok (v := .int _ _) (av rfl ⟨trivial, trivial⟩) rfl ?_
      refine WL_nil ?_
      refine W_ret ?_
      refine ends (l := [.int _ _, .int _ _]) (q := .tup [.int _ _, .int _ _]) (.inr rfl) rfl ⟨trivial, trivial, trivial⟩ rfl rfl ?_
      first
      | (simp [shapeB, shapeE, elemsR, notIn h22]; done)
      | (simp [shapeB, shapeE, elemsR, notIn h22_1]; done)
      | (simp [shapeB, shapeE, elemsR, notIn h22_2]; done)
      | (rw [one_wrap (notIn h22)] at *
         have h28' : decide (elems s > 16384) = _ := h28
         have hB : shapeB s = decide (elems s ≤ 16384) := by simp [shapeB, notIn h22, notIn h22_1, notIn h22_2]
         have hC : decide (elems s ≤ 16384) = !decide (elems s > 16384) := by by_cases h : elems s ≤ 16384 <;> simp [h] <;> omega
         simp [shapeE, elemsR, hB, hC, h28']
         try rfl)
    · refine W_skip ?_
      refine W_region rfl ?_
      refine L_v Tb_ok (v := .int _ _) (av rfl ⟨trivial, trivial⟩) rfl ?_
      refine L_v Tb_ok (v := .int _ _) (av rfl ⟨trivial, trivial⟩) rfl ?_
      refine L_v Tb_ok (v := .int _ _) (av rfl ⟨trivial, trivial⟩) rfl ?_
      refine L_v Tb_ok (v := .int _ _) (av rfl ⟨trivial, trivial⟩) rfl ?_
      refine WL_nil ?_
      refine W_region rfl ?_
      refine L_v Tb_ok (v := .int _ _) (av rfl ⟨trivial, trivial⟩) rfl ?_
      refine L_v Tb_ok (v := .int _ _) (av rfl ⟨trivial, trivial⟩) rfl ?_
      refine WL_nil ?_
      refine LoopW_once ?_
      refine W_seq ?_
      refine W_region rfl ?_
      refine L_v Tb_ok (v := .bool _) (av rfl ⟨trivial, trivial⟩) rfl ?_
      refine WL_nil ?_
      refine W_seq ?_
      refine W_cond_t (b := _) rfl (by first | exact hc15 | rfl | decide | simp_all) ?_
      refine W_skip ?_
      refine W_seq ?_
      refine W_block ?_
      refine W_seq ?_
      refine W_region rfl ?_
      refine L_v Tb_ok (v := .int _ _) (av rfl ⟨trivial, ⟨by first | omega | assumption | decide | (simp_all; done) | (simp_all; omega), by first | omega | assumption | decide | (simp_all; done) | (simp_all; omega)⟩, rfl⟩) rfl ?_
      refine L_v Tb_ok (v := .int _ _) (av rfl ⟨trivial, trivial⟩) rfl ?_
      refine WL_nil ?_
      refine W_seq ?_
      refine W_seq ?_
      refine W_region rfl ?_
      refine L_v Tb_ok (v := .int _ _) (av rfl ⟨trivial, trivial⟩) rfl ?_
      refine L_v Tb_ok (v := .bool _) (av rfl ⟨trivial, trivial⟩) rfl ?_
      refine L_v Tb_ok (v := .bool _) (av rfl ⟨trivial, trivial⟩) rfl ?_
      refine L_g Tb_ok (v := .int _ _) rfl rfl ((fun hg => (av rfl ⟨trivial, trivial⟩))) rfl rfl ?_
      refine L_g Tb_ok (v := .bool _) rfl rfl ((fun hg => (av rfl ⟨⟨⟨(by first | exact hg | (simp_all; done) | (simp at hg ⊢; simp [hg])), True.intro⟩, True.intro⟩, trivial⟩))) rfl rfl ?_
      refine L_v Tb_ok (v := .bool _) (av rfl (by refine ⟨?_, fun h => ?_, fun h => ?_⟩ <;> first | exact True.intro | exact ⟨h, True.intro⟩ | (refine ⟨?_, True.intro⟩; first | (rw [h]; done) | (rw [h]; rfl) | (simp [h]; done) | (simp at h hg ⊢; simp [h, hg]; done) | (simp_all; done) | (simp_all; omega)))) rfl ?_
      refine WL_nil ?_
      refine W_cond (b := _) rfl (fun h22_2 => ?_) (fun h22_2 => ?_)
      · refine W_seq ?_
        refine W_region rfl ?_
        refine L_v Tb_ok (v := .int _ _) (av rfl ⟨trivial, trivial⟩) rfl ?_
        refine L_v Tb_ok (v := .int _ _) (av rfl ⟨trivial, trivial⟩) rfl ?_
        refine WL_nil ?_
        refine W_ret ?_
        refine ends (l := [.int _ _, .int _ _]) (q := .tup [.int _ _, .int _ _]) (.inr rfl) rfl ⟨trivial, trivial, trivial⟩ rfl rfl ?_
        first
        | (simp [shapeB, shapeE, elemsR, notIn h22]; done)
        | (simp [shapeB, shapeE, elemsR, notIn h22_1]; done)
        | (simp [shapeB, shapeE, elemsR, notIn h22_2]; done)
        | (rw [one_wrap (notIn h22)] at *
           have h28' : decide (elems s > 16384) = _ := h28
           have hB : shapeB s = decide (elems s ≤ 16384) := by simp [shapeB, notIn h22, notIn h22_1, notIn h22_2]
           have hC : decide (elems s ≤ 16384) = !decide (elems s > 16384) := by by_cases h : elems s ≤ 16384 <;> simp [h] <;> omega
           simp [shapeE, elemsR, hB, hC, h28']
           try rfl)
      · refine W_skip ?_
        refine W_region rfl ?_
        refine L_v Tb_ok (v := .int _ _) (av rfl ⟨trivial, trivial⟩) rfl ?_
        refine L_v Tb_ok (v := .int _ _) (av rfl ⟨trivial, trivial⟩) rfl ?_
        refine L_v Tb_ok (v := .int _ _) (av rfl ⟨trivial, trivial⟩) rfl ?_
        refine L_v Tb_ok (v := .int _ _) (av rfl ⟨trivial, trivial⟩) rfl ?_
        refine WL_nil ?_
        refine W_region rfl ?_
        refine L_v Tb_ok (v := .int _ _) (av rfl ⟨trivial, trivial⟩) rfl ?_
        refine L_v Tb_ok (v := .int _ _) (av rfl ⟨trivial, trivial⟩) rfl ?_
        refine WL_nil ?_
        refine LoopW_once ?_
        refine W_seq ?_
        refine W_region rfl ?_
        refine L_v Tb_ok (v := .bool _) (av rfl ⟨trivial, trivial⟩) rfl ?_
        refine WL_nil ?_
        refine W_seq ?_
        refine W_cond_f (b := _) rfl (by first | exact hc15 | rfl | decide | simp_all) ?_
        refine W_exit ?_
        repeat (first | refine pass_then ?_ | refine pass_once ?_ | refine pass_le ?_ | refine pass_round ?_ | refine pass_for ?_ | refine blockQ_miss rfl ?_)
        refine blockQ_hit ?_
        refine W_seq ?_
        refine W_seq ?_
        refine W_region rfl ?_
        refine L_v Tb_ok (v := .int _ _) (av rfl ⟨trivial, trivial⟩) rfl ?_
        refine L_v Tb_ok (v := .bool _) (av rfl ⟨trivial, trivial⟩) rfl ?_
        refine WL_nil ?_
        refine W_cond (b := _) rfl (fun h28 => ?_) (fun h28 => ?_)
        · refine W_seq ?_
          refine W_region rfl ?_
          refine L_v Tb_ok (v := .int _ _) (av rfl ⟨trivial, trivial⟩) rfl ?_
          refine L_v Tb_ok (v := .int _ _) (av rfl ⟨trivial, trivial⟩) rfl ?_
          refine WL_nil ?_
          refine W_ret ?_
          refine ends (l := [.int _ _, .int _ _]) (q := .tup [.int _ _, .int _ _]) (.inr rfl) rfl ⟨trivial, trivial, trivial⟩ rfl rfl ?_
          first
          | (simp [shapeB, shapeE, elemsR, notIn h22]; done)
          | (simp [shapeB, shapeE, elemsR, notIn h22_1]; done)
          | (simp [shapeB, shapeE, elemsR, notIn h22_2]; done)
          | (rw [one_wrap (notIn h22)] at *
             have h28' : decide (elems s > 16384) = _ := h28
             have hB : shapeB s = decide (elems s ≤ 16384) := by simp [shapeB, notIn h22, notIn h22_1, notIn h22_2]
             have hC : decide (elems s ≤ 16384) = !decide (elems s > 16384) := by by_cases h : elems s ≤ 16384 <;> simp [h] <;> omega
             simp [shapeE, elemsR, hB, hC, h28']
             try rfl)
        · refine W_skip ?_
          refine W_seq ?_
          refine W_region rfl ?_
          refine L_v Tb_ok (v := .int _ _) (av rfl ⟨trivial, trivial⟩) rfl ?_
          refine L_v Tb_ok (v := .int _ _) (av rfl ⟨trivial, trivial⟩) rfl ?_
          refine L_v Tb_ok (v := .int _ _) (av rfl ⟨trivial, trivial⟩) rfl ?_
          refine WL_nil ?_
          refine W_ret ?_
          refine ends (l := [.int _ _, .int _ _]) (q := .tup [.int _ _, .int _ _]) (.inr rfl) rfl ⟨trivial, trivial, trivial⟩ rfl rfl ?_
          first
          | (simp [shapeB, shapeE, elemsR, notIn h22]; done)
          | (simp [shapeB, shapeE, elemsR, notIn h22_1]; done)
          | (simp [shapeB, shapeE, elemsR, notIn h22_2]; done)
          | (rw [one_wrap (notIn h22)] at *
             have h28' : decide (elems s > 16384) = _ := h28
             have hB : shapeB s = decide (elems s ≤ 16384) := by simp [shapeB, notIn h22, notIn h22_1, notIn h22_2]
             have hC : decide (elems s ≤ 16384) = !decide (elems s > 16384) := by by_cases h : elems s ≤ 16384 <;> simp [h] <;> omega
             simp [shapeE, elemsR, hB, hC, h28']
             try rfl)
end Go.AM
end
section
open Go Go.AM Go.Proofs
set_option maxRecDepth 10000
set_option linter.unusedVariables false
set_option linter.unusedSimpArgs false
namespace Go.AM
/-- rows, columns that a window leaves -/
def spanH (s : Shape) (w : Window) : Int := w64 (w64 (w64 (s.H + w.Top) + w.Bottom) - w.KH)
def spanW (s : Shape) (w : Window) : Int := w64 (w64 (w64 (s.W + w.Left) + w.Right) - w.KW)
def outB (s : Shape) (w : Window) : Bool := !(decide (spanH s w < 0 ∨ spanW s w < 0))
def outE (s : Shape) (w : Window) : Int := if shapeB s then if windowB w then if spanH s w < 0 ∨ spanW s w < 0 then 60 else 0 else 60 else 50
def outH (s : Shape) (w : Window) : Int := if shapeB s then if windowB w then if spanH s w < 0 ∨ spanW s w < 0 then 0 else w64 (w64 ((spanH s w).tdiv w.SH) + 1) else 0 else 0
def outW (s : Shape) (w : Window) : Int := if shapeB s then if windowB w then if spanH s w < 0 ∨ spanW s w < 0 then 0 else w64 (w64 ((spanW s w).tdiv w.SW) + 1) else 0 else 0
theorem step_ne {w : Window} (h : windowB w = true) : w.SH ≠ 0 ∧ w.SW ≠ 0 := by
  simp [windowB, sideB, inB] at h; omega
theorem window_Out (s : Shape) (w : Window) : Ok Try.prog 39 [.agg (shapeC s), .agg (windowC w)] (.tup [.int .i64 (outH s w), .int .i64 (outW s w), .int .i64 (outE s w)]) := by
  refine fn_ok Tb_ok (fn := Try.f39) Try.func39 rfl rfl (e := [(0, _), (1, _)]) rfl (by decide) rfl ?_
  refine W_seq ?_
  refine W_region rfl ?_
  refine L_box Tb_ok (cs := [.int _ _, .int _ _, .int _ _]) (n := 3) rfl rfl rfl rfl trivial ?_
  refine L_box Tb_ok (cs := [.int _ _, .int _ _, .int _ _, .int _ _, .int _ _, .int _ _, .int _ _, .int _ _]) (n := 8) rfl rfl rfl rfl trivial ?_
  refine L_v Tb_ok (v := .int _ _) (av rfl ⟨trivial, trivial⟩) rfl ?_
  refine L_v Tb_ok (v := .int _ _) (av rfl ⟨trivial, trivial⟩) rfl ?_
  refine L_v Tb_ok (v := .int _ _) (av rfl ⟨trivial, trivial⟩) rfl ?_
  refine WL_nil ?_
  refine W_seq ?_
  refine W_seq ?_
  refine W_region rfl ?_
  refine L_v Tb_ok (v := .agg [.int _ _, .int _ _, .int _ _]) (av rfl ⟨trivial, rfl⟩) rfl ?_
  refine L_call (hr := shape_Elems s) rfl rfl trivial rfl rfl ?_
  refine L_v Tb_ok (v := .tup [_, _]) (av rfl ⟨trivial, trivial⟩) rfl ?_
  refine L_v Tb_ok (v := .int _ _) (av rfl ⟨trivial, trivial⟩) rfl ?_
  refine L_v Tb_ok (v := .int _ _) (av rfl ⟨trivial, trivial⟩) rfl ?_
  refine L_v Tb_ok (v := .int _ _) (av rfl ⟨trivial, trivial⟩) rfl ?_
  refine L_v Tb_ok (v := .int _ _) (av rfl ⟨trivial, trivial⟩) rfl ?_
  refine WL_nil ?_
  refine W_seq ?_
  refine W_region rfl ?_
  refine L_v Tb_ok (v := .int _ _) (av rfl ⟨trivial, trivial⟩) rfl ?_
  refine L_v Tb_ok (v := .bool _) (av rfl ⟨trivial, trivial⟩) rfl ?_
  refine WL_nil ?_
  refine W_cond (b := _) rfl (fun h17 => ?_) (fun h17 => ?_)
  · refine W_seq ?_
    refine W_region rfl ?_
    refine L_v Tb_ok (v := .int _ _) (av rfl ⟨trivial, trivial⟩) rfl ?_
    refine L_v Tb_ok (v := .int _ _) (av rfl ⟨trivial, trivial⟩) rfl ?_
    refine L_v Tb_ok (v := .int _ _) (av rfl ⟨trivial, trivial⟩) rfl ?_
    refine L_v Tb_ok (v := .int _ _) (av rfl ⟨trivial, trivial⟩) rfl ?_
    refine WL_nil ?_
    refine W_ret ?_
    refine ends (l := [.int _ _, .int _ _, .int _ _]) (q := .tup [.int _ _, .int _ _, .int _ _]) (.inr rfl) rfl ⟨trivial, trivial, trivial, trivial⟩ rfl rfl ?_
    by_cases p : spanH s w < 0 ∨ spanW s w < 0 <;> cases hb : shapeB s <;> cases hw : windowB w <;> first
    | (exfalso; simp_all [shapeE]; done)
    | (simp [outE, outH, outW, hb, hw, p, shapeE]; done)
    | (simp [outE, outH, outW, hb, hw, p, shapeE]; simp [spanH, spanW, w64]; done)
    | (exfalso; simp [spanH, spanW, w64] at p h49; omega)
  · refine W_skip ?_
    refine W_seq ?_
    refine W_seq ?_
    refine W_region rfl ?_
    refine L_v Tb_ok (v := .agg [.int _ _, .int _ _, .int _ _, .int _ _, .int _ _, .int _ _, .int _ _, .int _ _]) (av rfl ⟨trivial, rfl⟩) rfl ?_
    refine L_call (hr := window_Valid w) rfl rfl trivial rfl rfl ?_
    refine L_v Tb_ok (v := .bool _) (av rfl ⟨trivial, trivial⟩) rfl ?_
    refine WL_nil ?_
    refine W_cond (b := _) rfl (fun h21 => ?_) (fun h21 => ?_)
    · refine W_seq ?_
      refine W_region rfl ?_
      refine L_v Tb_ok (v := .int _ _) (av rfl ⟨trivial, trivial⟩) rfl ?_
      refine L_v Tb_ok (v := .int _ _) (av rfl ⟨trivial, trivial⟩) rfl ?_
      refine L_v Tb_ok (v := .int _ _) (av rfl ⟨trivial, trivial⟩) rfl ?_
      refine WL_nil ?_
      refine W_ret ?_
      refine ends (l := [.int _ _, .int _ _, .int _ _]) (q := .tup [.int _ _, .int _ _, .int _ _]) (.inr rfl) rfl ⟨trivial, trivial, trivial, trivial⟩ rfl rfl ?_
      by_cases p : spanH s w < 0 ∨ spanW s w < 0 <;> cases hb : shapeB s <;> cases hw : windowB w <;> first
      | (exfalso; simp_all [shapeE]; done)
      | (simp [outE, outH, outW, hb, hw, p, shapeE]; done)
      | (simp [outE, outH, outW, hb, hw, p, shapeE]; simp [spanH, spanW, w64]; done)
      | (exfalso; simp [spanH, spanW, w64] at p h49; omega)
    · refine W_skip ?_
      refine W_seq ?_
      refine W_draw 24 Tb_mixed rfl (by decide) (by kernel_rfl) (by kernel_rfl) ?_
      refine E_v Tb_ok (v := .ptr _ _ _) (av rfl ⟨trivial, trivial⟩) rfl ?_
      refine E_v Tb_ok (v := .int _ _) (av rfl ⟨trivial, rfl⟩) rfl ?_
      refine E_v Tb_ok (v := .ptr _ _ _) (av rfl ⟨trivial, trivial⟩) rfl ?_
      refine E_v Tb_ok (v := .int _ _) (av rfl ⟨trivial, rfl⟩) rfl ?_
      refine E_v Tb_ok (v := .int _ _) (av rfl ⟨trivial, trivial⟩) rfl ?_
      refine E_v Tb_ok (v := .ptr _ _ _) (av rfl ⟨trivial, trivial⟩) rfl ?_
      refine E_v Tb_ok (v := .int _ _) (av rfl ⟨trivial, rfl⟩) rfl ?_
      refine E_v Tb_ok (v := .int _ _) (av rfl ⟨trivial, trivial⟩) rfl ?_
      refine E_v Tb_ok (v := .ptr _ _ _) (av rfl ⟨trivial, trivial⟩) rfl ?_
      refine E_v Tb_ok (v := .int _ _) (av rfl ⟨trivial, rfl⟩) rfl ?_
      refine E_v Tb_ok (v := .int _ _) (av rfl ⟨trivial, trivial⟩) rfl ?_
      refine E_v Tb_ok (v := .ptr _ _ _) (av rfl ⟨trivial, trivial⟩) rfl ?_
      refine E_v Tb_ok (v := .int _ _) (av rfl ⟨trivial, rfl⟩) rfl ?_
      refine E_v Tb_ok (v := .ptr _ _ _) (av rfl ⟨trivial, trivial⟩) rfl ?_
      refine E_v Tb_ok (v := .int _ _) (av rfl ⟨trivial, rfl⟩) rfl ?_
      refine E_v Tb_ok (v := .int _ _) (av rfl ⟨trivial, trivial⟩) rfl ?_
      refine E_v Tb_ok (v := .ptr _ _ _) (av rfl ⟨trivial, trivial⟩) rfl ?_
      refine E_v Tb_ok (v := .int _ _) (av rfl ⟨trivial, rfl⟩) rfl ?_
      refine E_v Tb_ok (v := .int _ _) (av rfl ⟨trivial, trivial⟩) rfl ?_
      refine E_v Tb_ok (v := .ptr _ _ _) (av rfl ⟨trivial, trivial⟩) rfl ?_
      refine E_v Tb_ok (v := .int _ _) (av rfl ⟨trivial, rfl⟩) rfl ?_
      refine E_v Tb_ok (v := .int _ _) (av rfl ⟨trivial, trivial⟩) rfl ?_
      refine E_v Tb_ok (v := .int _ _) (av rfl ⟨trivial, trivial⟩) rfl ?_
      refine E_v Tb_ok (v := .int _ _) (av rfl ⟨trivial, trivial⟩) rfl ?_
      refine LexE_nil ?_
      refine WL_nil ?_
      refine W_seq ?_
      refine W_seq ?_
      refine W_region rfl ?_
      refine L_v Tb_ok (v := .int _ _) (av rfl ⟨trivial, trivial⟩) rfl ?_
      refine L_v Tb_ok (v := .bool _) (av rfl ⟨trivial, trivial⟩) rfl ?_
      refine L_v Tb_ok (v := .bool _) (av rfl ⟨trivial, trivial⟩) rfl ?_
      refine L_g Tb_ok (v := .int _ _) rfl rfl ((fun hg => (av rfl ⟨trivial, trivial⟩))) rfl rfl ?_
      refine L_g Tb_ok (v := .bool _) rfl rfl ((fun hg => (av rfl ⟨⟨⟨(by first | exact hg | (simp_all; done) | (simp at hg ⊢; simp [hg])), True.intro⟩, True.intro⟩, trivial⟩))) rfl rfl ?_
      refine L_v Tb_ok (v := .bool _) (av rfl (by refine ⟨?_, fun h => ?_, fun h => ?_⟩ <;> first | exact True.intro | exact ⟨h, True.intro⟩ | (refine ⟨?_, True.intro⟩; first | (rw [h]; done) | (rw [h]; rfl) | (simp [h]; done) | (simp at h hg ⊢; simp [h, hg]; done) | (simp_all; done) | (simp_all; omega)))) rfl ?_
      refine WL_nil ?_
      refine W_cond (b := _) rfl (fun h49 => ?_) (fun h49 => ?_)
      · refine W_seq ?_
        refine W_region rfl ?_
        refine L_v Tb_ok (v := .int _ _) (av rfl ⟨trivial, trivial⟩) rfl ?_
        refine L_v Tb_ok (v := .int _ _) (av rfl ⟨trivial, trivial⟩) rfl ?_
        refine L_v Tb_ok (v := .int _ _) (av rfl ⟨trivial, trivial⟩) rfl ?_
        refine WL_nil ?_
        refine W_ret ?_
        refine ends (l := [.int _ _, .int _ _, .int _ _]) (q := .tup [.int _ _, .int _ _, .int _ _]) (.inr rfl) rfl ⟨trivial, trivial, trivial, trivial⟩ rfl rfl ?_
        by_cases p : spanH s w < 0 ∨ spanW s w < 0 <;> cases hb : shapeB s <;> cases hw : windowB w <;> first
        | (exfalso; simp_all [shapeE]; done)
        | (simp [outE, outH, outW, hb, hw, p, shapeE]; done)
        | (simp [outE, outH, outW, hb, hw, p, shapeE]; simp [spanH, spanW, w64]; done)
        | (exfalso; simp [spanH, spanW, w64] at p h49; omega)
      · refine W_skip ?_
        refine W_seq ?_
        refine W_draw 13 Tb_mixed rfl (by decide) (by kernel_rfl) (by kernel_rfl) ?_
        refine E_v Tb_ok (v := .int _ _) (av rfl ⟨trivial, trivial⟩) rfl ?_
        refine E_v Tb_ok (v := .ptr _ _ _) (av rfl ⟨trivial, trivial⟩) rfl ?_
        refine E_v Tb_ok (v := .int _ _) (av rfl ⟨trivial, rfl⟩) rfl ?_
        refine E_v Tb_ok (v := .int _ _) (av rfl ⟨trivial, (by exact (step_ne (by simpa using h21)).1)⟩) rfl ?_
        refine E_v Tb_ok (v := .int _ _) (av rfl ⟨trivial, trivial⟩) rfl ?_
        refine E_v Tb_ok (v := .int _ _) (av rfl ⟨trivial, trivial⟩) rfl ?_
        refine E_v Tb_ok (v := .ptr _ _ _) (av rfl ⟨trivial, trivial⟩) rfl ?_
        refine E_v Tb_ok (v := .int _ _) (av rfl ⟨trivial, rfl⟩) rfl ?_
        refine E_v Tb_ok (v := .int _ _) (av rfl ⟨trivial, (by exact (step_ne (by simpa using h21)).2)⟩) rfl ?_
        refine E_v Tb_ok (v := .int _ _) (av rfl ⟨trivial, trivial⟩) rfl ?_
        refine E_v Tb_ok (v := .int _ _) (av rfl ⟨trivial, trivial⟩) rfl ?_
        refine E_v Tb_ok (v := .int _ _) (av rfl ⟨trivial, trivial⟩) rfl ?_
        refine E_v Tb_ok (v := .int _ _) (av rfl ⟨trivial, trivial⟩) rfl ?_
        refine LexE_nil ?_
        refine WL_nil ?_
        refine W_ret ?_
        refine ends (l := [.int _ _, .int _ _, .int _ _]) (q := .tup [.int _ _, .int _ _, .int _ _]) (.inr rfl) rfl ⟨trivial, trivial, trivial, trivial⟩ rfl rfl ?_
        by_cases p : spanH s w < 0 ∨ spanW s w < 0 <;> cases hb : shapeB s <;> cases hw : windowB w <;> first
        | (exfalso; simp_all [shapeE]; done)
        | (simp [outE, outH, outW, hb, hw, p, shapeE]; done)
        | (simp [outE, outH, outW, hb, hw, p, shapeE]; simp [spanH, spanW, w64]; done)
        | (exfalso; simp [spanH, spanW, w64] at p h49; omega)
theorem fixq_Valid (s : Scale) : Ok Try.prog 79 [.agg (scaleC s)] (.bool (inB s.Mult 1 2147483647 && inB s.Shift 0 62)) := by
  refine fn_ok Tb_ok (fn := Try.f79) Try.func79 rfl rfl (e := [(0, _)]) rfl (by decide) rfl ?_
  refine W_seq ?_
  refine W_region rfl ?_
  refine L_box Tb_ok (cs := [.int _ _, .int _ _]) (n := 2) rfl rfl rfl rfl trivial ?_
  refine L_v Tb_ok (v := .bool _) (av rfl ⟨trivial, trivial⟩) rfl ?_
  refine WL_nil ?_
  refine W_seq ?_
  refine W_region rfl ?_
  refine L_v Tb_ok (v := .ptr _ _ _) (av rfl ⟨trivial, trivial⟩) rfl ?_
  refine L_v Tb_ok (v := .int _ _) (av rfl ⟨trivial, rfl⟩) rfl ?_
  refine L_v Tb_ok (v := .bool _) (av rfl ⟨trivial, trivial⟩) rfl ?_
  refine L_v Tb_ok (v := .bool _) (av rfl ⟨trivial, trivial⟩) rfl ?_
  refine L_g Tb_ok (v := .ptr _ _ _) rfl rfl ((fun hg => (av rfl ⟨trivial, trivial⟩))) rfl rfl ?_
  refine L_g Tb_ok (v := .int _ _) rfl rfl ((fun hg => (av rfl ⟨⟨⟨(by first | exact hg | (simp_all; done) | (simp at hg ⊢; simp [hg])), True.intro⟩, True.intro⟩, rfl⟩))) rfl rfl ?_
  refine L_g Tb_ok (v := .bool _) rfl rfl ((fun hg => (av rfl ⟨⟨⟨(by first | exact hg | (simp_all; done) | (simp at hg ⊢; simp [hg])), True.intro⟩, True.intro⟩, trivial⟩))) rfl rfl ?_
  refine L_v Tb_ok (v := .bool _) (av rfl (by refine ⟨?_, fun h => ?_, fun h => ?_⟩ <;> first | exact True.intro | exact ⟨h, True.intro⟩ | (refine ⟨?_, True.intro⟩; first | (rw [h]; done) | (rw [h]; rfl) | (simp [h]; done) | (simp at h hg ⊢; simp [h, hg]; done) | (simp_all; done) | (simp_all; omega)))) rfl ?_
  refine L_v Tb_ok (v := .bool _) (av rfl ⟨trivial, trivial⟩) rfl ?_
  refine L_g Tb_ok (v := .ptr _ _ _) rfl rfl ((fun hg => (av rfl ⟨trivial, trivial⟩))) rfl rfl ?_
  refine L_g Tb_ok (v := .int _ _) rfl rfl ((fun hg => (av rfl ⟨⟨⟨(by first | exact hg | (simp_all; done) | (simp at hg ⊢; simp [hg])), True.intro⟩, True.intro⟩, rfl⟩))) rfl rfl ?_
  refine L_g Tb_ok (v := .bool _) rfl rfl ((fun hg => (av rfl ⟨⟨⟨(by first | exact hg | (simp_all; done) | (simp at hg ⊢; simp [hg])), True.intro⟩, True.intro⟩, trivial⟩))) rfl rfl ?_
  refine L_v Tb_ok (v := .bool _) (av rfl (by refine ⟨?_, fun h => ?_, fun h => ?_⟩ <;> first | exact True.intro | exact ⟨h, True.intro⟩ | (refine ⟨?_, True.intro⟩; first | (rw [h]; done) | (rw [h]; rfl) | (simp [h]; done) | (simp at h hg ⊢; simp [h, hg]; done) | (simp_all; done) | (simp_all; omega)))) rfl ?_
  refine L_v Tb_ok (v := .bool _) (av rfl ⟨trivial, trivial⟩) rfl ?_
  refine L_g Tb_ok (v := .ptr _ _ _) rfl rfl ((fun hg => (av rfl ⟨trivial, trivial⟩))) rfl rfl ?_
  refine L_g Tb_ok (v := .int _ _) rfl rfl ((fun hg => (av rfl ⟨⟨⟨(by first | exact hg | (simp_all; done) | (simp at hg ⊢; simp [hg])), True.intro⟩, True.intro⟩, rfl⟩))) rfl rfl ?_
  refine L_g Tb_ok (v := .bool _) rfl rfl ((fun hg => (av rfl ⟨⟨⟨(by first | exact hg | (simp_all; done) | (simp at hg ⊢; simp [hg])), True.intro⟩, True.intro⟩, trivial⟩))) rfl rfl ?_
  refine L_v Tb_ok (v := .bool _) (av rfl (by refine ⟨?_, fun h => ?_, fun h => ?_⟩ <;> first | exact True.intro | exact ⟨h, True.intro⟩ | (refine ⟨?_, True.intro⟩; first | (rw [h]; done) | (rw [h]; rfl) | (simp [h]; done) | (simp at h hg ⊢; simp [h, hg]; done) | (simp_all; done) | (simp_all; omega)))) rfl ?_
  refine L_v Tb_ok (v := .bool _) (av rfl ⟨trivial, trivial⟩) rfl ?_
  refine WL_nil ?_
  refine W_ret ?_
  refine ends (l := [.bool _]) (q := .bool _) (.inr rfl) rfl ⟨trivial, trivial⟩ rfl rfl ?_
  simp [inB]; by_cases a : 0 < s.Mult <;> by_cases b : s.Mult < 2147483648 <;> simp [a, b] <;> omega
theorem ref02_Valid (a b : Int) : Ok Try.prog 68 [.int .i64 a, .int .i64 b] (.bool (inB a 1 2147483647 && inB b 0 62)) := by
  refine fn_ok Tb_ok (fn := Try.f68) Try.func68 rfl rfl (e := [(0, _), (1, _)]) rfl (by decide) rfl ?_
  refine W_seq ?_
  refine W_region rfl ?_
  refine L_v Tb_ok (v := .bool _) (av rfl ⟨trivial, trivial⟩) rfl ?_
  refine WL_nil ?_
  refine W_seq ?_
  refine W_region rfl ?_
  refine L_v Tb_ok (v := .int _ _) (av rfl ⟨trivial, trivial⟩) rfl ?_
  refine L_v Tb_ok (v := .bool _) (av rfl ⟨trivial, trivial⟩) rfl ?_
  refine L_v Tb_ok (v := .bool _) (av rfl ⟨trivial, trivial⟩) rfl ?_
  refine L_g Tb_ok (v := .int _ _) rfl rfl ((fun hg => (av rfl ⟨trivial, trivial⟩))) rfl rfl ?_
  refine L_g Tb_ok (v := .bool _) rfl rfl ((fun hg => (av rfl ⟨⟨⟨(by first | exact hg | (simp_all; done) | (simp at hg ⊢; simp [hg])), True.intro⟩, True.intro⟩, trivial⟩))) rfl rfl ?_
  refine L_v Tb_ok (v := .bool _) (av rfl (by refine ⟨?_, fun h => ?_, fun h => ?_⟩ <;> first | exact True.intro | exact ⟨h, True.intro⟩ | (refine ⟨?_, True.intro⟩; first | (rw [h]; done) | (rw [h]; rfl) | (simp [h]; done) | (simp at h hg ⊢; simp [h, hg]; done) | (simp_all; done) | (simp_all; omega)))) rfl ?_
  refine L_v Tb_ok (v := .bool _) (av rfl ⟨trivial, trivial⟩) rfl ?_
  refine L_g Tb_ok (v := .int _ _) rfl rfl ((fun hg => (av rfl ⟨trivial, trivial⟩))) rfl rfl ?_
  refine L_g Tb_ok (v := .bool _) rfl rfl ((fun hg => (av rfl ⟨⟨⟨(by first | exact hg | (simp_all; done) | (simp at hg ⊢; simp [hg])), True.intro⟩, True.intro⟩, trivial⟩))) rfl rfl ?_
  refine L_v Tb_ok (v := .bool _) (av rfl (by refine ⟨?_, fun h => ?_, fun h => ?_⟩ <;> first | exact True.intro | exact ⟨h, True.intro⟩ | (refine ⟨?_, True.intro⟩; first | (rw [h]; done) | (rw [h]; rfl) | (simp [h]; done) | (simp at h hg ⊢; simp [h, hg]; done) | (simp_all; done) | (simp_all; omega)))) rfl ?_
  refine L_v Tb_ok (v := .bool _) (av rfl ⟨trivial, trivial⟩) rfl ?_
  refine L_g Tb_ok (v := .int _ _) rfl rfl ((fun hg => (av rfl ⟨trivial, trivial⟩))) rfl rfl ?_
  refine L_g Tb_ok (v := .bool _) rfl rfl ((fun hg => (av rfl ⟨⟨⟨(by first | exact hg | (simp_all; done) | (simp at hg ⊢; simp [hg])), True.intro⟩, True.intro⟩, trivial⟩))) rfl rfl ?_
  refine L_v Tb_ok (v := .bool _) (av rfl (by refine ⟨?_, fun h => ?_, fun h => ?_⟩ <;> first | exact True.intro | exact ⟨h, True.intro⟩ | (refine ⟨?_, True.intro⟩; first | (rw [h]; done) | (rw [h]; rfl) | (simp [h]; done) | (simp at h hg ⊢; simp [h, hg]; done) | (simp_all; done) | (simp_all; omega)))) rfl ?_
  refine L_v Tb_ok (v := .bool _) (av rfl ⟨trivial, trivial⟩) rfl ?_
  refine WL_nil ?_
  refine W_ret ?_
  refine ends (l := [.bool _]) (q := .bool _) (.inr rfl) rfl ⟨trivial, trivial⟩ rfl rfl ?_
  simp [inB, Bool.and_assoc]
theorem ref08_Weighs (n : Int) : Ok Try.prog 73 [.int .i64 n] (.bool (inB n 1 3)) := by
  refine fn_ok Tb_ok (fn := Try.f73) Try.func73 rfl rfl (e := [(0, _)]) rfl (by decide) rfl ?_
  refine W_seq ?_
  refine W_region rfl ?_
  refine L_v Tb_ok (v := .bool _) (av rfl ⟨trivial, trivial⟩) rfl ?_
  refine WL_nil ?_
  refine W_seq ?_
  refine W_region rfl ?_
  refine L_v Tb_ok (v := .int _ _) (av rfl ⟨trivial, trivial⟩) rfl ?_
  refine L_v Tb_ok (v := .bool _) (av rfl ⟨trivial, trivial⟩) rfl ?_
  refine L_v Tb_ok (v := .bool _) (av rfl ⟨trivial, trivial⟩) rfl ?_
  refine L_g Tb_ok (v := .int _ _) rfl rfl ((fun hg => (av rfl ⟨trivial, trivial⟩))) rfl rfl ?_
  refine L_g Tb_ok (v := .bool _) rfl rfl ((fun hg => (av rfl ⟨⟨⟨(by first | exact hg | (simp_all; done) | (simp at hg ⊢; simp [hg])), True.intro⟩, True.intro⟩, trivial⟩))) rfl rfl ?_
  refine L_v Tb_ok (v := .bool _) (av rfl (by refine ⟨?_, fun h => ?_, fun h => ?_⟩ <;> first | exact True.intro | exact ⟨h, True.intro⟩ | (refine ⟨?_, True.intro⟩; first | (rw [h]; done) | (rw [h]; rfl) | (simp [h]; done) | (simp at h hg ⊢; simp [h, hg]; done) | (simp_all; done) | (simp_all; omega)))) rfl ?_
  refine L_v Tb_ok (v := .bool _) (av rfl ⟨trivial, trivial⟩) rfl ?_
  refine WL_nil ?_
  refine W_ret ?_
  refine ends (l := [.bool _]) (q := .bool _) (.inr rfl) rfl ⟨trivial, trivial⟩ rfl rfl ?_
  simp [inB]
theorem ref08_Slides (n : Int) : Ok Try.prog 74 [.int .i64 n] (.bool (inB n 2 5)) := by
  refine fn_ok Tb_ok (fn := Try.f74) Try.func74 rfl rfl (e := [(0, _)]) rfl (by decide) rfl ?_
  refine W_seq ?_
  refine W_region rfl ?_
  refine L_v Tb_ok (v := .bool _) (av rfl ⟨trivial, trivial⟩) rfl ?_
  refine WL_nil ?_
  refine W_seq ?_
  refine W_region rfl ?_
  refine L_v Tb_ok (v := .int _ _) (av rfl ⟨trivial, trivial⟩) rfl ?_
  refine L_v Tb_ok (v := .bool _) (av rfl ⟨trivial, trivial⟩) rfl ?_
  refine L_v Tb_ok (v := .bool _) (av rfl ⟨trivial, trivial⟩) rfl ?_
  refine L_g Tb_ok (v := .int _ _) rfl rfl ((fun hg => (av rfl ⟨trivial, trivial⟩))) rfl rfl ?_
  refine L_g Tb_ok (v := .bool _) rfl rfl ((fun hg => (av rfl ⟨⟨⟨(by first | exact hg | (simp_all; done) | (simp at hg ⊢; simp [hg])), True.intro⟩, True.intro⟩, trivial⟩))) rfl rfl ?_
  refine L_v Tb_ok (v := .bool _) (av rfl (by refine ⟨?_, fun h => ?_, fun h => ?_⟩ <;> first | exact True.intro | exact ⟨h, True.intro⟩ | (refine ⟨?_, True.intro⟩; first | (rw [h]; done) | (rw [h]; rfl) | (simp [h]; done) | (simp at h hg ⊢; simp [h, hg]; done) | (simp_all; done) | (simp_all; omega)))) rfl ?_
  refine L_v Tb_ok (v := .bool _) (av rfl ⟨trivial, trivial⟩) rfl ?_
  refine WL_nil ?_
  refine W_ret ?_
  refine ends (l := [.bool _]) (q := .bool _) (.inr rfl) rfl ⟨trivial, trivial⟩ rfl rfl ?_
  simp [inB]
def scalesB (n : Int) : Bool := inB n 1 3 || n == 6 || n == 7
theorem ref08_Scales (n : Int) : Ok Try.prog 67 [.int .i64 n] (.bool (scalesB n)) := by
  refine fn_ok Tb_ok (fn := Try.f67) Try.func67 rfl rfl (e := [(0, _)]) rfl (by decide) rfl ?_
  refine W_seq ?_
  refine W_region rfl ?_
  refine L_v Tb_ok (v := .bool _) (av rfl ⟨trivial, trivial⟩) rfl ?_
  refine WL_nil ?_
  refine W_seq ?_
  refine W_region rfl ?_
  refine L_v Tb_ok (v := .int _ _) (av rfl ⟨trivial, trivial⟩) rfl ?_
  refine L_v Tb_ok (v := .bool _) (av rfl ⟨trivial, trivial⟩) rfl ?_
  refine L_v Tb_ok (v := .bool _) (av rfl ⟨trivial, trivial⟩) rfl ?_
  refine L_g Tb_ok (v := .int _ _) rfl rfl ((fun hg => (av rfl ⟨trivial, trivial⟩))) rfl rfl ?_
  refine L_g Tb_ok (v := .bool _) rfl rfl ((fun hg => (av rfl ⟨⟨⟨(by first | exact hg | (simp_all; done) | (simp at hg ⊢; simp [hg])), True.intro⟩, True.intro⟩, trivial⟩))) rfl rfl ?_
  refine L_v Tb_ok (v := .bool _) (av rfl (by refine ⟨?_, fun h => ?_, fun h => ?_⟩ <;> first | exact True.intro | exact ⟨h, True.intro⟩ | (refine ⟨?_, True.intro⟩; first | (rw [h]; done) | (rw [h]; rfl) | (simp [h]; done) | (simp at h hg ⊢; simp [h, hg]; done) | (simp_all; done) | (simp_all; omega)))) rfl ?_
  refine L_v Tb_ok (v := .bool _) (av rfl ⟨trivial, trivial⟩) rfl ?_
  refine L_g Tb_ok (v := .int _ _) rfl rfl ((fun hg => (av rfl ⟨trivial, trivial⟩))) rfl rfl ?_
  refine L_g Tb_ok (v := .bool _) rfl rfl ((fun hg => (av rfl ⟨⟨⟨(by first | exact hg | (simp_all; done) | (simp at hg ⊢; simp [hg])), True.intro⟩, True.intro⟩, trivial⟩))) rfl rfl ?_
  refine L_v Tb_ok (v := .bool _) (av rfl (by refine ⟨?_, fun h => ?_, fun h => ?_⟩ <;> first | exact True.intro | exact ⟨h, True.intro⟩ | (refine ⟨?_, True.intro⟩; first | (rw [h]; done) | (rw [h]; rfl) | (simp [h]; done) | (simp at h hg ⊢; simp [h, hg]; done) | (simp_all; done) | (simp_all; omega)))) rfl ?_
  refine L_v Tb_ok (v := .bool _) (av rfl ⟨trivial, trivial⟩) rfl ?_
  refine L_g Tb_ok (v := .int _ _) rfl rfl ((fun hg => (av rfl ⟨trivial, trivial⟩))) rfl rfl ?_
  refine L_g Tb_ok (v := .bool _) rfl rfl ((fun hg => (av rfl ⟨⟨⟨(by first | exact hg | (simp_all; done) | (simp at hg ⊢; simp [hg])), True.intro⟩, True.intro⟩, trivial⟩))) rfl rfl ?_
  refine L_v Tb_ok (v := .bool _) (av rfl (by refine ⟨?_, fun h => ?_, fun h => ?_⟩ <;> first | exact True.intro | exact ⟨h, True.intro⟩ | (refine ⟨?_, True.intro⟩; first | (rw [h]; done) | (rw [h]; rfl) | (simp [h]; done) | (simp at h hg ⊢; simp [h, hg]; done) | (simp_all; done) | (simp_all; omega)))) rfl ?_
  refine L_v Tb_ok (v := .bool _) (av rfl ⟨trivial, trivial⟩) rfl ?_
  refine WL_nil ?_
  refine W_ret ?_
  refine ends (l := [.bool _]) (q := .bool _) (.inr rfl) rfl ⟨trivial, trivial⟩ rfl rfl ?_
  (simp_all [scalesB, inB]; done)
/-- how many terms each sum has -/
def lenF (o : MOp) (a : Shape) : Int := bif o.Kind == 1 then w64 (w64 (a.H * a.W) * a.C) else bif o.Kind == 2 then w64 (w64 (o.Win.KH * o.Win.KW) * a.C) else w64 (o.Win.KH * o.Win.KW)
theorem ref08_Length (o : MOp) (a : Shape) : Ok Try.prog 38 [.agg (opC o), .agg (shapeC a)] (.int .i64 (lenF o a)) := by
  refine fn_ok Tb_ok (fn := Try.f38) Try.func38 rfl rfl (e := [(0, _), (1, _)]) rfl (by decide) rfl ?_
  refine W_seq ?_
  refine W_region rfl ?_
  refine L_box Tb_ok (cs := [.int _ _, .int _ _, .int _ _, .int _ _, .int _ _, .int _ _, .int _ _, .int _ _, .int _ _, .int _ _, .int _ _, .int _ _, _, _, .int _ _, .int _ _, .int _ _, .int _ _, .int _ _, .int _ _, .int _ _, .int _ _]) (n := 22) rfl rfl rfl rfl trivial ?_
  refine L_box Tb_ok (cs := [.int _ _, .int _ _, .int _ _]) (n := 3) rfl rfl rfl rfl trivial ?_
  refine L_v Tb_ok (v := .int _ _) (av rfl ⟨trivial, trivial⟩) rfl ?_
  refine WL_nil ?_
  refine W_seq ?_
  refine W_seq ?_
  refine W_region rfl ?_
  refine L_v Tb_ok (v := .ptr _ _ _) (av rfl ⟨trivial, trivial⟩) rfl ?_
  refine L_v Tb_ok (v := .int _ _) (av rfl ⟨trivial, rfl⟩) rfl ?_
  refine WL_nil ?_
  refine W_block ?_
  refine W_seq ?_
  refine W_region rfl ?_
  refine L_v Tb_ok (v := .bool _) (av rfl ⟨trivial, trivial⟩) rfl ?_
  refine L_v Tb_ok (v := .bool _) (av rfl ⟨trivial, trivial⟩) rfl ?_
  refine WL_nil ?_
  refine W_cond (b := _) rfl (fun h7 => ?_) (fun h7 => ?_)
  · refine W_seq ?_
    refine W_region rfl ?_
    refine L_v Tb_ok (v := .ptr _ _ _) (av rfl ⟨trivial, trivial⟩) rfl ?_
    refine L_v Tb_ok (v := .int _ _) (av rfl ⟨trivial, rfl⟩) rfl ?_
    refine L_v Tb_ok (v := .ptr _ _ _) (av rfl ⟨trivial, trivial⟩) rfl ?_
    refine L_v Tb_ok (v := .int _ _) (av rfl ⟨trivial, rfl⟩) rfl ?_
    refine L_v Tb_ok (v := .int _ _) (av rfl ⟨trivial, trivial⟩) rfl ?_
    refine L_v Tb_ok (v := .ptr _ _ _) (av rfl ⟨trivial, trivial⟩) rfl ?_
    refine L_v Tb_ok (v := .int _ _) (av rfl ⟨trivial, rfl⟩) rfl ?_
    refine L_v Tb_ok (v := .int _ _) (av rfl ⟨trivial, trivial⟩) rfl ?_
    refine L_v Tb_ok (v := .int _ _) (av rfl ⟨trivial, trivial⟩) rfl ?_
    refine WL_nil ?_
    refine W_ret ?_
    refine ends (l := [.int _ _]) (q := .int _ _) (.inr rfl) rfl ⟨trivial, trivial⟩ rfl rfl ?_
    simp_all [lenF, w64, Bool.cond_eq_ite]
  · refine W_seq ?_
    refine W_region rfl ?_
    refine L_v Tb_ok (v := .bool _) (av rfl ⟨trivial, trivial⟩) rfl ?_
    refine L_v Tb_ok (v := .bool _) (av rfl ⟨trivial, trivial⟩) rfl ?_
    refine WL_nil ?_
    refine W_cond (b := _) rfl (fun h17 => ?_) (fun h17 => ?_)
    · refine W_seq ?_
      refine W_region rfl ?_
      refine L_v Tb_ok (v := .ptr _ _ _) (av rfl ⟨trivial, trivial⟩) rfl ?_
      refine L_v Tb_ok (v := .ptr _ _ _) (av rfl ⟨trivial, trivial⟩) rfl ?_
      refine L_v Tb_ok (v := .int _ _) (av rfl ⟨trivial, rfl⟩) rfl ?_
      refine L_v Tb_ok (v := .ptr _ _ _) (av rfl ⟨trivial, trivial⟩) rfl ?_
      refine L_v Tb_ok (v := .ptr _ _ _) (av rfl ⟨trivial, trivial⟩) rfl ?_
      refine L_v Tb_ok (v := .int _ _) (av rfl ⟨trivial, rfl⟩) rfl ?_
      refine L_v Tb_ok (v := .int _ _) (av rfl ⟨trivial, trivial⟩) rfl ?_
      refine L_v Tb_ok (v := .ptr _ _ _) (av rfl ⟨trivial, trivial⟩) rfl ?_
      refine L_v Tb_ok (v := .int _ _) (av rfl ⟨trivial, rfl⟩) rfl ?_
      refine L_v Tb_ok (v := .int _ _) (av rfl ⟨trivial, trivial⟩) rfl ?_
      refine L_v Tb_ok (v := .int _ _) (av rfl ⟨trivial, trivial⟩) rfl ?_
      refine WL_nil ?_
      refine W_ret ?_
      refine ends (l := [.int _ _]) (q := .int _ _) (.inr rfl) rfl ⟨trivial, trivial⟩ rfl rfl ?_
      simp_all [lenF, w64, Bool.cond_eq_ite]
    · refine W_skip ?_
      refine W_seq ?_
      refine W_region rfl ?_
      refine L_v Tb_ok (v := .ptr _ _ _) (av rfl ⟨trivial, trivial⟩) rfl ?_
      refine L_v Tb_ok (v := .ptr _ _ _) (av rfl ⟨trivial, trivial⟩) rfl ?_
      refine L_v Tb_ok (v := .int _ _) (av rfl ⟨trivial, rfl⟩) rfl ?_
      refine L_v Tb_ok (v := .ptr _ _ _) (av rfl ⟨trivial, trivial⟩) rfl ?_
      refine L_v Tb_ok (v := .ptr _ _ _) (av rfl ⟨trivial, trivial⟩) rfl ?_
      refine L_v Tb_ok (v := .int _ _) (av rfl ⟨trivial, rfl⟩) rfl ?_
      refine L_v Tb_ok (v := .int _ _) (av rfl ⟨trivial, trivial⟩) rfl ?_
      refine L_v Tb_ok (v := .int _ _) (av rfl ⟨trivial, trivial⟩) rfl ?_
      refine WL_nil ?_
      refine W_ret ?_
      refine ends (l := [.int _ _]) (q := .int _ _) (.inr rfl) rfl ⟨trivial, trivial⟩ rfl rfl ?_
      simp_all [lenF, w64, Bool.cond_eq_ite]
def labF (o : MOp) (a t : Shape) : Int := bif inB o.Kind 1 4 then w64 (elems t * lenF o a) else bif o.Kind == 5 then w64 (w64 (elems t * o.Win.KH) * o.Win.KW) else elems t
theorem ref08_Labour (o : MOp) (a t : Shape) : Ok Try.prog 52 [.agg (opC o), .agg (shapeC a), .agg (shapeC t)] (.int .i64 (labF o a t)) := by
  refine fn_ok Tb_ok (fn := Try.f52) Try.func52 rfl rfl (e := [(0, _), (1, _), (2, _)]) rfl (by decide) rfl ?_
  refine W_seq ?_
  refine W_region rfl ?_
  refine L_box Tb_ok (cs := [.int _ _, .int _ _, .int _ _, .int _ _, .int _ _, .int _ _, .int _ _, .int _ _, .int _ _, .int _ _, .int _ _, .int _ _, _, _, .int _ _, .int _ _, .int _ _, .int _ _, .int _ _, .int _ _, .int _ _, .int _ _]) (n := 22) rfl rfl rfl rfl trivial ?_
  refine L_box Tb_ok (cs := [.int _ _, .int _ _, .int _ _]) (n := 3) rfl rfl rfl rfl trivial ?_
  refine L_box Tb_ok (cs := [.int _ _, .int _ _, .int _ _]) (n := 3) rfl rfl rfl rfl trivial ?_
  refine L_v Tb_ok (v := .int _ _) (av rfl ⟨trivial, trivial⟩) rfl ?_
  refine WL_nil ?_
  refine W_seq ?_
  refine W_region rfl ?_
  refine L_v Tb_ok (v := .ptr _ _ _) (av rfl ⟨trivial, trivial⟩) rfl ?_
  refine L_v Tb_ok (v := .int _ _) (av rfl ⟨trivial, rfl⟩) rfl ?_
  refine L_v Tb_ok (v := .ptr _ _ _) (av rfl ⟨trivial, trivial⟩) rfl ?_
  refine L_v Tb_ok (v := .int _ _) (av rfl ⟨trivial, rfl⟩) rfl ?_
  refine L_v Tb_ok (v := .int _ _) (av rfl ⟨trivial, trivial⟩) rfl ?_
  refine L_v Tb_ok (v := .ptr _ _ _) (av rfl ⟨trivial, trivial⟩) rfl ?_
  refine L_v Tb_ok (v := .int _ _) (av rfl ⟨trivial, rfl⟩) rfl ?_
  refine L_v Tb_ok (v := .int _ _) (av rfl ⟨trivial, trivial⟩) rfl ?_
  refine L_v Tb_ok (v := .int _ _) (av rfl ⟨trivial, trivial⟩) rfl ?_
  refine WL_nil ?_
  refine W_seq ?_
  refine W_seq ?_
  refine W_region rfl ?_
  refine L_v Tb_ok (v := .ptr _ _ _) (av rfl ⟨trivial, trivial⟩) rfl ?_
  refine L_v Tb_ok (v := .int _ _) (av rfl ⟨trivial, rfl⟩) rfl ?_
  refine L_call (hr := ref08_Reduces _) rfl rfl trivial rfl rfl ?_
  refine WL_nil ?_
  refine W_cond (b := _) rfl (fun h18 => ?_) (fun h18 => ?_)
  · refine W_seq ?_
    refine W_region rfl ?_
    refine L_v Tb_ok (v := .int _ _) (av rfl ⟨trivial, trivial⟩) rfl ?_
    refine L_v Tb_ok (v := .agg [.int _ _, .int _ _, .int _ _, .int _ _, .int _ _, .int _ _, .int _ _, .int _ _, .int _ _, .int _ _, .int _ _, .int _ _, _, _, .int _ _, .int _ _, .int _ _, .int _ _, .int _ _, .int _ _, .int _ _, .int _ _]) (av rfl ⟨trivial, rfl⟩) rfl ?_
    refine L_v Tb_ok (v := .agg [.int _ _, .int _ _, .int _ _]) (av rfl ⟨trivial, rfl⟩) rfl ?_
    refine L_call (hr := ref08_Length o a) rfl rfl trivial rfl rfl ?_
    refine L_v Tb_ok (v := .int _ _) (av rfl ⟨trivial, trivial⟩) rfl ?_
    refine L_v Tb_ok (v := .int _ _) (av rfl ⟨trivial, trivial⟩) rfl ?_
    refine WL_nil ?_
    refine W_ret ?_
    refine ends (l := [.int _ _]) (q := .int _ _) (.inr rfl) rfl ⟨trivial, trivial⟩ rfl rfl ?_
    simp_all [labF, w64, elems, Bool.cond_eq_ite]
  · refine W_skip ?_
    refine W_seq ?_
    refine W_seq ?_
    refine W_region rfl ?_
    refine L_v Tb_ok (v := .ptr _ _ _) (av rfl ⟨trivial, trivial⟩) rfl ?_
    refine L_v Tb_ok (v := .int _ _) (av rfl ⟨trivial, rfl⟩) rfl ?_
    refine L_v Tb_ok (v := .bool _) (av rfl ⟨trivial, trivial⟩) rfl ?_
    refine WL_nil ?_
    refine W_cond (b := _) rfl (fun h26 => ?_) (fun h26 => ?_)
    · refine W_seq ?_
      refine W_region rfl ?_
      refine L_v Tb_ok (v := .int _ _) (av rfl ⟨trivial, trivial⟩) rfl ?_
      refine L_v Tb_ok (v := .ptr _ _ _) (av rfl ⟨trivial, trivial⟩) rfl ?_
      refine L_v Tb_ok (v := .ptr _ _ _) (av rfl ⟨trivial, trivial⟩) rfl ?_
      refine L_v Tb_ok (v := .int _ _) (av rfl ⟨trivial, rfl⟩) rfl ?_
      refine L_v Tb_ok (v := .int _ _) (av rfl ⟨trivial, trivial⟩) rfl ?_
      refine L_v Tb_ok (v := .ptr _ _ _) (av rfl ⟨trivial, trivial⟩) rfl ?_
      refine L_v Tb_ok (v := .ptr _ _ _) (av rfl ⟨trivial, trivial⟩) rfl ?_
      refine L_v Tb_ok (v := .int _ _) (av rfl ⟨trivial, rfl⟩) rfl ?_
      refine L_v Tb_ok (v := .int _ _) (av rfl ⟨trivial, trivial⟩) rfl ?_
      refine L_v Tb_ok (v := .int _ _) (av rfl ⟨trivial, trivial⟩) rfl ?_
      refine WL_nil ?_
      refine W_ret ?_
      refine ends (l := [.int _ _]) (q := .int _ _) (.inr rfl) rfl ⟨trivial, trivial⟩ rfl rfl ?_
      simp_all [labF, w64, elems, Bool.cond_eq_ite]
    · refine W_skip ?_
      refine W_seq ?_
      refine W_region rfl ?_
      refine L_v Tb_ok (v := .int _ _) (av rfl ⟨trivial, trivial⟩) rfl ?_
      refine L_v Tb_ok (v := .int _ _) (av rfl ⟨trivial, trivial⟩) rfl ?_
      refine WL_nil ?_
      refine W_ret ?_
      refine ends (l := [.int _ _]) (q := .int _ _) (.inr rfl) rfl ⟨trivial, trivial⟩ rfl rfl ?_
      simp_all [labF, w64, elems, Bool.cond_eq_ite]
def listW (o : MOp) (a : Shape) : Int := bif o.Kind == 1 || o.Kind == 2 then w64 (o.M * lenF o a) else bif o.Kind == 3 then w64 (a.C * lenF o a) else 0
def listB (o : MOp) (a : Shape) : Int := bif o.Kind == 1 || o.Kind == 2 then o.M else bif o.Kind == 3 then a.C else 0
theorem ref08_Lists (o : MOp) (a : Shape) : Ok Try.prog 66 [.agg (opC o), .agg (shapeC a)] (.tup [.int .i64 (listW o a), .int .i64 (listB o a)]) := by
  refine fn_ok Tb_ok (fn := Try.f66) Try.func66 rfl rfl (e := [(0, _), (1, _)]) rfl (by decide) rfl ?_
  refine W_seq ?_
  refine W_region rfl ?_
  refine L_box Tb_ok (cs := [.int _ _, .int _ _, .int _ _, .int _ _, .int _ _, .int _ _, .int _ _, .int _ _, .int _ _, .int _ _, .int _ _, .int _ _, _, _, .int _ _, .int _ _, .int _ _, .int _ _, .int _ _, .int _ _, .int _ _, .int _ _]) (n := 22) rfl rfl rfl rfl trivial ?_
  refine L_box Tb_ok (cs := [.int _ _, .int _ _, .int _ _]) (n := 3) rfl rfl rfl rfl trivial ?_
  refine L_v Tb_ok (v := .int _ _) (av rfl ⟨trivial, trivial⟩) rfl ?_
  refine L_v Tb_ok (v := .int _ _) (av rfl ⟨trivial, trivial⟩) rfl ?_
  refine WL_nil ?_
  refine W_seq ?_
  refine W_seq ?_
  refine W_region rfl ?_
  refine L_v Tb_ok (v := .ptr _ _ _) (av rfl ⟨trivial, trivial⟩) rfl ?_
  refine L_v Tb_ok (v := .int _ _) (av rfl ⟨trivial, rfl⟩) rfl ?_
  refine WL_nil ?_
  refine W_block ?_
  refine W_seq ?_
  refine W_seq ?_
  refine W_region rfl ?_
  refine L_v Tb_ok (v := .bool _) (av rfl ⟨trivial, trivial⟩) rfl ?_
  refine L_v Tb_ok (v := .bool _) (av rfl ⟨trivial, trivial⟩) rfl ?_
  refine WL_nil ?_
  refine W_cond (b := _) rfl (fun h8 => ?_) (fun h8 => ?_)
  · refine W_skip ?_
    refine W_cond (b := _) rfl (fun h8_1 => ?_) (fun h8_1 => ?_)
    · refine W_seq ?_
      refine W_draw 10 Tb_mixed rfl (by decide) (by kernel_rfl) (by kernel_rfl) ?_
      refine E_v Tb_ok (v := .ptr _ _ _) (av rfl ⟨trivial, trivial⟩) rfl ?_
      refine E_v Tb_ok (v := .int _ _) (av rfl ⟨trivial, rfl⟩) rfl ?_
      refine E_v Tb_ok (v := .agg [.int _ _, .int _ _, .int _ _, .int _ _, .int _ _, .int _ _, .int _ _, .int _ _, .int _ _, .int _ _, .int _ _, .int _ _, _, _, .int _ _, .int _ _, .int _ _, .int _ _, .int _ _, .int _ _, .int _ _, .int _ _]) (av rfl ⟨trivial, rfl⟩) rfl ?_
      refine E_v Tb_ok (v := .agg [.int _ _, .int _ _, .int _ _]) (av rfl ⟨trivial, rfl⟩) rfl ?_
      refine E_call (hr := ref08_Length o a) rfl rfl trivial rfl rfl ?_
      refine E_v Tb_ok (v := .int _ _) (av rfl ⟨trivial, trivial⟩) rfl ?_
      refine E_v Tb_ok (v := .ptr _ _ _) (av rfl ⟨trivial, trivial⟩) rfl ?_
      refine E_v Tb_ok (v := .int _ _) (av rfl ⟨trivial, rfl⟩) rfl ?_
      refine E_v Tb_ok (v := .int _ _) (av rfl ⟨trivial, trivial⟩) rfl ?_
      refine E_v Tb_ok (v := .int _ _) (av rfl ⟨trivial, trivial⟩) rfl ?_
      refine LexE_nil ?_
      refine WL_nil ?_
      refine W_ret ?_
      refine ends (l := [.int _ _, .int _ _]) (q := .tup [.int _ _, .int _ _]) (.inr rfl) rfl ⟨trivial, trivial, trivial⟩ rfl rfl ?_
      by_cases k1 : o.Kind = 1 <;> simp_all [listW, listB, w64, Bool.cond_eq_ite]
    · refine W_seq ?_
      refine W_region rfl ?_
      refine L_v Tb_ok (v := .bool _) (av rfl ⟨trivial, trivial⟩) rfl ?_
      refine L_v Tb_ok (v := .bool _) (av rfl ⟨trivial, trivial⟩) rfl ?_
      refine WL_nil ?_
      refine W_cond (b := _) rfl (fun h19 => ?_) (fun h19 => ?_)
      · refine W_seq ?_
        refine W_draw 10 Tb_mixed rfl (by decide) (by kernel_rfl) (by kernel_rfl) ?_
        refine E_v Tb_ok (v := .ptr _ _ _) (av rfl ⟨trivial, trivial⟩) rfl ?_
        refine E_v Tb_ok (v := .int _ _) (av rfl ⟨trivial, rfl⟩) rfl ?_
        refine E_v Tb_ok (v := .agg [.int _ _, .int _ _, .int _ _, .int _ _, .int _ _, .int _ _, .int _ _, .int _ _, .int _ _, .int _ _, .int _ _, .int _ _, _, _, .int _ _, .int _ _, .int _ _, .int _ _, .int _ _, .int _ _, .int _ _, .int _ _]) (av rfl ⟨trivial, rfl⟩) rfl ?_
        refine E_v Tb_ok (v := .agg [.int _ _, .int _ _, .int _ _]) (av rfl ⟨trivial, rfl⟩) rfl ?_
        refine E_call (hr := ref08_Length o a) rfl rfl trivial rfl rfl ?_
        refine E_v Tb_ok (v := .int _ _) (av rfl ⟨trivial, trivial⟩) rfl ?_
        refine E_v Tb_ok (v := .ptr _ _ _) (av rfl ⟨trivial, trivial⟩) rfl ?_
        refine E_v Tb_ok (v := .int _ _) (av rfl ⟨trivial, rfl⟩) rfl ?_
        refine E_v Tb_ok (v := .int _ _) (av rfl ⟨trivial, trivial⟩) rfl ?_
        refine E_v Tb_ok (v := .int _ _) (av rfl ⟨trivial, trivial⟩) rfl ?_
        refine LexE_nil ?_
        refine WL_nil ?_
        refine W_ret ?_
        refine ends (l := [.int _ _, .int _ _]) (q := .tup [.int _ _, .int _ _]) (.inr rfl) rfl ⟨trivial, trivial, trivial⟩ rfl rfl ?_
        by_cases k1 : o.Kind = 1 <;> simp_all [listW, listB, w64, Bool.cond_eq_ite]
      · refine W_skip ?_
        refine W_seq ?_
        refine W_region rfl ?_
        refine L_v Tb_ok (v := .int _ _) (av rfl ⟨trivial, trivial⟩) rfl ?_
        refine L_v Tb_ok (v := .int _ _) (av rfl ⟨trivial, trivial⟩) rfl ?_
        refine WL_nil ?_
        refine W_ret ?_
        refine ends (l := [.int _ _, .int _ _]) (q := .tup [.int _ _, .int _ _]) (.inr rfl) rfl ⟨trivial, trivial, trivial⟩ rfl rfl ?_
        by_cases k1 : o.Kind = 1 <;> simp_all [listW, listB, w64, Bool.cond_eq_ite]
  · refine W_region rfl ?_
    refine L_v Tb_ok (v := .bool _) (av rfl ⟨trivial, trivial⟩) rfl ?_
    refine L_v Tb_ok (v := .bool _) (av rfl ⟨trivial, trivial⟩) rfl ?_
    refine WL_nil ?_
    refine W_cond (b := _) rfl (fun h8_2 => ?_) (fun h8_2 => ?_)
    · refine W_seq ?_
      refine W_draw 10 Tb_mixed rfl (by decide) (by kernel_rfl) (by kernel_rfl) ?_
      refine E_v Tb_ok (v := .ptr _ _ _) (av rfl ⟨trivial, trivial⟩) rfl ?_
      refine E_v Tb_ok (v := .int _ _) (av rfl ⟨trivial, rfl⟩) rfl ?_
      refine E_v Tb_ok (v := .agg [.int _ _, .int _ _, .int _ _, .int _ _, .int _ _, .int _ _, .int _ _, .int _ _, .int _ _, .int _ _, .int _ _, .int _ _, _, _, .int _ _, .int _ _, .int _ _, .int _ _, .int _ _, .int _ _, .int _ _, .int _ _]) (av rfl ⟨trivial, rfl⟩) rfl ?_
      refine E_v Tb_ok (v := .agg [.int _ _, .int _ _, .int _ _]) (av rfl ⟨trivial, rfl⟩) rfl ?_
      refine E_call (hr := ref08_Length o a) rfl rfl trivial rfl rfl ?_
      refine E_v Tb_ok (v := .int _ _) (av rfl ⟨trivial, trivial⟩) rfl ?_
      refine E_v Tb_ok (v := .ptr _ _ _) (av rfl ⟨trivial, trivial⟩) rfl ?_
      refine E_v Tb_ok (v := .int _ _) (av rfl ⟨trivial, rfl⟩) rfl ?_
      refine E_v Tb_ok (v := .int _ _) (av rfl ⟨trivial, trivial⟩) rfl ?_
      refine E_v Tb_ok (v := .int _ _) (av rfl ⟨trivial, trivial⟩) rfl ?_
      refine LexE_nil ?_
      refine WL_nil ?_
      refine W_ret ?_
      refine ends (l := [.int _ _, .int _ _]) (q := .tup [.int _ _, .int _ _]) (.inr rfl) rfl ⟨trivial, trivial, trivial⟩ rfl rfl ?_
      by_cases k1 : o.Kind = 1 <;> simp_all [listW, listB, w64, Bool.cond_eq_ite]
    · refine W_seq ?_
      refine W_region rfl ?_
      refine L_v Tb_ok (v := .bool _) (av rfl ⟨trivial, trivial⟩) rfl ?_
      refine L_v Tb_ok (v := .bool _) (av rfl ⟨trivial, trivial⟩) rfl ?_
      refine WL_nil ?_
      refine W_cond (b := _) rfl (fun h19_1 => ?_) (fun h19_1 => ?_)
      · refine W_seq ?_
        refine W_draw 10 Tb_mixed rfl (by decide) (by kernel_rfl) (by kernel_rfl) ?_
        refine E_v Tb_ok (v := .ptr _ _ _) (av rfl ⟨trivial, trivial⟩) rfl ?_
        refine E_v Tb_ok (v := .int _ _) (av rfl ⟨trivial, rfl⟩) rfl ?_
        refine E_v Tb_ok (v := .agg [.int _ _, .int _ _, .int _ _, .int _ _, .int _ _, .int _ _, .int _ _, .int _ _, .int _ _, .int _ _, .int _ _, .int _ _, _, _, .int _ _, .int _ _, .int _ _, .int _ _, .int _ _, .int _ _, .int _ _, .int _ _]) (av rfl ⟨trivial, rfl⟩) rfl ?_
        refine E_v Tb_ok (v := .agg [.int _ _, .int _ _, .int _ _]) (av rfl ⟨trivial, rfl⟩) rfl ?_
        refine E_call (hr := ref08_Length o a) rfl rfl trivial rfl rfl ?_
        refine E_v Tb_ok (v := .int _ _) (av rfl ⟨trivial, trivial⟩) rfl ?_
        refine E_v Tb_ok (v := .ptr _ _ _) (av rfl ⟨trivial, trivial⟩) rfl ?_
        refine E_v Tb_ok (v := .int _ _) (av rfl ⟨trivial, rfl⟩) rfl ?_
        refine E_v Tb_ok (v := .int _ _) (av rfl ⟨trivial, trivial⟩) rfl ?_
        refine E_v Tb_ok (v := .int _ _) (av rfl ⟨trivial, trivial⟩) rfl ?_
        refine LexE_nil ?_
        refine WL_nil ?_
        refine W_ret ?_
        refine ends (l := [.int _ _, .int _ _]) (q := .tup [.int _ _, .int _ _]) (.inr rfl) rfl ⟨trivial, trivial, trivial⟩ rfl rfl ?_
        by_cases k1 : o.Kind = 1 <;> simp_all [listW, listB, w64, Bool.cond_eq_ite]
      · refine W_skip ?_
        refine W_seq ?_
        refine W_region rfl ?_
        refine L_v Tb_ok (v := .int _ _) (av rfl ⟨trivial, trivial⟩) rfl ?_
        refine L_v Tb_ok (v := .int _ _) (av rfl ⟨trivial, trivial⟩) rfl ?_
        refine WL_nil ?_
        refine W_ret ?_
        refine ends (l := [.int _ _, .int _ _]) (q := .tup [.int _ _, .int _ _]) (.inr rfl) rfl ⟨trivial, trivial, trivial⟩ rfl rfl ?_
        by_cases k1 : o.Kind = 1 <;> simp_all [listW, listB, w64, Bool.cond_eq_ite]
end Go.AM
end
section
open Go Go.AM Go.Proofs
set_option maxRecDepth 10000
set_option linter.unusedVariables false
set_option linter.unusedSimpArgs false
namespace Go.AM
structure Uses where
  (b m win pads weights sa sb pad : Bool)
  deriving DecidableEq, Inhabited
def usesC (u : Uses) : List AV := [.bool u.b, .bool u.m, .bool u.win, .bool u.pads, .bool u.weights, .bool u.sa, .bool u.sb, .bool u.pad]
def ofU (k : Int) : Uses :=
  if k = 1 then ⟨false, true, false, false, true, true, false, false⟩ else if k = 2 then ⟨false, true, true, true, true, true, false, true⟩ else if k = 3 then ⟨false, false, true, true, true, true, false, true⟩
  else if k = 4 then ⟨false, false, true, false, false, false, false, false⟩ else if k = 5 then ⟨false, false, true, false, false, false, false, false⟩ else if k = 6 then ⟨true, false, false, false, false, true, true, false⟩
  else if k = 7 then ⟨false, false, false, false, false, true, false, false⟩ else ⟨false, false, false, false, false, false, false, false⟩
theorem model_of (n : Int) : Ok Try.prog 75 [.int .i64 n] (.tup [.agg (usesC (ofU n)), .bool (inB n 1 8)]) := by
  refine fn_ok Tb_ok (fn := Try.f75) Try.func75 rfl rfl (e := [(0, _)]) rfl (by decide) rfl ?_
  refine W_seq ?_
  refine W_region rfl ?_
  refine L_alloc Tb_ok (z := [.bool false, .bool false, .bool false, .bool false, .bool false, .bool false, .bool false, .bool false]) (n := 8) rfl rfl rfl rfl rfl ?_
  refine L_v Tb_ok (v := .bool _) (av rfl ⟨trivial, trivial⟩) rfl ?_
  refine WL_nil ?_
  refine W_seq ?_
  refine W_seq ?_
  refine W_region rfl ?_
  refine L_v Tb_ok (v := .int _ _) (av rfl ⟨trivial, trivial⟩) rfl ?_
  refine WL_nil ?_
  refine W_block ?_
  refine W_seq ?_
  refine W_region rfl ?_
  refine L_v Tb_ok (v := .bool _) (av rfl ⟨trivial, trivial⟩) rfl ?_
  refine L_v Tb_ok (v := .bool _) (av rfl ⟨trivial, trivial⟩) rfl ?_
  refine WL_nil ?_
  refine W_cond (b := _) rfl (fun h5 => ?_) (fun h5 => ?_)
  · refine W_seq ?_
    refine W_region rfl ?_
    refine L_v Tb_ok (v := .agg [.bool _, .bool _, .bool _, .bool _, .bool _, .bool _, .bool _, .bool _]) (av rfl ⟨trivial, rfl⟩) rfl ?_
    refine L_store Tb_ok (v := .agg [.bool _, .bool _, .bool _, .bool _, .bool _, .bool _, .bool _, .bool _]) (cs := [_, _, _, _, _, _, _, _]) (es' := [[_, _, _, _, _, _, _, _]]) rfl rfl rfl rfl rfl rfl rfl rfl rfl rfl ⟨trivial, trivial⟩ ?_
    refine L_v Tb_ok (v := .bool _) (av rfl ⟨trivial, trivial⟩) rfl ?_
    refine WL_nil ?_
    refine W_ret ?_
    refine ends (l := [.agg [.bool _, .bool _, .bool _, .bool _, .bool _, .bool _, .bool _, .bool _], .bool _]) (q := .tup [.agg [.bool _, .bool _, .bool _, .bool _, .bool _, .bool _, .bool _, .bool _], .bool _]) (.inr rfl) rfl ⟨rfl, trivial, trivial⟩ rfl rfl ?_
    simp_all [usesC, ofU, inB]; try omega
  · refine W_seq ?_
    refine W_region rfl ?_
    refine L_v Tb_ok (v := .bool _) (av rfl ⟨trivial, trivial⟩) rfl ?_
    refine L_v Tb_ok (v := .bool _) (av rfl ⟨trivial, trivial⟩) rfl ?_
    refine WL_nil ?_
    refine W_cond (b := _) rfl (fun h8 => ?_) (fun h8 => ?_)
    · refine W_seq ?_
      refine W_region rfl ?_
      refine L_v Tb_ok (v := .agg [.bool _, .bool _, .bool _, .bool _, .bool _, .bool _, .bool _, .bool _]) (av rfl ⟨trivial, rfl⟩) rfl ?_
      refine L_store Tb_ok (v := .agg [.bool _, .bool _, .bool _, .bool _, .bool _, .bool _, .bool _, .bool _]) (cs := [_, _, _, _, _, _, _, _]) (es' := [[_, _, _, _, _, _, _, _]]) rfl rfl rfl rfl rfl rfl rfl rfl rfl rfl ⟨trivial, trivial⟩ ?_
      refine L_v Tb_ok (v := .bool _) (av rfl ⟨trivial, trivial⟩) rfl ?_
      refine WL_nil ?_
      refine W_ret ?_
      refine ends (l := [.agg [.bool _, .bool _, .bool _, .bool _, .bool _, .bool _, .bool _, .bool _], .bool _]) (q := .tup [.agg [.bool _, .bool _, .bool _, .bool _, .bool _, .bool _, .bool _, .bool _], .bool _]) (.inr rfl) rfl ⟨rfl, trivial, trivial⟩ rfl rfl ?_
      simp_all [usesC, ofU, inB]; try omega
    · refine W_seq ?_
      refine W_region rfl ?_
      refine L_v Tb_ok (v := .bool _) (av rfl ⟨trivial, trivial⟩) rfl ?_
      refine L_v Tb_ok (v := .bool _) (av rfl ⟨trivial, trivial⟩) rfl ?_
      refine WL_nil ?_
      refine W_cond (b := _) rfl (fun h11 => ?_) (fun h11 => ?_)
      · refine W_seq ?_
        refine W_region rfl ?_
        refine L_v Tb_ok (v := .agg [.bool _, .bool _, .bool _, .bool _, .bool _, .bool _, .bool _, .bool _]) (av rfl ⟨trivial, rfl⟩) rfl ?_
        refine L_store Tb_ok (v := .agg [.bool _, .bool _, .bool _, .bool _, .bool _, .bool _, .bool _, .bool _]) (cs := [_, _, _, _, _, _, _, _]) (es' := [[_, _, _, _, _, _, _, _]]) rfl rfl rfl rfl rfl rfl rfl rfl rfl rfl ⟨trivial, trivial⟩ ?_
        refine L_v Tb_ok (v := .bool _) (av rfl ⟨trivial, trivial⟩) rfl ?_
        refine WL_nil ?_
        refine W_ret ?_
        refine ends (l := [.agg [.bool _, .bool _, .bool _, .bool _, .bool _, .bool _, .bool _, .bool _], .bool _]) (q := .tup [.agg [.bool _, .bool _, .bool _, .bool _, .bool _, .bool _, .bool _, .bool _], .bool _]) (.inr rfl) rfl ⟨rfl, trivial, trivial⟩ rfl rfl ?_
        simp_all [usesC, ofU, inB]; try omega
      · refine W_seq ?_
        refine W_seq ?_
        refine W_region rfl ?_
        refine L_v Tb_ok (v := .bool _) (av rfl ⟨trivial, trivial⟩) rfl ?_
        refine L_v Tb_ok (v := .bool _) (av rfl ⟨trivial, trivial⟩) rfl ?_
        refine WL_nil ?_
        refine W_cond (b := _) rfl (fun h14 => ?_) (fun h14 => ?_)
        · refine W_skip ?_
          refine W_cond (b := _) rfl (fun h14_1 => ?_) (fun h14_1 => ?_)
          · refine W_seq ?_
            refine W_region rfl ?_
            refine L_v Tb_ok (v := .agg [.bool _, .bool _, .bool _, .bool _, .bool _, .bool _, .bool _, .bool _]) (av rfl ⟨trivial, rfl⟩) rfl ?_
            refine L_store Tb_ok (v := .agg [.bool _, .bool _, .bool _, .bool _, .bool _, .bool _, .bool _, .bool _]) (cs := [_, _, _, _, _, _, _, _]) (es' := [[_, _, _, _, _, _, _, _]]) rfl rfl rfl rfl rfl rfl rfl rfl rfl rfl ⟨trivial, trivial⟩ ?_
            refine L_v Tb_ok (v := .bool _) (av rfl ⟨trivial, trivial⟩) rfl ?_
            refine WL_nil ?_
            refine W_ret ?_
            refine ends (l := [.agg [.bool _, .bool _, .bool _, .bool _, .bool _, .bool _, .bool _, .bool _], .bool _]) (q := .tup [.agg [.bool _, .bool _, .bool _, .bool _, .bool _, .bool _, .bool _, .bool _], .bool _]) (.inr rfl) rfl ⟨rfl, trivial, trivial⟩ rfl rfl ?_
            simp_all [usesC, ofU, inB]; try omega
          · refine W_seq ?_
            refine W_region rfl ?_
            refine L_v Tb_ok (v := .bool _) (av rfl ⟨trivial, trivial⟩) rfl ?_
            refine L_v Tb_ok (v := .bool _) (av rfl ⟨trivial, trivial⟩) rfl ?_
            refine WL_nil ?_
            refine W_cond (b := _) rfl (fun h18 => ?_) (fun h18 => ?_)
            · refine W_seq ?_
              refine W_region rfl ?_
              refine L_v Tb_ok (v := .agg [.bool _, .bool _, .bool _, .bool _, .bool _, .bool _, .bool _, .bool _]) (av rfl ⟨trivial, rfl⟩) rfl ?_
              refine L_store Tb_ok (v := .agg [.bool _, .bool _, .bool _, .bool _, .bool _, .bool _, .bool _, .bool _]) (cs := [_, _, _, _, _, _, _, _]) (es' := [[_, _, _, _, _, _, _, _]]) rfl rfl rfl rfl rfl rfl rfl rfl rfl rfl ⟨trivial, trivial⟩ ?_
              refine L_v Tb_ok (v := .bool _) (av rfl ⟨trivial, trivial⟩) rfl ?_
              refine WL_nil ?_
              refine W_ret ?_
              refine ends (l := [.agg [.bool _, .bool _, .bool _, .bool _, .bool _, .bool _, .bool _, .bool _], .bool _]) (q := .tup [.agg [.bool _, .bool _, .bool _, .bool _, .bool _, .bool _, .bool _, .bool _], .bool _]) (.inr rfl) rfl ⟨rfl, trivial, trivial⟩ rfl rfl ?_
              simp_all [usesC, ofU, inB]; try omega
            · refine W_seq ?_
              refine W_region rfl ?_
              refine L_v Tb_ok (v := .bool _) (av rfl ⟨trivial, trivial⟩) rfl ?_
              refine L_v Tb_ok (v := .bool _) (av rfl ⟨trivial, trivial⟩) rfl ?_
              refine WL_nil ?_
              refine W_cond (b := _) rfl (fun h21 => ?_) (fun h21 => ?_)
              · refine W_seq ?_
                refine W_region rfl ?_
                refine L_v Tb_ok (v := .agg [.bool _, .bool _, .bool _, .bool _, .bool _, .bool _, .bool _, .bool _]) (av rfl ⟨trivial, rfl⟩) rfl ?_
                refine L_store Tb_ok (v := .agg [.bool _, .bool _, .bool _, .bool _, .bool _, .bool _, .bool _, .bool _]) (cs := [_, _, _, _, _, _, _, _]) (es' := [[_, _, _, _, _, _, _, _]]) rfl rfl rfl rfl rfl rfl rfl rfl rfl rfl ⟨trivial, trivial⟩ ?_
                refine L_v Tb_ok (v := .bool _) (av rfl ⟨trivial, trivial⟩) rfl ?_
                refine WL_nil ?_
                refine W_ret ?_
                refine ends (l := [.agg [.bool _, .bool _, .bool _, .bool _, .bool _, .bool _, .bool _, .bool _], .bool _]) (q := .tup [.agg [.bool _, .bool _, .bool _, .bool _, .bool _, .bool _, .bool _, .bool _], .bool _]) (.inr rfl) rfl ⟨rfl, trivial, trivial⟩ rfl rfl ?_
                simp_all [usesC, ofU, inB]; try omega
              · refine W_seq ?_
                refine W_region rfl ?_
                refine L_v Tb_ok (v := .bool _) (av rfl ⟨trivial, trivial⟩) rfl ?_
                refine L_v Tb_ok (v := .bool _) (av rfl ⟨trivial, trivial⟩) rfl ?_
                refine WL_nil ?_
                refine W_cond (b := _) rfl (fun h24 => ?_) (fun h24 => ?_)
                · refine W_seq ?_
                  refine W_region rfl ?_
                  refine L_v Tb_ok (v := .agg [.bool _, .bool _, .bool _, .bool _, .bool _, .bool _, .bool _, .bool _]) (av rfl ⟨trivial, rfl⟩) rfl ?_
                  refine L_store Tb_ok (v := .agg [.bool _, .bool _, .bool _, .bool _, .bool _, .bool _, .bool _, .bool _]) (cs := [_, _, _, _, _, _, _, _]) (es' := [[_, _, _, _, _, _, _, _]]) rfl rfl rfl rfl rfl rfl rfl rfl rfl rfl ⟨trivial, trivial⟩ ?_
                  refine L_v Tb_ok (v := .bool _) (av rfl ⟨trivial, trivial⟩) rfl ?_
                  refine WL_nil ?_
                  refine W_ret ?_
                  refine ends (l := [.agg [.bool _, .bool _, .bool _, .bool _, .bool _, .bool _, .bool _, .bool _], .bool _]) (q := .tup [.agg [.bool _, .bool _, .bool _, .bool _, .bool _, .bool _, .bool _, .bool _], .bool _]) (.inr rfl) rfl ⟨rfl, trivial, trivial⟩ rfl rfl ?_
                  simp_all [usesC, ofU, inB]; try omega
                · refine W_skip ?_
                  refine W_seq ?_
                  refine W_region rfl ?_
                  refine L_v Tb_ok (v := .agg [.bool _, .bool _, .bool _, .bool _, .bool _, .bool _, .bool _, .bool _]) (av rfl ⟨trivial, rfl⟩) rfl ?_
                  refine L_store Tb_ok (v := .agg [.bool _, .bool _, .bool _, .bool _, .bool _, .bool _, .bool _, .bool _]) (cs := [_, _, _, _, _, _, _, _]) (es' := [[_, _, _, _, _, _, _, _]]) rfl rfl rfl rfl rfl rfl rfl rfl rfl rfl ⟨trivial, trivial⟩ ?_
                  refine L_v Tb_ok (v := .bool _) (av rfl ⟨trivial, trivial⟩) rfl ?_
                  refine WL_nil ?_
                  refine W_ret ?_
                  refine ends (l := [.agg [.bool _, .bool _, .bool _, .bool _, .bool _, .bool _, .bool _, .bool _], .bool _]) (q := .tup [.agg [.bool _, .bool _, .bool _, .bool _, .bool _, .bool _, .bool _, .bool _], .bool _]) (.inr rfl) rfl ⟨rfl, trivial, trivial⟩ rfl rfl ?_
                  simp_all [usesC, ofU, inB]; try omega
        · refine W_region rfl ?_
          refine L_v Tb_ok (v := .bool _) (av rfl ⟨trivial, trivial⟩) rfl ?_
          refine L_v Tb_ok (v := .bool _) (av rfl ⟨trivial, trivial⟩) rfl ?_
          refine WL_nil ?_
          refine W_cond (b := _) rfl (fun h14_2 => ?_) (fun h14_2 => ?_)
          · refine W_seq ?_
            refine W_region rfl ?_
            refine L_v Tb_ok (v := .agg [.bool _, .bool _, .bool _, .bool _, .bool _, .bool _, .bool _, .bool _]) (av rfl ⟨trivial, rfl⟩) rfl ?_
            refine L_store Tb_ok (v := .agg [.bool _, .bool _, .bool _, .bool _, .bool _, .bool _, .bool _, .bool _]) (cs := [_, _, _, _, _, _, _, _]) (es' := [[_, _, _, _, _, _, _, _]]) rfl rfl rfl rfl rfl rfl rfl rfl rfl rfl ⟨trivial, trivial⟩ ?_
            refine L_v Tb_ok (v := .bool _) (av rfl ⟨trivial, trivial⟩) rfl ?_
            refine WL_nil ?_
            refine W_ret ?_
            refine ends (l := [.agg [.bool _, .bool _, .bool _, .bool _, .bool _, .bool _, .bool _, .bool _], .bool _]) (q := .tup [.agg [.bool _, .bool _, .bool _, .bool _, .bool _, .bool _, .bool _, .bool _], .bool _]) (.inr rfl) rfl ⟨rfl, trivial, trivial⟩ rfl rfl ?_
            simp_all [usesC, ofU, inB]; try omega
          · refine W_seq ?_
            refine W_region rfl ?_
            refine L_v Tb_ok (v := .bool _) (av rfl ⟨trivial, trivial⟩) rfl ?_
            refine L_v Tb_ok (v := .bool _) (av rfl ⟨trivial, trivial⟩) rfl ?_
            refine WL_nil ?_
            refine W_cond (b := _) rfl (fun h18_1 => ?_) (fun h18_1 => ?_)
            · refine W_seq ?_
              refine W_region rfl ?_
              refine L_v Tb_ok (v := .agg [.bool _, .bool _, .bool _, .bool _, .bool _, .bool _, .bool _, .bool _]) (av rfl ⟨trivial, rfl⟩) rfl ?_
              refine L_store Tb_ok (v := .agg [.bool _, .bool _, .bool _, .bool _, .bool _, .bool _, .bool _, .bool _]) (cs := [_, _, _, _, _, _, _, _]) (es' := [[_, _, _, _, _, _, _, _]]) rfl rfl rfl rfl rfl rfl rfl rfl rfl rfl ⟨trivial, trivial⟩ ?_
              refine L_v Tb_ok (v := .bool _) (av rfl ⟨trivial, trivial⟩) rfl ?_
              refine WL_nil ?_
              refine W_ret ?_
              refine ends (l := [.agg [.bool _, .bool _, .bool _, .bool _, .bool _, .bool _, .bool _, .bool _], .bool _]) (q := .tup [.agg [.bool _, .bool _, .bool _, .bool _, .bool _, .bool _, .bool _, .bool _], .bool _]) (.inr rfl) rfl ⟨rfl, trivial, trivial⟩ rfl rfl ?_
              simp_all [usesC, ofU, inB]; try omega
            · refine W_seq ?_
              refine W_region rfl ?_
              refine L_v Tb_ok (v := .bool _) (av rfl ⟨trivial, trivial⟩) rfl ?_
              refine L_v Tb_ok (v := .bool _) (av rfl ⟨trivial, trivial⟩) rfl ?_
              refine WL_nil ?_
              refine W_cond (b := _) rfl (fun h21_1 => ?_) (fun h21_1 => ?_)
              · refine W_seq ?_
                refine W_region rfl ?_
                refine L_v Tb_ok (v := .agg [.bool _, .bool _, .bool _, .bool _, .bool _, .bool _, .bool _, .bool _]) (av rfl ⟨trivial, rfl⟩) rfl ?_
                refine L_store Tb_ok (v := .agg [.bool _, .bool _, .bool _, .bool _, .bool _, .bool _, .bool _, .bool _]) (cs := [_, _, _, _, _, _, _, _]) (es' := [[_, _, _, _, _, _, _, _]]) rfl rfl rfl rfl rfl rfl rfl rfl rfl rfl ⟨trivial, trivial⟩ ?_
                refine L_v Tb_ok (v := .bool _) (av rfl ⟨trivial, trivial⟩) rfl ?_
                refine WL_nil ?_
                refine W_ret ?_
                refine ends (l := [.agg [.bool _, .bool _, .bool _, .bool _, .bool _, .bool _, .bool _, .bool _], .bool _]) (q := .tup [.agg [.bool _, .bool _, .bool _, .bool _, .bool _, .bool _, .bool _, .bool _], .bool _]) (.inr rfl) rfl ⟨rfl, trivial, trivial⟩ rfl rfl ?_
                simp_all [usesC, ofU, inB]; try omega
              · refine W_seq ?_
                refine W_region rfl ?_
                refine L_v Tb_ok (v := .bool _) (av rfl ⟨trivial, trivial⟩) rfl ?_
                refine L_v Tb_ok (v := .bool _) (av rfl ⟨trivial, trivial⟩) rfl ?_
                refine WL_nil ?_
                refine W_cond (b := _) rfl (fun h24_1 => ?_) (fun h24_1 => ?_)
                · refine W_seq ?_
                  refine W_region rfl ?_
                  refine L_v Tb_ok (v := .agg [.bool _, .bool _, .bool _, .bool _, .bool _, .bool _, .bool _, .bool _]) (av rfl ⟨trivial, rfl⟩) rfl ?_
                  refine L_store Tb_ok (v := .agg [.bool _, .bool _, .bool _, .bool _, .bool _, .bool _, .bool _, .bool _]) (cs := [_, _, _, _, _, _, _, _]) (es' := [[_, _, _, _, _, _, _, _]]) rfl rfl rfl rfl rfl rfl rfl rfl rfl rfl ⟨trivial, trivial⟩ ?_
                  refine L_v Tb_ok (v := .bool _) (av rfl ⟨trivial, trivial⟩) rfl ?_
                  refine WL_nil ?_
                  refine W_ret ?_
                  refine ends (l := [.agg [.bool _, .bool _, .bool _, .bool _, .bool _, .bool _, .bool _, .bool _], .bool _]) (q := .tup [.agg [.bool _, .bool _, .bool _, .bool _, .bool _, .bool _, .bool _, .bool _], .bool _]) (.inr rfl) rfl ⟨rfl, trivial, trivial⟩ rfl rfl ?_
                  simp_all [usesC, ofU, inB]; try omega
                · refine W_skip ?_
                  refine W_seq ?_
                  refine W_region rfl ?_
                  refine L_v Tb_ok (v := .agg [.bool _, .bool _, .bool _, .bool _, .bool _, .bool _, .bool _, .bool _]) (av rfl ⟨trivial, rfl⟩) rfl ?_
                  refine L_store Tb_ok (v := .agg [.bool _, .bool _, .bool _, .bool _, .bool _, .bool _, .bool _, .bool _]) (cs := [_, _, _, _, _, _, _, _]) (es' := [[_, _, _, _, _, _, _, _]]) rfl rfl rfl rfl rfl rfl rfl rfl rfl rfl ⟨trivial, trivial⟩ ?_
                  refine L_v Tb_ok (v := .bool _) (av rfl ⟨trivial, trivial⟩) rfl ?_
                  refine WL_nil ?_
                  refine W_ret ?_
                  refine ends (l := [.agg [.bool _, .bool _, .bool _, .bool _, .bool _, .bool _, .bool _, .bool _], .bool _]) (q := .tup [.agg [.bool _, .bool _, .bool _, .bool _, .bool _, .bool _, .bool _, .bool _], .bool _]) (.inr rfl) rfl ⟨rfl, trivial, trivial⟩ rfl rfl ?_
                  simp_all [usesC, ofU, inB]; try omega
def bare1 (o : MOp) : MOp := { o with Kind := 0, A := 0, Lo := 0, Hi := 0 }
def bare2 (u : Uses) (o : MOp) : MOp := bif u.b then { bare1 o with B := 0 } else bare1 o
def bare3 (u : Uses) (o : MOp) : MOp := bif u.m then { bare2 u o with M := 0 } else bare2 u o
def bare4 (u : Uses) (o : MOp) : MOp := bif u.win then { bare3 u o with Win := ⟨0, 0, 0, 0, (bare3 u o).Win.Top, (bare3 u o).Win.Left, (bare3 u o).Win.Bottom, (bare3 u o).Win.Right⟩ } else bare3 u o
def bare5 (u : Uses) (o : MOp) : MOp := bif u.pads then { bare4 u o with Win := ⟨0, 0, 0, 0, 0, 0, 0, 0⟩ } else bare4 u o
def bare6 (u : Uses) (o : MOp) : MOp := bif u.weights then { bare5 u o with Weights := [], Bias := [] } else bare5 u o
def bare7 (u : Uses) (o : MOp) : MOp := bif u.sa then { bare6 u o with SA := ⟨0, 0⟩, Zero := 0 } else bare6 u o
def bare8 (u : Uses) (o : MOp) : MOp := bif u.sb then { bare7 u o with SB := ⟨0, 0⟩ } else bare7 u o
def bareF (u : Uses) (o : MOp) : MOp := bif u.pad then { bare8 u o with Pad := 0 } else bare8 u o
theorem model_bare (o : MOp) (u : Uses) : Ok Try.prog 77 [.agg (opC o), .agg (usesC u)] (.agg (opC (bareF u o))) := by
  refine fn_ok Tb_ok (fn := Try.f77) Try.func77 rfl rfl (e := [(0, _), (1, _)]) rfl (by decide) rfl ?_
  refine W_seq ?_
  refine W_region rfl ?_
  refine L_box Tb_ok (cs := [.int _ _, .int _ _, .int _ _, .int _ _, .int _ _, .int _ _, .int _ _, .int _ _, .int _ _, .int _ _, .int _ _, .int _ _, _, _, .int _ _, .int _ _, .int _ _, .int _ _, .int _ _, .int _ _, .int _ _, .int _ _]) (n := 22) rfl rfl rfl rfl trivial ?_
  refine L_box Tb_ok (cs := [.bool _, .bool _, .bool _, .bool _, .bool _, .bool _, .bool _, .bool _]) (n := 8) rfl rfl rfl rfl trivial ?_
  refine L_alloc Tb_ok (z := [.int .i64 0, .int .i64 0, .int .i64 0, .int .i64 0, .int .i64 0, .int .i64 0, .int .i64 0, .int .i64 0, .int .i64 0, .int .i64 0, .int .i64 0, .int .i64 0, .nils, .nils, .int .i64 0, .int .i64 0, .int .i64 0, .int .i64 0, .int .i64 0, .int .i64 0, .int .i64 0, .int .i64 0]) (n := 22) rfl rfl rfl rfl rfl ?_
  refine WL_nil ?_
  refine W_seq ?_
  refine W_region rfl ?_
  refine L_v Tb_ok (v := .ptr _ _ _) (av rfl ⟨trivial, trivial⟩) rfl ?_
  refine L_store Tb_ok (v := .int _ _) (cs := [_]) (es' := [[_, _, _, _, _, _, _, _, _, _, _, _, _, _, _, _, _, _, _, _, _, _]]) rfl rfl rfl rfl rfl rfl rfl rfl rfl rfl ⟨trivial, trivial⟩ ?_
  refine L_v Tb_ok (v := .ptr _ _ _) (av rfl ⟨trivial, trivial⟩) rfl ?_
  refine L_store Tb_ok (v := .int _ _) (cs := [_]) (es' := [[_, _, _, _, _, _, _, _, _, _, _, _, _, _, _, _, _, _, _, _, _, _]]) rfl rfl rfl rfl rfl rfl rfl rfl rfl rfl ⟨trivial, trivial⟩ ?_
  refine L_v Tb_ok (v := .ptr _ _ _) (av rfl ⟨trivial, trivial⟩) rfl ?_
  refine L_store Tb_ok (v := .int _ _) (cs := [_]) (es' := [[_, _, _, _, _, _, _, _, _, _, _, _, _, _, _, _, _, _, _, _, _, _]]) rfl rfl rfl rfl rfl rfl rfl rfl rfl rfl ⟨trivial, trivial⟩ ?_
  refine L_v Tb_ok (v := .ptr _ _ _) (av rfl ⟨trivial, trivial⟩) rfl ?_
  refine L_store Tb_ok (v := .int _ _) (cs := [_]) (es' := [[_, _, _, _, _, _, _, _, _, _, _, _, _, _, _, _, _, _, _, _, _, _]]) rfl rfl rfl rfl rfl rfl rfl rfl rfl rfl ⟨trivial, trivial⟩ ?_
  refine WL_nil ?_
  refine W_seq ?_
  refine W_seq ?_
  refine W_region rfl ?_
  refine L_v Tb_ok (v := .ptr _ _ _) (av rfl ⟨trivial, trivial⟩) rfl ?_
  refine L_v Tb_ok (v := .bool _) (av rfl ⟨trivial, rfl⟩) rfl ?_
  refine WL_nil ?_
  refine W_ift (b := _) (M := ⟨[(2, .ptr 0 0 0), (3, .ptr 1 0 0), (4, .ptr 2 0 0)], [(0, some ⟨40, 22, 0, [opC ((bif u.b then { bare1 o with B := 0 } else bare1 o))]⟩), (1, some ⟨130, 8, 0, [usesC u]⟩), (2, some ⟨40, 22, 0, [[.int .i64 0, .int .i64 0, .int .i64 0, .int .i64 0, .int .i64 0, .int .i64 0, .int .i64 0, .int .i64 0, .int .i64 0, .int .i64 0, .int .i64 0, .int .i64 0, .nils, .nils, .int .i64 0, .int .i64 0, .int .i64 0, .int .i64 0, .int .i64 0, .int .i64 0, .int .i64 0, .int .i64 0]]⟩)], [], 3⟩) (p := True) rfl (fun h11 => ?_) (fun h11 => ?_) (fun m11 => ?_)
  · refine W_region rfl ?_
    refine L_v Tb_ok (v := .ptr _ _ _) (av rfl ⟨trivial, trivial⟩) rfl ?_
    refine L_store Tb_ok (v := .int _ _) (cs := [_]) (es' := [[_, _, _, _, _, _, _, _, _, _, _, _, _, _, _, _, _, _, _, _, _, _]]) rfl rfl rfl rfl rfl rfl rfl rfl rfl rfl ⟨trivial, trivial⟩ ?_
    refine WL_nil ?_
    exact ⟨trivial, le_t (F := fun X => ⟨[(2, .ptr 0 0 0), (3, .ptr 1 0 0), (4, .ptr 2 0 0)], [(0, some ⟨40, 22, 0, [opC (X)]⟩), (1, some ⟨130, 8, 0, [usesC u]⟩), (2, some ⟨40, 22, 0, [[.int .i64 0, .int .i64 0, .int .i64 0, .int .i64 0, .int .i64 0, .int .i64 0, .int .i64 0, .int .i64 0, .int .i64 0, .int .i64 0, .int .i64 0, .int .i64 0, .nils, .nils, .int .i64 0, .int .i64 0, .int .i64 0, .int .i64 0, .int .i64 0, .int .i64 0, .int .i64 0, .int .i64 0]]⟩)], [], 3⟩) (x := { bare1 o with B := 0 }) (y := bare1 o) h11 (le_fit ⟨rfl, rfl, rfl, trivial⟩ ⟨.inr rfl, .inr rfl, .inr rfl, trivial⟩ trivial rfl rfl rfl rfl rfl)⟩
  · refine W_skip ?_
    exact ⟨trivial, le_f (F := fun X => ⟨[(2, .ptr 0 0 0), (3, .ptr 1 0 0), (4, .ptr 2 0 0)], [(0, some ⟨40, 22, 0, [opC (X)]⟩), (1, some ⟨130, 8, 0, [usesC u]⟩), (2, some ⟨40, 22, 0, [[.int .i64 0, .int .i64 0, .int .i64 0, .int .i64 0, .int .i64 0, .int .i64 0, .int .i64 0, .int .i64 0, .int .i64 0, .int .i64 0, .int .i64 0, .int .i64 0, .nils, .nils, .int .i64 0, .int .i64 0, .int .i64 0, .int .i64 0, .int .i64 0, .int .i64 0, .int .i64 0, .int .i64 0]]⟩)], [], 3⟩) (x := { bare1 o with B := 0 }) (y := bare1 o) h11 (le_fit ⟨rfl, rfl, rfl, trivial⟩ ⟨.inr rfl, .inr rfl, .inr rfl, trivial⟩ trivial rfl rfl rfl rfl rfl)⟩
  refine W_seq ?_
  refine W_seq ?_
  refine W_region rfl ?_
  refine L_v Tb_ok (v := .ptr _ _ _) (av rfl ⟨trivial, trivial⟩) rfl ?_
  refine L_v Tb_ok (v := .bool _) (av rfl ⟨trivial, rfl⟩) rfl ?_
  refine WL_nil ?_
  refine W_ift (b := _) (M := ⟨[(2, .ptr 0 0 0), (3, .ptr 1 0 0), (4, .ptr 2 0 0)], [(0, some ⟨40, 22, 0, [opC ((bif u.m then { bare2 u o with M := 0 } else bare2 u o))]⟩), (1, some ⟨130, 8, 0, [usesC u]⟩), (2, some ⟨40, 22, 0, [[.int .i64 0, .int .i64 0, .int .i64 0, .int .i64 0, .int .i64 0, .int .i64 0, .int .i64 0, .int .i64 0, .int .i64 0, .int .i64 0, .int .i64 0, .int .i64 0, .nils, .nils, .int .i64 0, .int .i64 0, .int .i64 0, .int .i64 0, .int .i64 0, .int .i64 0, .int .i64 0, .int .i64 0]]⟩)], [], 3⟩) (p := True) rfl (fun h14 => ?_) (fun h14 => ?_) (fun m14 => ?_)
  · refine W_region rfl ?_
    refine L_v Tb_ok (v := .ptr _ _ _) (av rfl ⟨trivial, trivial⟩) rfl ?_
    refine L_store Tb_ok (v := .int _ _) (cs := [_]) (es' := [[_, _, _, _, _, _, _, _, _, _, _, _, _, _, _, _, _, _, _, _, _, _]]) rfl rfl rfl rfl rfl rfl rfl rfl rfl rfl ⟨trivial, trivial⟩ ?_
    refine WL_nil ?_
    exact ⟨trivial, le_t (F := fun X => ⟨[(2, .ptr 0 0 0), (3, .ptr 1 0 0), (4, .ptr 2 0 0)], [(0, some ⟨40, 22, 0, [opC (X)]⟩), (1, some ⟨130, 8, 0, [usesC u]⟩), (2, some ⟨40, 22, 0, [[.int .i64 0, .int .i64 0, .int .i64 0, .int .i64 0, .int .i64 0, .int .i64 0, .int .i64 0, .int .i64 0, .int .i64 0, .int .i64 0, .int .i64 0, .int .i64 0, .nils, .nils, .int .i64 0, .int .i64 0, .int .i64 0, .int .i64 0, .int .i64 0, .int .i64 0, .int .i64 0, .int .i64 0]]⟩)], [], 3⟩) (x := { bare2 u o with M := 0 }) (y := bare2 u o) h14 (le_fit ⟨rfl, rfl, rfl, trivial⟩ ⟨.inr rfl, .inr rfl, .inr rfl, trivial⟩ trivial rfl rfl rfl rfl rfl)⟩
  · refine W_skip ?_
    exact ⟨trivial, le_f (F := fun X => ⟨[(2, .ptr 0 0 0), (3, .ptr 1 0 0), (4, .ptr 2 0 0)], [(0, some ⟨40, 22, 0, [opC (X)]⟩), (1, some ⟨130, 8, 0, [usesC u]⟩), (2, some ⟨40, 22, 0, [[.int .i64 0, .int .i64 0, .int .i64 0, .int .i64 0, .int .i64 0, .int .i64 0, .int .i64 0, .int .i64 0, .int .i64 0, .int .i64 0, .int .i64 0, .int .i64 0, .nils, .nils, .int .i64 0, .int .i64 0, .int .i64 0, .int .i64 0, .int .i64 0, .int .i64 0, .int .i64 0, .int .i64 0]]⟩)], [], 3⟩) (x := { bare2 u o with M := 0 }) (y := bare2 u o) h14 (le_fit ⟨rfl, rfl, rfl, trivial⟩ ⟨.inr rfl, .inr rfl, .inr rfl, trivial⟩ trivial rfl rfl rfl rfl rfl)⟩
  refine W_seq ?_
  refine W_seq ?_
  refine W_region rfl ?_
  refine L_v Tb_ok (v := .ptr _ _ _) (av rfl ⟨trivial, trivial⟩) rfl ?_
  refine L_v Tb_ok (v := .bool _) (av rfl ⟨trivial, rfl⟩) rfl ?_
  refine WL_nil ?_
  refine W_ift (b := _) (M := ⟨[(2, .ptr 0 0 0), (3, .ptr 1 0 0), (4, .ptr 2 0 0)], [(0, some ⟨40, 22, 0, [opC ((bif u.win then { bare3 u o with Win := ⟨0, 0, 0, 0, (bare3 u o).Win.Top, (bare3 u o).Win.Left, (bare3 u o).Win.Bottom, (bare3 u o).Win.Right⟩ } else bare3 u o))]⟩), (1, some ⟨130, 8, 0, [usesC u]⟩), (2, some ⟨40, 22, 0, [[.int .i64 0, .int .i64 0, .int .i64 0, .int .i64 0, .int .i64 0, .int .i64 0, .int .i64 0, .int .i64 0, .int .i64 0, .int .i64 0, .int .i64 0, .int .i64 0, .nils, .nils, .int .i64 0, .int .i64 0, .int .i64 0, .int .i64 0, .int .i64 0, .int .i64 0, .int .i64 0, .int .i64 0]]⟩)], [], 3⟩) (p := True) rfl (fun h17 => ?_) (fun h17 => ?_) (fun m17 => ?_)
  · refine W_seq ?_
    refine W_region rfl ?_
    refine L_v Tb_ok (v := .ptr _ _ _) (av rfl ⟨trivial, trivial⟩) rfl ?_
    refine L_v Tb_ok (v := .agg [.int _ _, .int _ _, .int _ _, .int _ _, .int _ _, .int _ _, .int _ _, .int _ _]) (av rfl ⟨trivial, rfl⟩) rfl ?_
    refine L_alloc Tb_ok (z := [.int .i64 0, .int .i64 0, .int .i64 0, .int .i64 0, .int .i64 0, .int .i64 0, .int .i64 0, .int .i64 0]) (n := 8) rfl rfl rfl rfl rfl ?_
    refine L_store Tb_ok (v := .agg [.int _ _, .int _ _, .int _ _, .int _ _, .int _ _, .int _ _, .int _ _, .int _ _]) (cs := [_, _, _, _, _, _, _, _]) (es' := [[_, _, _, _, _, _, _, _]]) rfl rfl rfl rfl rfl rfl rfl rfl rfl rfl ⟨trivial, trivial⟩ ?_
    refine WL_nil ?_
    refine W_region rfl ?_
    refine L_v Tb_ok (v := .ptr _ _ _) (av rfl ⟨trivial, trivial⟩) rfl ?_
    refine L_v Tb_ok (v := .int _ _) (av rfl ⟨trivial, rfl⟩) rfl ?_
    refine L_v Tb_ok (v := .ptr _ _ _) (av rfl ⟨trivial, trivial⟩) rfl ?_
    refine L_v Tb_ok (v := .int _ _) (av rfl ⟨trivial, rfl⟩) rfl ?_
    refine L_v Tb_ok (v := .ptr _ _ _) (av rfl ⟨trivial, trivial⟩) rfl ?_
    refine L_v Tb_ok (v := .int _ _) (av rfl ⟨trivial, rfl⟩) rfl ?_
    refine L_v Tb_ok (v := .ptr _ _ _) (av rfl ⟨trivial, trivial⟩) rfl ?_
    refine L_v Tb_ok (v := .int _ _) (av rfl ⟨trivial, rfl⟩) rfl ?_
    refine L_v Tb_ok (v := .agg [.int _ _, .int _ _, .int _ _, .int _ _, .int _ _, .int _ _, .int _ _, .int _ _]) (av rfl ⟨trivial, rfl⟩) rfl ?_
    refine L_v Tb_ok (v := .ptr _ _ _) (av rfl ⟨trivial, trivial⟩) rfl ?_
    refine L_store Tb_ok (v := .agg [.int _ _, .int _ _, .int _ _, .int _ _, .int _ _, .int _ _, .int _ _, .int _ _]) (cs := [_, _, _, _, _, _, _, _]) (es' := [[_, _, _, _, _, _, _, _, _, _, _, _, _, _, _, _, _, _, _, _, _, _]]) rfl rfl rfl rfl rfl rfl rfl rfl rfl rfl ⟨trivial, trivial⟩ ?_
    refine WL_nil ?_
    exact ⟨trivial, le_t (F := fun X => ⟨[(2, .ptr 0 0 0), (3, .ptr 1 0 0), (4, .ptr 2 0 0)], [(0, some ⟨40, 22, 0, [opC (X)]⟩), (1, some ⟨130, 8, 0, [usesC u]⟩), (2, some ⟨40, 22, 0, [[.int .i64 0, .int .i64 0, .int .i64 0, .int .i64 0, .int .i64 0, .int .i64 0, .int .i64 0, .int .i64 0, .int .i64 0, .int .i64 0, .int .i64 0, .int .i64 0, .nils, .nils, .int .i64 0, .int .i64 0, .int .i64 0, .int .i64 0, .int .i64 0, .int .i64 0, .int .i64 0, .int .i64 0]]⟩)], [], 3⟩) (x := { bare3 u o with Win := ⟨0, 0, 0, 0, (bare3 u o).Win.Top, (bare3 u o).Win.Left, (bare3 u o).Win.Bottom, (bare3 u o).Win.Right⟩ }) (y := bare3 u o) h17 (le_fit ⟨rfl, rfl, rfl, trivial⟩ ⟨.inr rfl, .inr rfl, .inr rfl, trivial⟩ trivial rfl rfl rfl rfl rfl)⟩
  · refine W_skip ?_
    exact ⟨trivial, le_f (F := fun X => ⟨[(2, .ptr 0 0 0), (3, .ptr 1 0 0), (4, .ptr 2 0 0)], [(0, some ⟨40, 22, 0, [opC (X)]⟩), (1, some ⟨130, 8, 0, [usesC u]⟩), (2, some ⟨40, 22, 0, [[.int .i64 0, .int .i64 0, .int .i64 0, .int .i64 0, .int .i64 0, .int .i64 0, .int .i64 0, .int .i64 0, .int .i64 0, .int .i64 0, .int .i64 0, .int .i64 0, .nils, .nils, .int .i64 0, .int .i64 0, .int .i64 0, .int .i64 0, .int .i64 0, .int .i64 0, .int .i64 0, .int .i64 0]]⟩)], [], 3⟩) (x := { bare3 u o with Win := ⟨0, 0, 0, 0, (bare3 u o).Win.Top, (bare3 u o).Win.Left, (bare3 u o).Win.Bottom, (bare3 u o).Win.Right⟩ }) (y := bare3 u o) h17 (le_fit ⟨rfl, rfl, rfl, trivial⟩ ⟨.inr rfl, .inr rfl, .inr rfl, trivial⟩ trivial rfl rfl rfl rfl rfl)⟩
  refine W_seq ?_
  refine W_seq ?_
  refine W_region rfl ?_
  refine L_v Tb_ok (v := .ptr _ _ _) (av rfl ⟨trivial, trivial⟩) rfl ?_
  refine L_v Tb_ok (v := .bool _) (av rfl ⟨trivial, rfl⟩) rfl ?_
  refine WL_nil ?_
  refine W_ift (b := _) (M := ⟨[(2, .ptr 0 0 0), (3, .ptr 1 0 0), (4, .ptr 2 0 0)], [(0, some ⟨40, 22, 0, [opC ((bif u.pads then { bare4 u o with Win := ⟨0, 0, 0, 0, 0, 0, 0, 0⟩ } else bare4 u o))]⟩), (1, some ⟨130, 8, 0, [usesC u]⟩), (2, some ⟨40, 22, 0, [[.int .i64 0, .int .i64 0, .int .i64 0, .int .i64 0, .int .i64 0, .int .i64 0, .int .i64 0, .int .i64 0, .int .i64 0, .int .i64 0, .int .i64 0, .int .i64 0, .nils, .nils, .int .i64 0, .int .i64 0, .int .i64 0, .int .i64 0, .int .i64 0, .int .i64 0, .int .i64 0, .int .i64 0]]⟩)], [], 3⟩) (p := True) rfl (fun h31 => ?_) (fun h31 => ?_) (fun m31 => ?_)
  · refine W_region rfl ?_
    refine L_v Tb_ok (v := .agg [.int _ _, .int _ _, .int _ _, .int _ _, .int _ _, .int _ _, .int _ _, .int _ _]) (av rfl ⟨trivial, rfl⟩) rfl ?_
    refine L_v Tb_ok (v := .ptr _ _ _) (av rfl ⟨trivial, trivial⟩) rfl ?_
    refine L_store Tb_ok (v := .agg [.int _ _, .int _ _, .int _ _, .int _ _, .int _ _, .int _ _, .int _ _, .int _ _]) (cs := [_, _, _, _, _, _, _, _]) (es' := [[_, _, _, _, _, _, _, _, _, _, _, _, _, _, _, _, _, _, _, _, _, _]]) rfl rfl rfl rfl rfl rfl rfl rfl rfl rfl ⟨trivial, trivial⟩ ?_
    refine WL_nil ?_
    exact ⟨trivial, le_t (F := fun X => ⟨[(2, .ptr 0 0 0), (3, .ptr 1 0 0), (4, .ptr 2 0 0)], [(0, some ⟨40, 22, 0, [opC (X)]⟩), (1, some ⟨130, 8, 0, [usesC u]⟩), (2, some ⟨40, 22, 0, [[.int .i64 0, .int .i64 0, .int .i64 0, .int .i64 0, .int .i64 0, .int .i64 0, .int .i64 0, .int .i64 0, .int .i64 0, .int .i64 0, .int .i64 0, .int .i64 0, .nils, .nils, .int .i64 0, .int .i64 0, .int .i64 0, .int .i64 0, .int .i64 0, .int .i64 0, .int .i64 0, .int .i64 0]]⟩)], [], 3⟩) (x := { bare4 u o with Win := ⟨0, 0, 0, 0, 0, 0, 0, 0⟩ }) (y := bare4 u o) h31 (le_fit ⟨rfl, rfl, rfl, trivial⟩ ⟨.inr rfl, .inr rfl, .inr rfl, trivial⟩ trivial rfl rfl rfl rfl rfl)⟩
  · refine W_skip ?_
    exact ⟨trivial, le_f (F := fun X => ⟨[(2, .ptr 0 0 0), (3, .ptr 1 0 0), (4, .ptr 2 0 0)], [(0, some ⟨40, 22, 0, [opC (X)]⟩), (1, some ⟨130, 8, 0, [usesC u]⟩), (2, some ⟨40, 22, 0, [[.int .i64 0, .int .i64 0, .int .i64 0, .int .i64 0, .int .i64 0, .int .i64 0, .int .i64 0, .int .i64 0, .int .i64 0, .int .i64 0, .int .i64 0, .int .i64 0, .nils, .nils, .int .i64 0, .int .i64 0, .int .i64 0, .int .i64 0, .int .i64 0, .int .i64 0, .int .i64 0, .int .i64 0]]⟩)], [], 3⟩) (x := { bare4 u o with Win := ⟨0, 0, 0, 0, 0, 0, 0, 0⟩ }) (y := bare4 u o) h31 (le_fit ⟨rfl, rfl, rfl, trivial⟩ ⟨.inr rfl, .inr rfl, .inr rfl, trivial⟩ trivial rfl rfl rfl rfl rfl)⟩
  refine W_seq ?_
  refine W_seq ?_
  refine W_region rfl ?_
  refine L_v Tb_ok (v := .ptr _ _ _) (av rfl ⟨trivial, trivial⟩) rfl ?_
  refine L_v Tb_ok (v := .bool _) (av rfl ⟨trivial, rfl⟩) rfl ?_
  refine WL_nil ?_
  refine W_ift (b := _) (M := ⟨[(2, .ptr 0 0 0), (3, .ptr 1 0 0), (4, .ptr 2 0 0)], [(0, some ⟨40, 22, 0, [opC ((bif u.weights then { bare5 u o with Weights := [], Bias := [] } else bare5 u o))]⟩), (1, some ⟨130, 8, 0, [usesC u]⟩), (2, some ⟨40, 22, 0, [[.int .i64 0, .int .i64 0, .int .i64 0, .int .i64 0, .int .i64 0, .int .i64 0, .int .i64 0, .int .i64 0, .int .i64 0, .int .i64 0, .int .i64 0, .int .i64 0, .nils, .nils, .int .i64 0, .int .i64 0, .int .i64 0, .int .i64 0, .int .i64 0, .int .i64 0, .int .i64 0, .int .i64 0]]⟩)], [], 3⟩) (p := True) rfl (fun h35 => ?_) (fun h35 => ?_) (fun m35 => ?_)
  · refine W_region rfl ?_
    refine L_v Tb_ok (v := .ptr _ _ _) (av rfl ⟨trivial, trivial⟩) rfl ?_
    refine L_store_nil Tb_ok (es' := [[_, _, _, _, _, _, _, _, _, _, _, _, _, _, _, _, _, _, _, _, _, _]]) rfl rfl rfl rfl rfl rfl rfl ⟨trivial, trivial⟩ ?_
    refine L_v Tb_ok (v := .ptr _ _ _) (av rfl ⟨trivial, trivial⟩) rfl ?_
    refine L_store_nil Tb_ok (es' := [[_, _, _, _, _, _, _, _, _, _, _, _, _, _, _, _, _, _, _, _, _, _]]) rfl rfl rfl rfl rfl rfl rfl ⟨trivial, trivial⟩ ?_
    refine WL_nil ?_
    exact ⟨trivial, le_t (F := fun X => ⟨[(2, .ptr 0 0 0), (3, .ptr 1 0 0), (4, .ptr 2 0 0)], [(0, some ⟨40, 22, 0, [opC (X)]⟩), (1, some ⟨130, 8, 0, [usesC u]⟩), (2, some ⟨40, 22, 0, [[.int .i64 0, .int .i64 0, .int .i64 0, .int .i64 0, .int .i64 0, .int .i64 0, .int .i64 0, .int .i64 0, .int .i64 0, .int .i64 0, .int .i64 0, .int .i64 0, .nils, .nils, .int .i64 0, .int .i64 0, .int .i64 0, .int .i64 0, .int .i64 0, .int .i64 0, .int .i64 0, .int .i64 0]]⟩)], [], 3⟩) (x := { bare5 u o with Weights := [], Bias := [] }) (y := bare5 u o) h35 (le_fit ⟨rfl, rfl, rfl, trivial⟩ ⟨.inr rfl, .inr rfl, .inr rfl, trivial⟩ trivial rfl rfl rfl rfl rfl)⟩
  · refine W_skip ?_
    exact ⟨trivial, le_f (F := fun X => ⟨[(2, .ptr 0 0 0), (3, .ptr 1 0 0), (4, .ptr 2 0 0)], [(0, some ⟨40, 22, 0, [opC (X)]⟩), (1, some ⟨130, 8, 0, [usesC u]⟩), (2, some ⟨40, 22, 0, [[.int .i64 0, .int .i64 0, .int .i64 0, .int .i64 0, .int .i64 0, .int .i64 0, .int .i64 0, .int .i64 0, .int .i64 0, .int .i64 0, .int .i64 0, .int .i64 0, .nils, .nils, .int .i64 0, .int .i64 0, .int .i64 0, .int .i64 0, .int .i64 0, .int .i64 0, .int .i64 0, .int .i64 0]]⟩)], [], 3⟩) (x := { bare5 u o with Weights := [], Bias := [] }) (y := bare5 u o) h35 (le_fit ⟨rfl, rfl, rfl, trivial⟩ ⟨.inr rfl, .inr rfl, .inr rfl, trivial⟩ trivial rfl rfl rfl rfl rfl)⟩
  refine W_seq ?_
  refine W_seq ?_
  refine W_region rfl ?_
  refine L_v Tb_ok (v := .ptr _ _ _) (av rfl ⟨trivial, trivial⟩) rfl ?_
  refine L_v Tb_ok (v := .bool _) (av rfl ⟨trivial, rfl⟩) rfl ?_
  refine WL_nil ?_
  refine W_ift (b := _) (M := ⟨[(2, .ptr 0 0 0), (3, .ptr 1 0 0), (4, .ptr 2 0 0)], [(0, some ⟨40, 22, 0, [opC ((bif u.sa then { bare6 u o with SA := ⟨0, 0⟩, Zero := 0 } else bare6 u o))]⟩), (1, some ⟨130, 8, 0, [usesC u]⟩), (2, some ⟨40, 22, 0, [[.int .i64 0, .int .i64 0, .int .i64 0, .int .i64 0, .int .i64 0, .int .i64 0, .int .i64 0, .int .i64 0, .int .i64 0, .int .i64 0, .int .i64 0, .int .i64 0, .nils, .nils, .int .i64 0, .int .i64 0, .int .i64 0, .int .i64 0, .int .i64 0, .int .i64 0, .int .i64 0, .int .i64 0]]⟩)], [], 3⟩) (p := True) rfl (fun h39 => ?_) (fun h39 => ?_) (fun m39 => ?_)
  · refine W_region rfl ?_
    refine L_v Tb_ok (v := .agg [.int _ _, .int _ _]) (av rfl ⟨trivial, rfl⟩) rfl ?_
    refine L_v Tb_ok (v := .ptr _ _ _) (av rfl ⟨trivial, trivial⟩) rfl ?_
    refine L_store Tb_ok (v := .agg [.int _ _, .int _ _]) (cs := [_, _]) (es' := [[_, _, _, _, _, _, _, _, _, _, _, _, _, _, _, _, _, _, _, _, _, _]]) rfl rfl rfl rfl rfl rfl rfl rfl rfl rfl ⟨trivial, trivial⟩ ?_
    refine L_v Tb_ok (v := .ptr _ _ _) (av rfl ⟨trivial, trivial⟩) rfl ?_
    refine L_store Tb_ok (v := .int _ _) (cs := [_]) (es' := [[_, _, _, _, _, _, _, _, _, _, _, _, _, _, _, _, _, _, _, _, _, _]]) rfl rfl rfl rfl rfl rfl rfl rfl rfl rfl ⟨trivial, trivial⟩ ?_
    refine WL_nil ?_
    exact ⟨trivial, le_t (F := fun X => ⟨[(2, .ptr 0 0 0), (3, .ptr 1 0 0), (4, .ptr 2 0 0)], [(0, some ⟨40, 22, 0, [opC (X)]⟩), (1, some ⟨130, 8, 0, [usesC u]⟩), (2, some ⟨40, 22, 0, [[.int .i64 0, .int .i64 0, .int .i64 0, .int .i64 0, .int .i64 0, .int .i64 0, .int .i64 0, .int .i64 0, .int .i64 0, .int .i64 0, .int .i64 0, .int .i64 0, .nils, .nils, .int .i64 0, .int .i64 0, .int .i64 0, .int .i64 0, .int .i64 0, .int .i64 0, .int .i64 0, .int .i64 0]]⟩)], [], 3⟩) (x := { bare6 u o with SA := ⟨0, 0⟩, Zero := 0 }) (y := bare6 u o) h39 (le_fit ⟨rfl, rfl, rfl, trivial⟩ ⟨.inr rfl, .inr rfl, .inr rfl, trivial⟩ trivial rfl rfl rfl rfl rfl)⟩
  · refine W_skip ?_
    exact ⟨trivial, le_f (F := fun X => ⟨[(2, .ptr 0 0 0), (3, .ptr 1 0 0), (4, .ptr 2 0 0)], [(0, some ⟨40, 22, 0, [opC (X)]⟩), (1, some ⟨130, 8, 0, [usesC u]⟩), (2, some ⟨40, 22, 0, [[.int .i64 0, .int .i64 0, .int .i64 0, .int .i64 0, .int .i64 0, .int .i64 0, .int .i64 0, .int .i64 0, .int .i64 0, .int .i64 0, .int .i64 0, .int .i64 0, .nils, .nils, .int .i64 0, .int .i64 0, .int .i64 0, .int .i64 0, .int .i64 0, .int .i64 0, .int .i64 0, .int .i64 0]]⟩)], [], 3⟩) (x := { bare6 u o with SA := ⟨0, 0⟩, Zero := 0 }) (y := bare6 u o) h39 (le_fit ⟨rfl, rfl, rfl, trivial⟩ ⟨.inr rfl, .inr rfl, .inr rfl, trivial⟩ trivial rfl rfl rfl rfl rfl)⟩
  refine W_seq ?_
  refine W_seq ?_
  refine W_region rfl ?_
  refine L_v Tb_ok (v := .ptr _ _ _) (av rfl ⟨trivial, trivial⟩) rfl ?_
  refine L_v Tb_ok (v := .bool _) (av rfl ⟨trivial, rfl⟩) rfl ?_
  refine WL_nil ?_
  refine W_ift (b := _) (M := ⟨[(2, .ptr 0 0 0), (3, .ptr 1 0 0), (4, .ptr 2 0 0)], [(0, some ⟨40, 22, 0, [opC ((bif u.sb then { bare7 u o with SB := ⟨0, 0⟩ } else bare7 u o))]⟩), (1, some ⟨130, 8, 0, [usesC u]⟩), (2, some ⟨40, 22, 0, [[.int .i64 0, .int .i64 0, .int .i64 0, .int .i64 0, .int .i64 0, .int .i64 0, .int .i64 0, .int .i64 0, .int .i64 0, .int .i64 0, .int .i64 0, .int .i64 0, .nils, .nils, .int .i64 0, .int .i64 0, .int .i64 0, .int .i64 0, .int .i64 0, .int .i64 0, .int .i64 0, .int .i64 0]]⟩)], [], 3⟩) (p := True) rfl (fun h44 => ?_) (fun h44 => ?_) (fun m44 => ?_)
  · refine W_region rfl ?_
    refine L_v Tb_ok (v := .agg [.int _ _, .int _ _]) (av rfl ⟨trivial, rfl⟩) rfl ?_
    refine L_v Tb_ok (v := .ptr _ _ _) (av rfl ⟨trivial, trivial⟩) rfl ?_
    refine L_store Tb_ok (v := .agg [.int _ _, .int _ _]) (cs := [_, _]) (es' := [[_, _, _, _, _, _, _, _, _, _, _, _, _, _, _, _, _, _, _, _, _, _]]) rfl rfl rfl rfl rfl rfl rfl rfl rfl rfl ⟨trivial, trivial⟩ ?_
    refine WL_nil ?_
    exact ⟨trivial, le_t (F := fun X => ⟨[(2, .ptr 0 0 0), (3, .ptr 1 0 0), (4, .ptr 2 0 0)], [(0, some ⟨40, 22, 0, [opC (X)]⟩), (1, some ⟨130, 8, 0, [usesC u]⟩), (2, some ⟨40, 22, 0, [[.int .i64 0, .int .i64 0, .int .i64 0, .int .i64 0, .int .i64 0, .int .i64 0, .int .i64 0, .int .i64 0, .int .i64 0, .int .i64 0, .int .i64 0, .int .i64 0, .nils, .nils, .int .i64 0, .int .i64 0, .int .i64 0, .int .i64 0, .int .i64 0, .int .i64 0, .int .i64 0, .int .i64 0]]⟩)], [], 3⟩) (x := { bare7 u o with SB := ⟨0, 0⟩ }) (y := bare7 u o) h44 (le_fit ⟨rfl, rfl, rfl, trivial⟩ ⟨.inr rfl, .inr rfl, .inr rfl, trivial⟩ trivial rfl rfl rfl rfl rfl)⟩
  · refine W_skip ?_
    exact ⟨trivial, le_f (F := fun X => ⟨[(2, .ptr 0 0 0), (3, .ptr 1 0 0), (4, .ptr 2 0 0)], [(0, some ⟨40, 22, 0, [opC (X)]⟩), (1, some ⟨130, 8, 0, [usesC u]⟩), (2, some ⟨40, 22, 0, [[.int .i64 0, .int .i64 0, .int .i64 0, .int .i64 0, .int .i64 0, .int .i64 0, .int .i64 0, .int .i64 0, .int .i64 0, .int .i64 0, .int .i64 0, .int .i64 0, .nils, .nils, .int .i64 0, .int .i64 0, .int .i64 0, .int .i64 0, .int .i64 0, .int .i64 0, .int .i64 0, .int .i64 0]]⟩)], [], 3⟩) (x := { bare7 u o with SB := ⟨0, 0⟩ }) (y := bare7 u o) h44 (le_fit ⟨rfl, rfl, rfl, trivial⟩ ⟨.inr rfl, .inr rfl, .inr rfl, trivial⟩ trivial rfl rfl rfl rfl rfl)⟩
  refine W_seq ?_
  refine W_seq ?_
  refine W_region rfl ?_
  refine L_v Tb_ok (v := .ptr _ _ _) (av rfl ⟨trivial, trivial⟩) rfl ?_
  refine L_v Tb_ok (v := .bool _) (av rfl ⟨trivial, rfl⟩) rfl ?_
  refine WL_nil ?_
  refine W_ift (b := _) (M := ⟨[(2, .ptr 0 0 0), (3, .ptr 1 0 0), (4, .ptr 2 0 0)], [(0, some ⟨40, 22, 0, [opC ((bif u.pad then { bare8 u o with Pad := 0 } else bare8 u o))]⟩), (1, some ⟨130, 8, 0, [usesC u]⟩), (2, some ⟨40, 22, 0, [[.int .i64 0, .int .i64 0, .int .i64 0, .int .i64 0, .int .i64 0, .int .i64 0, .int .i64 0, .int .i64 0, .int .i64 0, .int .i64 0, .int .i64 0, .int .i64 0, .nils, .nils, .int .i64 0, .int .i64 0, .int .i64 0, .int .i64 0, .int .i64 0, .int .i64 0, .int .i64 0, .int .i64 0]]⟩)], [], 3⟩) (p := True) rfl (fun h48 => ?_) (fun h48 => ?_) (fun m48 => ?_)
  · refine W_region rfl ?_
    refine L_v Tb_ok (v := .ptr _ _ _) (av rfl ⟨trivial, trivial⟩) rfl ?_
    refine L_store Tb_ok (v := .int _ _) (cs := [_]) (es' := [[_, _, _, _, _, _, _, _, _, _, _, _, _, _, _, _, _, _, _, _, _, _]]) rfl rfl rfl rfl rfl rfl rfl rfl rfl rfl ⟨trivial, trivial⟩ ?_
    refine WL_nil ?_
    exact ⟨trivial, le_t (F := fun X => ⟨[(2, .ptr 0 0 0), (3, .ptr 1 0 0), (4, .ptr 2 0 0)], [(0, some ⟨40, 22, 0, [opC (X)]⟩), (1, some ⟨130, 8, 0, [usesC u]⟩), (2, some ⟨40, 22, 0, [[.int .i64 0, .int .i64 0, .int .i64 0, .int .i64 0, .int .i64 0, .int .i64 0, .int .i64 0, .int .i64 0, .int .i64 0, .int .i64 0, .int .i64 0, .int .i64 0, .nils, .nils, .int .i64 0, .int .i64 0, .int .i64 0, .int .i64 0, .int .i64 0, .int .i64 0, .int .i64 0, .int .i64 0]]⟩)], [], 3⟩) (x := { bare8 u o with Pad := 0 }) (y := bare8 u o) h48 (le_fit ⟨rfl, rfl, rfl, trivial⟩ ⟨.inr rfl, .inr rfl, .inr rfl, trivial⟩ trivial rfl rfl rfl rfl rfl)⟩
  · refine W_skip ?_
    exact ⟨trivial, le_f (F := fun X => ⟨[(2, .ptr 0 0 0), (3, .ptr 1 0 0), (4, .ptr 2 0 0)], [(0, some ⟨40, 22, 0, [opC (X)]⟩), (1, some ⟨130, 8, 0, [usesC u]⟩), (2, some ⟨40, 22, 0, [[.int .i64 0, .int .i64 0, .int .i64 0, .int .i64 0, .int .i64 0, .int .i64 0, .int .i64 0, .int .i64 0, .int .i64 0, .int .i64 0, .int .i64 0, .int .i64 0, .nils, .nils, .int .i64 0, .int .i64 0, .int .i64 0, .int .i64 0, .int .i64 0, .int .i64 0, .int .i64 0, .int .i64 0]]⟩)], [], 3⟩) (x := { bare8 u o with Pad := 0 }) (y := bare8 u o) h48 (le_fit ⟨rfl, rfl, rfl, trivial⟩ ⟨.inr rfl, .inr rfl, .inr rfl, trivial⟩ trivial rfl rfl rfl rfl rfl)⟩
  refine W_seq ?_
  refine W_region rfl ?_
  refine L_v Tb_ok (v := .agg [.int _ _, .int _ _, .int _ _, .int _ _, .int _ _, .int _ _, .int _ _, .int _ _, .int _ _, .int _ _, .int _ _, .int _ _, _, _, .int _ _, .int _ _, .int _ _, .int _ _, .int _ _, .int _ _, .int _ _, .int _ _]) (av rfl ⟨trivial, rfl⟩) rfl ?_
  refine L_store Tb_ok (v := .agg [.int _ _, .int _ _, .int _ _, .int _ _, .int _ _, .int _ _, .int _ _, .int _ _, .int _ _, .int _ _, .int _ _, .int _ _, _, _, .int _ _, .int _ _, .int _ _, .int _ _, .int _ _, .int _ _, .int _ _, .int _ _]) (cs := [_, _, _, _, _, _, _, _, _, _, _, _, _, _, _, _, _, _, _, _, _, _]) (es' := [[_, _, _, _, _, _, _, _, _, _, _, _, _, _, _, _, _, _, _, _, _, _]]) rfl rfl rfl rfl rfl rfl rfl rfl rfl rfl ⟨trivial, trivial⟩ ?_
  refine WL_nil ?_
  refine W_ret ?_
  refine ends (l := [.agg [.int _ _, .int _ _, .int _ _, .int _ _, .int _ _, .int _ _, .int _ _, .int _ _, .int _ _, .int _ _, .int _ _, .int _ _, _, _, .int _ _, .int _ _, .int _ _, .int _ _, .int _ _, .int _ _, .int _ _, .int _ _]]) (q := .agg [.int _ _, .int _ _, .int _ _, .int _ _, .int _ _, .int _ _, .int _ _, .int _ _, .int _ _, .int _ _, .int _ _, .int _ _, _, _, .int _ _, .int _ _, .int _ _, .int _ _, .int _ _, .int _ _, .int _ _, .int _ _]) (.inr rfl) rfl ⟨rfl, trivial⟩ rfl rfl ?_
  rfl
def winEq (a b : Window) : Bool := a.KH == b.KH && (a.KW == b.KW && (a.SH == b.SH && (a.SW == b.SW && (a.Top == b.Top && (a.Left == b.Left && (a.Bottom == b.Bottom && a.Right == b.Right))))))
def shapeEq (a b : Shape) : Bool := a.H == b.H && (a.W == b.W && a.C == b.C)
def emptyB (o : MOp) : Bool := o.Kind == 0 && o.A == 0 && o.B == 0 && o.M == 0 && winEq o.Win ⟨0, 0, 0, 0, 0, 0, 0, 0⟩ && (o.Weights.length : Int) == 0 && (o.Bias.length : Int) == 0 && (o.SA.Mult == 0 && o.SA.Shift == 0) && (o.SB.Mult == 0 && o.SB.Shift == 0) && o.Zero == 0 && o.Pad == 0 && o.Lo == 0 && o.Hi == 0
theorem model_empty (o : MOp) : Ok Try.prog 76 [.agg (opC o)] (.bool (emptyB o)) := by
  refine fn_ok Tb_ok (fn := Try.f76) Try.func76 rfl rfl (e := [(0, _)]) rfl (by decide) rfl ?_
  refine W_seq ?_
  refine W_region rfl ?_
  refine L_box Tb_ok (cs := [.int _ _, .int _ _, .int _ _, .int _ _, .int _ _, .int _ _, .int _ _, .int _ _, .int _ _, .int _ _, .int _ _, .int _ _, _, _, .int _ _, .int _ _, .int _ _, .int _ _, .int _ _, .int _ _, .int _ _, .int _ _]) (n := 22) rfl rfl rfl rfl trivial ?_
  refine L_v Tb_ok (v := .bool _) (av rfl ⟨trivial, trivial⟩) rfl ?_
  refine WL_nil ?_
  refine W_seq ?_
  refine W_region rfl ?_
  refine L_v Tb_ok (v := .ptr _ _ _) (av rfl ⟨trivial, trivial⟩) rfl ?_
  refine L_v Tb_ok (v := .int _ _) (av rfl ⟨trivial, rfl⟩) rfl ?_
  refine L_v Tb_ok (v := .bool _) (av rfl ⟨trivial, trivial⟩) rfl ?_
  refine L_v Tb_ok (v := .bool _) (av rfl ⟨trivial, trivial⟩) rfl ?_
  refine L_g Tb_ok (v := .ptr _ _ _) rfl rfl ((fun hg => (av rfl ⟨trivial, trivial⟩))) rfl rfl ?_
  refine L_g Tb_ok (v := .int _ _) rfl rfl ((fun hg => (av rfl ⟨⟨⟨(by first | exact hg | (simp_all; done) | (simp at hg ⊢; simp [hg])), True.intro⟩, True.intro⟩, rfl⟩))) rfl rfl ?_
  refine L_g Tb_ok (v := .bool _) rfl rfl ((fun hg => (av rfl ⟨⟨⟨(by first | exact hg | (simp_all; done) | (simp at hg ⊢; simp [hg])), True.intro⟩, True.intro⟩, trivial⟩))) rfl rfl ?_
  refine L_v Tb_ok (v := .bool _) (av rfl (by refine ⟨?_, fun h => ?_, fun h => ?_⟩ <;> first | exact True.intro | exact ⟨h, True.intro⟩ | (refine ⟨?_, True.intro⟩; first | (rw [h]; done) | (rw [h]; rfl) | (simp [h]; done) | (simp at h hg ⊢; simp [h, hg]; done) | (simp_all; done) | (simp_all; omega)))) rfl ?_
  refine L_v Tb_ok (v := .bool _) (av rfl ⟨trivial, trivial⟩) rfl ?_
  refine L_g Tb_ok (v := .ptr _ _ _) rfl rfl ((fun hg => (av rfl ⟨trivial, trivial⟩))) rfl rfl ?_
  refine L_g Tb_ok (v := .int _ _) rfl rfl ((fun hg => (av rfl ⟨⟨⟨(by first | exact hg | (simp_all; done) | (simp at hg ⊢; simp [hg])), True.intro⟩, True.intro⟩, rfl⟩))) rfl rfl ?_
  refine L_g Tb_ok (v := .bool _) rfl rfl ((fun hg => (av rfl ⟨⟨⟨(by first | exact hg | (simp_all; done) | (simp at hg ⊢; simp [hg])), True.intro⟩, True.intro⟩, trivial⟩))) rfl rfl ?_
  refine L_v Tb_ok (v := .bool _) (av rfl (by refine ⟨?_, fun h => ?_, fun h => ?_⟩ <;> first | exact True.intro | exact ⟨h, True.intro⟩ | (refine ⟨?_, True.intro⟩; first | (rw [h]; done) | (rw [h]; rfl) | (simp [h]; done) | (simp at h hg ⊢; simp [h, hg]; done) | (simp_all; done) | (simp_all; omega)))) rfl ?_
  refine L_v Tb_ok (v := .bool _) (av rfl ⟨trivial, trivial⟩) rfl ?_
  refine L_g Tb_ok (v := .ptr _ _ _) rfl rfl ((fun hg => (av rfl ⟨trivial, trivial⟩))) rfl rfl ?_
  refine L_g Tb_ok (v := .int _ _) rfl rfl ((fun hg => (av rfl ⟨⟨⟨(by first | exact hg | (simp_all; done) | (simp at hg ⊢; simp [hg])), True.intro⟩, True.intro⟩, rfl⟩))) rfl rfl ?_
  refine L_g Tb_ok (v := .bool _) rfl rfl ((fun hg => (av rfl ⟨⟨⟨(by first | exact hg | (simp_all; done) | (simp at hg ⊢; simp [hg])), True.intro⟩, True.intro⟩, trivial⟩))) rfl rfl ?_
  refine L_v Tb_ok (v := .bool _) (av rfl (by refine ⟨?_, fun h => ?_, fun h => ?_⟩ <;> first | exact True.intro | exact ⟨h, True.intro⟩ | (refine ⟨?_, True.intro⟩; first | (rw [h]; done) | (rw [h]; rfl) | (simp [h]; done) | (simp at h hg ⊢; simp [h, hg]; done) | (simp_all; done) | (simp_all; omega)))) rfl ?_
  refine L_v Tb_ok (v := .bool _) (av rfl ⟨trivial, trivial⟩) rfl ?_
  refine L_g Tb_ok (v := .ptr _ _ _) rfl rfl ((fun hg => (av rfl ⟨trivial, trivial⟩))) rfl rfl ?_
  refine L_g Tb_ok (v := .agg [.int _ _, .int _ _, .int _ _, .int _ _, .int _ _, .int _ _, .int _ _, .int _ _]) rfl rfl ((fun hg => (av rfl ⟨⟨⟨(by first | exact hg | (simp_all; done) | (simp at hg ⊢; simp [hg])), True.intro⟩, True.intro⟩, rfl⟩))) rfl rfl ?_
  refine L_g Tb_ok (v := .agg [.int _ _, .int _ _, .int _ _, .int _ _, .int _ _, .int _ _, .int _ _, .int _ _]) rfl rfl ((fun hg => (av rfl ⟨trivial, rfl⟩))) rfl rfl ?_
  refine L_g Tb_ok (v := .bool _) rfl rfl ((fun hg => (av rfl ⟨⟨⟨(by first | exact hg | (simp_all; done) | (simp at hg ⊢; simp [hg])), True.intro⟩, ⟨⟨(by first | exact hg | (simp_all; done) | (simp at hg ⊢; simp [hg])), True.intro⟩, True.intro⟩⟩, trivial⟩))) rfl rfl ?_
  refine L_v Tb_ok (v := .bool _) (av rfl (by refine ⟨?_, fun h => ?_, fun h => ?_⟩ <;> first | exact True.intro | exact ⟨h, True.intro⟩ | (refine ⟨?_, True.intro⟩; first | (rw [h]; done) | (rw [h]; rfl) | (simp [h]; done) | (simp at h hg ⊢; simp [h, hg]; done) | (simp_all; done) | (simp_all; omega)))) rfl ?_
  refine L_v Tb_ok (v := .bool _) (av rfl ⟨trivial, trivial⟩) rfl ?_
  refine L_g Tb_ok (v := .ptr _ _ _) rfl rfl ((fun hg => (av rfl ⟨trivial, trivial⟩))) rfl rfl ?_
  first | (refine L_g Tb_ok (v := .ro _) rfl rfl ((fun hg => (av rfl ⟨⟨⟨(by first | exact hg | (simp_all; done) | (simp at hg ⊢; simp [hg])), True.intro⟩, True.intro⟩, rfl⟩))) rfl rfl ?_) | (refine L_g Tb_ok (v := .app _ _) rfl rfl ((fun hg => (av rfl ⟨⟨⟨(by first | exact hg | (simp_all; done) | (simp at hg ⊢; simp [hg])), True.intro⟩, True.intro⟩, rfl⟩))) rfl rfl ?_) | (refine L_g Tb_ok (v := .row _ _ _) rfl rfl ((fun hg => (av rfl ⟨⟨⟨(by first | exact hg | (simp_all; done) | (simp at hg ⊢; simp [hg])), True.intro⟩, True.intro⟩, rfl⟩))) rfl rfl ?_) | (refine L_g Tb_ok (v := .nils) rfl rfl ((fun hg => (av rfl ⟨⟨⟨(by first | exact hg | (simp_all; done) | (simp at hg ⊢; simp [hg])), True.intro⟩, True.intro⟩, rfl⟩))) rfl rfl ?_)
  refine L_g Tb_ok (v := .int _ _) rfl rfl ((fun hg => (av rfl ⟨⟨⟨(by first | exact hg | (simp_all; done) | (simp at hg ⊢; simp [hg])), True.intro⟩, True.intro⟩, trivial⟩))) rfl rfl ?_
  refine L_g Tb_ok (v := .bool _) rfl rfl ((fun hg => (av rfl ⟨⟨⟨(by first | exact hg | (simp_all; done) | (simp at hg ⊢; simp [hg])), True.intro⟩, True.intro⟩, trivial⟩))) rfl rfl ?_
  refine L_v Tb_ok (v := .bool _) (av rfl (by refine ⟨?_, fun h => ?_, fun h => ?_⟩ <;> first | exact True.intro | exact ⟨h, True.intro⟩ | (refine ⟨?_, True.intro⟩; first | (rw [h]; done) | (rw [h]; rfl) | (simp [h]; done) | (simp at h hg ⊢; simp [h, hg]; done) | (simp_all; done) | (simp_all; omega)))) rfl ?_
  refine L_v Tb_ok (v := .bool _) (av rfl ⟨trivial, trivial⟩) rfl ?_
  refine L_g Tb_ok (v := .ptr _ _ _) rfl rfl ((fun hg => (av rfl ⟨trivial, trivial⟩))) rfl rfl ?_
  first | (refine L_g Tb_ok (v := .ro _) rfl rfl ((fun hg => (av rfl ⟨⟨⟨(by first | exact hg | (simp_all; done) | (simp at hg ⊢; simp [hg])), True.intro⟩, True.intro⟩, rfl⟩))) rfl rfl ?_) | (refine L_g Tb_ok (v := .app _ _) rfl rfl ((fun hg => (av rfl ⟨⟨⟨(by first | exact hg | (simp_all; done) | (simp at hg ⊢; simp [hg])), True.intro⟩, True.intro⟩, rfl⟩))) rfl rfl ?_) | (refine L_g Tb_ok (v := .row _ _ _) rfl rfl ((fun hg => (av rfl ⟨⟨⟨(by first | exact hg | (simp_all; done) | (simp at hg ⊢; simp [hg])), True.intro⟩, True.intro⟩, rfl⟩))) rfl rfl ?_) | (refine L_g Tb_ok (v := .nils) rfl rfl ((fun hg => (av rfl ⟨⟨⟨(by first | exact hg | (simp_all; done) | (simp at hg ⊢; simp [hg])), True.intro⟩, True.intro⟩, rfl⟩))) rfl rfl ?_)
  refine L_g Tb_ok (v := .int _ _) rfl rfl ((fun hg => (av rfl ⟨⟨⟨(by first | exact hg | (simp_all; done) | (simp at hg ⊢; simp [hg])), True.intro⟩, True.intro⟩, trivial⟩))) rfl rfl ?_
  refine L_g Tb_ok (v := .bool _) rfl rfl ((fun hg => (av rfl ⟨⟨⟨(by first | exact hg | (simp_all; done) | (simp at hg ⊢; simp [hg])), True.intro⟩, True.intro⟩, trivial⟩))) rfl rfl ?_
  refine L_v Tb_ok (v := .bool _) (av rfl (by refine ⟨?_, fun h => ?_, fun h => ?_⟩ <;> first | exact True.intro | exact ⟨h, True.intro⟩ | (refine ⟨?_, True.intro⟩; first | (rw [h]; done) | (rw [h]; rfl) | (simp [h]; done) | (simp at h hg ⊢; simp [h, hg]; done) | (simp_all; done) | (simp_all; omega)))) rfl ?_
  refine L_v Tb_ok (v := .bool _) (av rfl ⟨trivial, trivial⟩) rfl ?_
  refine L_g Tb_ok (v := .ptr _ _ _) rfl rfl ((fun hg => (av rfl ⟨trivial, trivial⟩))) rfl rfl ?_
  refine L_g Tb_ok (v := .agg [.int _ _, .int _ _]) rfl rfl ((fun hg => (av rfl ⟨⟨⟨(by first | exact hg | (simp_all; done) | (simp at hg ⊢; simp [hg])), True.intro⟩, True.intro⟩, rfl⟩))) rfl rfl ?_
  refine L_g Tb_ok (v := .agg [.int _ _, .int _ _]) rfl rfl ((fun hg => (av rfl ⟨trivial, rfl⟩))) rfl rfl ?_
  refine L_g Tb_ok (v := .bool _) rfl rfl ((fun hg => (av rfl ⟨⟨⟨(by first | exact hg | (simp_all; done) | (simp at hg ⊢; simp [hg])), True.intro⟩, ⟨⟨(by first | exact hg | (simp_all; done) | (simp at hg ⊢; simp [hg])), True.intro⟩, True.intro⟩⟩, trivial⟩))) rfl rfl ?_
  refine L_v Tb_ok (v := .bool _) (av rfl (by refine ⟨?_, fun h => ?_, fun h => ?_⟩ <;> first | exact True.intro | exact ⟨h, True.intro⟩ | (refine ⟨?_, True.intro⟩; first | (rw [h]; done) | (rw [h]; rfl) | (simp [h]; done) | (simp at h hg ⊢; simp [h, hg]; done) | (simp_all; done) | (simp_all; omega)))) rfl ?_
  refine L_v Tb_ok (v := .bool _) (av rfl ⟨trivial, trivial⟩) rfl ?_
  refine L_g Tb_ok (v := .ptr _ _ _) rfl rfl ((fun hg => (av rfl ⟨trivial, trivial⟩))) rfl rfl ?_
  refine L_g Tb_ok (v := .agg [.int _ _, .int _ _]) rfl rfl ((fun hg => (av rfl ⟨⟨⟨(by first | exact hg | (simp_all; done) | (simp at hg ⊢; simp [hg])), True.intro⟩, True.intro⟩, rfl⟩))) rfl rfl ?_
  refine L_g Tb_ok (v := .agg [.int _ _, .int _ _]) rfl rfl ((fun hg => (av rfl ⟨trivial, rfl⟩))) rfl rfl ?_
  refine L_g Tb_ok (v := .bool _) rfl rfl ((fun hg => (av rfl ⟨⟨⟨(by first | exact hg | (simp_all; done) | (simp at hg ⊢; simp [hg])), True.intro⟩, ⟨⟨(by first | exact hg | (simp_all; done) | (simp at hg ⊢; simp [hg])), True.intro⟩, True.intro⟩⟩, trivial⟩))) rfl rfl ?_
  refine L_v Tb_ok (v := .bool _) (av rfl (by refine ⟨?_, fun h => ?_, fun h => ?_⟩ <;> first | exact True.intro | exact ⟨h, True.intro⟩ | (refine ⟨?_, True.intro⟩; first | (rw [h]; done) | (rw [h]; rfl) | (simp [h]; done) | (simp at h hg ⊢; simp [h, hg]; done) | (simp_all; done) | (simp_all; omega)))) rfl ?_
  refine L_v Tb_ok (v := .bool _) (av rfl ⟨trivial, trivial⟩) rfl ?_
  refine L_g Tb_ok (v := .ptr _ _ _) rfl rfl ((fun hg => (av rfl ⟨trivial, trivial⟩))) rfl rfl ?_
  refine L_g Tb_ok (v := .int _ _) rfl rfl ((fun hg => (av rfl ⟨⟨⟨(by first | exact hg | (simp_all; done) | (simp at hg ⊢; simp [hg])), True.intro⟩, True.intro⟩, rfl⟩))) rfl rfl ?_
  refine L_g Tb_ok (v := .bool _) rfl rfl ((fun hg => (av rfl ⟨⟨⟨(by first | exact hg | (simp_all; done) | (simp at hg ⊢; simp [hg])), True.intro⟩, True.intro⟩, trivial⟩))) rfl rfl ?_
  refine L_v Tb_ok (v := .bool _) (av rfl (by refine ⟨?_, fun h => ?_, fun h => ?_⟩ <;> first | exact True.intro | exact ⟨h, True.intro⟩ | (refine ⟨?_, True.intro⟩; first | (rw [h]; done) | (rw [h]; rfl) | (simp [h]; done) | (simp at h hg ⊢; simp [h, hg]; done) | (simp_all; done) | (simp_all; omega)))) rfl ?_
  refine L_v Tb_ok (v := .bool _) (av rfl ⟨trivial, trivial⟩) rfl ?_
  refine L_g Tb_ok (v := .ptr _ _ _) rfl rfl ((fun hg => (av rfl ⟨trivial, trivial⟩))) rfl rfl ?_
  refine L_g Tb_ok (v := .int _ _) rfl rfl ((fun hg => (av rfl ⟨⟨⟨(by first | exact hg | (simp_all; done) | (simp at hg ⊢; simp [hg])), True.intro⟩, True.intro⟩, rfl⟩))) rfl rfl ?_
  refine L_g Tb_ok (v := .bool _) rfl rfl ((fun hg => (av rfl ⟨⟨⟨(by first | exact hg | (simp_all; done) | (simp at hg ⊢; simp [hg])), True.intro⟩, True.intro⟩, trivial⟩))) rfl rfl ?_
  refine L_v Tb_ok (v := .bool _) (av rfl (by refine ⟨?_, fun h => ?_, fun h => ?_⟩ <;> first | exact True.intro | exact ⟨h, True.intro⟩ | (refine ⟨?_, True.intro⟩; first | (rw [h]; done) | (rw [h]; rfl) | (simp [h]; done) | (simp at h hg ⊢; simp [h, hg]; done) | (simp_all; done) | (simp_all; omega)))) rfl ?_
  refine L_v Tb_ok (v := .bool _) (av rfl ⟨trivial, trivial⟩) rfl ?_
  refine L_g Tb_ok (v := .ptr _ _ _) rfl rfl ((fun hg => (av rfl ⟨trivial, trivial⟩))) rfl rfl ?_
  refine L_g Tb_ok (v := .int _ _) rfl rfl ((fun hg => (av rfl ⟨⟨⟨(by first | exact hg | (simp_all; done) | (simp at hg ⊢; simp [hg])), True.intro⟩, True.intro⟩, rfl⟩))) rfl rfl ?_
  refine L_g Tb_ok (v := .bool _) rfl rfl ((fun hg => (av rfl ⟨⟨⟨(by first | exact hg | (simp_all; done) | (simp at hg ⊢; simp [hg])), True.intro⟩, True.intro⟩, trivial⟩))) rfl rfl ?_
  refine L_v Tb_ok (v := .bool _) (av rfl (by refine ⟨?_, fun h => ?_, fun h => ?_⟩ <;> first | exact True.intro | exact ⟨h, True.intro⟩ | (refine ⟨?_, True.intro⟩; first | (rw [h]; done) | (rw [h]; rfl) | (simp [h]; done) | (simp at h hg ⊢; simp [h, hg]; done) | (simp_all; done) | (simp_all; omega)))) rfl ?_
  refine L_v Tb_ok (v := .bool _) (av rfl ⟨trivial, trivial⟩) rfl ?_
  refine L_g Tb_ok (v := .ptr _ _ _) rfl rfl ((fun hg => (av rfl ⟨trivial, trivial⟩))) rfl rfl ?_
  refine L_g Tb_ok (v := .int _ _) rfl rfl ((fun hg => (av rfl ⟨⟨⟨(by first | exact hg | (simp_all; done) | (simp at hg ⊢; simp [hg])), True.intro⟩, True.intro⟩, rfl⟩))) rfl rfl ?_
  refine L_g Tb_ok (v := .bool _) rfl rfl ((fun hg => (av rfl ⟨⟨⟨(by first | exact hg | (simp_all; done) | (simp at hg ⊢; simp [hg])), True.intro⟩, True.intro⟩, trivial⟩))) rfl rfl ?_
  refine L_v Tb_ok (v := .bool _) (av rfl (by refine ⟨?_, fun h => ?_, fun h => ?_⟩ <;> first | exact True.intro | exact ⟨h, True.intro⟩ | (refine ⟨?_, True.intro⟩; first | (rw [h]; done) | (rw [h]; rfl) | (simp [h]; done) | (simp at h hg ⊢; simp [h, hg]; done) | (simp_all; done) | (simp_all; omega)))) rfl ?_
  refine L_v Tb_ok (v := .bool _) (av rfl ⟨trivial, trivial⟩) rfl ?_
  refine WL_nil ?_
  refine W_ret ?_
  refine ends (l := [.bool _]) (q := .bool _) (.inr rfl) rfl ⟨trivial, trivial⟩ rfl rfl ?_
  simp [emptyB, winEq]
end Go.AM
end
section
open Go Go.AM Go.Proofs
set_option maxRecDepth 10000
set_option linter.unusedVariables false
set_option linter.unusedSimpArgs false
namespace Go.AM
theorem w_succ {k n : Nat} (h : k < n) (hn : n ≤ 4611686018427387904) : IntKind.i64.wrap ((k : Int) + 1) = ((k + 1 : Nat) : Int) := by rw [IntKind.wrap_i64]; omega
def bytesB (l : List Int) : Bool := l.all fun n => inB n (-128) 127
theorem bytesB_at {l : List Int} {k : Nat} (hk : k < l.length) (h : (l.take k).all (fun n => inB n (-128) 127) = true) (hn : inB (l.getD k 0) (-128) 127 = true) : (l.take (k + 1)).all (fun n => inB n (-128) 127) = true := by
  rw [List.take_add_one, List.all_append, h]
  simp only [List.getD_eq_getElem?_getD, List.getElem?_eq_getElem hk, Option.getD_some] at hn
  simp [List.getElem?_eq_getElem hk, hn]
theorem bytesB_no {l : List Int} {k : Nat} (hk : k < l.length) (hn : inB (l.getD k 0) (-128) 127 = false) : bytesB l = false := by
  simp only [List.getD_eq_getElem?_getD, List.getElem?_eq_getElem hk, Option.getD_some] at hn
  simp only [bytesB, List.all_eq_false]
  exact ⟨l[k], List.getElem_mem hk, by simp [hn]⟩
theorem model_byte8 (l : List Int) (hl : l.length ≤ 4611686018427387904) : Ok Try.prog 70 [.ro (l.map intC)] (.bool (bytesB l)) := by
  refine fn_ok Tb_ok (fn := Try.f70) Try.func70 rfl rfl (e := [(0, _)]) rfl (by decide) rfl ?_
  refine W_seq ?_
  refine W_region rfl ?_
  refine L_v Tb_ok (v := .bool _) (av rfl ⟨trivial, trivial⟩) rfl ?_
  refine WL_nil ?_
  refine W_seq ?_
  refine W_seq ?_
  refine W_region rfl ?_
  first | (refine L_v Tb_ok (v := .ro _) (av rfl ⟨trivial, trivial⟩) rfl ?_) | (refine L_v Tb_ok (v := .app _ _) (av rfl ⟨trivial, trivial⟩) rfl ?_) | (refine L_v Tb_ok (v := .row _ _ _) (av rfl ⟨trivial, trivial⟩) rfl ?_) | (refine L_v Tb_ok (v := .nils) (av rfl ⟨trivial, trivial⟩) rfl ?_)
  refine L_v Tb_ok (v := .int _ _) (av rfl ⟨trivial, trivial⟩) rfl ?_
  refine L_v Tb_ok (v := .int _ _) (av rfl ⟨trivial, trivial⟩) rfl ?_
  refine WL_nil ?_
  refine W_block ?_
  refine W_inv (ι := {k : Nat // k ≤ l.length ∧ (l.take k).all (fun n => inB n (-128) 127) = true}) (fun k => ⟨[(5, .ro (l.map intC)), (6, .int .i64 ((l.map intC).length : Int)), (7, .int .i64 (k.1 : Int))], [], [], 0⟩) (fun k => l.length - k.1) ⟨0, by simp, by simp⟩ (le_fit ⟨rfl, rfl, rfl, trivial⟩ trivial trivial rfl rfl rfl rfl rfl) ?_
  rintro ⟨k, hk, ha⟩
  refine W_seq ?_
  refine W_region rfl ?_
  refine L_v Tb_ok (v := .bool _) (av rfl ⟨trivial, trivial⟩) rfl ?_
  refine WL_nil ?_
  refine W_seq ?_
  refine W_cond (b := _) rfl (fun h8 => ?_) (fun h8 => ?_)
  · refine W_skip ?_
    refine W_seq ?_
    refine W_block ?_
    refine W_seq ?_
    refine W_region rfl ?_
    first | (refine L_v Tb_ok (v := _) (ave_index_ro rfl rfl rfl (fun _ => rfl) rfl (by first | omega | assumption | decide | (simp_all; done) | (simp_all; omega)) (by first | omega | assumption | decide | (simp_all; done) | (simp_all; omega)) trivial) rfl ?_) | (refine L_v Tb_ok (v := _) (ave_index_app rfl rfl rfl (fun _ => rfl) rfl (by first | omega | assumption | decide | (simp_all; done) | (simp_all; omega)) (by first | omega | assumption | decide | (simp_all; done) | (simp_all; omega)) trivial) rfl ?_) | (refine L_v Tb_ok (v := _) (ave_index_row rfl rfl rfl rfl rfl rfl (by first | omega | assumption | decide | (simp_all; done) | (simp_all; omega)) (by first | omega | assumption | decide | (simp_all; done) | (simp_all; omega)) trivial) rfl ?_) | (refine L_v Tb_ok (v := .rptr _) (av rfl ⟨trivial, ⟨(by first | omega | assumption | decide | (simp_all; done) | (simp_all; omega)), (by first | omega | assumption | decide | (simp_all; done) | (simp_all; omega))⟩, rfl⟩) rfl ?_) | (refine L_v Tb_ok (v := .ptr _ _ _) (av rfl ⟨trivial, ⟨(by first | omega | assumption | decide | (simp_all; done) | (simp_all; omega)), (by first | omega | assumption | decide | (simp_all; done) | (simp_all; omega))⟩, rfl⟩) rfl ?_)
    refine L_v Tb_ok (v := .int _ _) (av rfl ⟨trivial, rfl⟩) rfl ?_
    refine L_v Tb_ok (v := .int _ _) (av rfl ⟨trivial, trivial⟩) rfl ?_
    refine WL_nil ?_
    refine W_seq ?_
    refine W_region rfl ?_
    refine L_v Tb_ok (v := .int _ _) (av rfl ⟨trivial, trivial⟩) rfl ?_
    refine L_v Tb_ok (v := .bool _) (av rfl ⟨trivial, trivial⟩) rfl ?_
    refine L_v Tb_ok (v := .bool _) (av rfl ⟨trivial, trivial⟩) rfl ?_
    refine L_g Tb_ok (v := .int _ _) rfl rfl ((fun hg => (av rfl ⟨trivial, trivial⟩))) rfl rfl ?_
    refine L_g Tb_ok (v := .bool _) rfl rfl ((fun hg => (av rfl ⟨⟨⟨(by first | exact hg | (simp_all; done) | (simp at hg ⊢; simp [hg])), True.intro⟩, True.intro⟩, trivial⟩))) rfl rfl ?_
    refine L_v Tb_ok (v := .bool _) (av rfl (by refine ⟨?_, fun h => ?_, fun h => ?_⟩ <;> first | exact True.intro | exact ⟨h, True.intro⟩ | (refine ⟨?_, True.intro⟩; first | (rw [h]; done) | (rw [h]; rfl) | (simp [h]; done) | (simp at h hg ⊢; simp [h, hg]; done) | (simp_all; done) | (simp_all; omega)))) rfl ?_
    refine WL_nil ?_
    refine W_cond (b := _) rfl (fun h16 => ?_) (fun h16 => ?_)
    · refine W_seq ?_
      refine W_region rfl ?_
      refine L_v Tb_ok (v := .bool _) (av rfl ⟨trivial, trivial⟩) rfl ?_
      refine WL_nil ?_
      refine W_ret ?_
      refine ends (l := [.bool _]) (q := .bool _) (.inr rfl) rfl ⟨trivial, trivial⟩ rfl rfl ?_
      first
      | (have he : k = l.length := (by simp at h8; omega)
         rw [he, List.take_length] at ha
         rw [bytesB, ha]; done)
      | (rw [bytesB_no (k := k) (by simpa using h8) (by simp_all [inB]; try omega)])
    · refine W_skip ?_
      refine W_region rfl ?_
      refine L_v Tb_ok (v := .int _ _) (av rfl ⟨trivial, trivial⟩) rfl ?_
      refine L_v Tb_ok (v := .int _ _) (av rfl ⟨trivial, trivial⟩) rfl ?_
      refine WL_nil ?_
      have hlt : k < l.length := by simpa using h8
      refine round_end ⟨k + 1, by omega, bytesB_at hlt ha (by simp_all [inB]; try omega)⟩ (by dsimp only; omega) (le_fit ⟨rfl, rfl, congrArg _ (w_succ hlt hl), trivial⟩ trivial trivial rfl rfl rfl rfl rfl)
  · refine W_exit ?_
    repeat (first | refine pass_then ?_ | refine pass_once ?_ | refine pass_le ?_ | refine pass_round ?_ | refine pass_for ?_ | refine blockQ_miss rfl ?_)
    refine blockQ_hit ?_
    refine W_seq ?_
    refine W_region rfl ?_
    refine L_v Tb_ok (v := .bool _) (av rfl ⟨trivial, trivial⟩) rfl ?_
    refine WL_nil ?_
    refine W_ret ?_
    refine ends (l := [.bool _]) (q := .bool _) (.inr rfl) rfl ⟨trivial, trivial⟩ rfl rfl ?_
    first
    | (have he : k = l.length := (by simp at h8; omega)
       rw [he, List.take_length] at ha
       rw [bytesB, ha]; done)
    | (rw [bytesB_no (k := k) (by simpa using h8) (by simp_all [inB]; try omega)])
def mkX (o : MOp) (a : Shape) : Shape × Int := bif (ofU o.Kind).win then (⟨outH a o.Win, outW a o.Win, a.C⟩, w64 (o.Win.KH * o.Win.KW)) else (a, 1)
def mkE (o : MOp) (a : Shape) : Int := bif (ofU o.Kind).win then outE a o.Win else 0
def mkS (o : MOp) (a : Shape) : Shape := if mkE o a = 0 then if o.Kind = 1 then ⟨1, 1, o.M⟩ else if o.Kind = 2 then { (mkX o a).1 with C := o.M } else (mkX o a).1 else ⟨0, 0, 0⟩
def mkL (o : MOp) (a : Shape) : Int := if mkE o a = 0 then if o.Kind = 1 then w64 (w64 (a.H * a.W) * a.C) else if o.Kind = 2 then w64 ((mkX o a).2 * a.C) else if o.Kind = 3 ∨ o.Kind = 4 then (mkX o a).2 else 0 else 0
def mkT (o : MOp) (a : Shape) : Int := if o.Kind = 1 ∨ o.Kind = 2 then mkL o a else (mkX o a).2
def mkW (o : MOp) (a : Shape) : Int := if mkE o a = 0 then w64 (w64 (w64 ((mkS o a).H * (mkS o a).W) * (mkS o a).C) * mkT o a) else 0
theorem model_makes (o : MOp) (a : Shape) : Ok Try.prog 78 [.agg (opC o), .agg (shapeC a)] (.tup [.agg (shapeC (mkS o a)), .int .i64 (mkL o a), .int .i64 (mkW o a), .int .i64 (mkE o a)]) := by
  refine fn_ok Tb_ok (fn := Try.f78) Try.func78 rfl rfl (e := [(0, _), (1, _)]) rfl (by decide) rfl ?_
  refine W_seq ?_
  refine W_region rfl ?_
  refine L_box Tb_ok (cs := [.int _ _, .int _ _, .int _ _, .int _ _, .int _ _, .int _ _, .int _ _, .int _ _, .int _ _, .int _ _, .int _ _, .int _ _, _, _, .int _ _, .int _ _, .int _ _, .int _ _, .int _ _, .int _ _, .int _ _, .int _ _]) (n := 22) rfl rfl rfl rfl trivial ?_
  refine L_box Tb_ok (cs := [.int _ _, .int _ _, .int _ _]) (n := 3) rfl rfl rfl rfl trivial ?_
  refine L_alloc Tb_ok (z := [.int .i64 0, .int .i64 0, .int .i64 0]) (n := 3) rfl rfl rfl rfl rfl ?_
  refine L_v Tb_ok (v := .int _ _) (av rfl ⟨trivial, trivial⟩) rfl ?_
  refine L_v Tb_ok (v := .int _ _) (av rfl ⟨trivial, trivial⟩) rfl ?_
  refine L_v Tb_ok (v := .int _ _) (av rfl ⟨trivial, trivial⟩) rfl ?_
  refine WL_nil ?_
  refine W_seq ?_
  refine W_region rfl ?_
  refine L_v Tb_ok (v := .ptr _ _ _) (av rfl ⟨trivial, trivial⟩) rfl ?_
  refine L_v Tb_ok (v := .int _ _) (av rfl ⟨trivial, rfl⟩) rfl ?_
  refine L_call (hr := model_of o.Kind) rfl rfl trivial rfl rfl ?_
  refine L_v Tb_ok (v := .tup [_, _]) (av rfl ⟨trivial, trivial⟩) rfl ?_
  refine L_v Tb_ok (v := .agg [.bool _, .bool _, .bool _, .bool _, .bool _, .bool _, .bool _, .bool _]) (av rfl ⟨trivial, trivial⟩) rfl ?_
  refine L_v Tb_ok (v := .bool _) (av rfl ⟨trivial, trivial⟩) rfl ?_
  refine L_alloc Tb_ok (z := [.bool false, .bool false, .bool false, .bool false, .bool false, .bool false, .bool false, .bool false]) (n := 8) rfl rfl rfl rfl rfl ?_
  refine L_store Tb_ok (v := .agg [.bool _, .bool _, .bool _, .bool _, .bool _, .bool _, .bool _, .bool _]) (cs := [_, _, _, _, _, _, _, _]) (es' := [[_, _, _, _, _, _, _, _]]) rfl rfl rfl rfl rfl rfl rfl rfl rfl rfl ⟨trivial, trivial⟩ ?_
  refine L_v Tb_ok (v := .bool _) (av rfl ⟨trivial, trivial⟩) rfl ?_
  refine WL_nil ?_
  refine W_seq ?_
  refine W_region rfl ?_
  refine L_v Tb_ok (v := .agg [.int _ _, .int _ _, .int _ _]) (av rfl ⟨trivial, rfl⟩) rfl ?_
  refine L_alloc Tb_ok (z := [.int .i64 0, .int .i64 0, .int .i64 0]) (n := 3) rfl rfl rfl rfl rfl ?_
  refine L_store Tb_ok (v := .agg [.int _ _, .int _ _, .int _ _]) (cs := [_, _, _]) (es' := [[_, _, _]]) rfl rfl rfl rfl rfl rfl rfl rfl rfl rfl ⟨trivial, trivial⟩ ?_
  refine L_v Tb_ok (v := .int _ _) (av rfl ⟨trivial, trivial⟩) rfl ?_
  refine WL_nil ?_
  refine W_seq ?_
  refine W_seq ?_
  refine W_region rfl ?_
  refine L_v Tb_ok (v := .ptr _ _ _) (av rfl ⟨trivial, trivial⟩) rfl ?_
  refine L_v Tb_ok (v := .bool _) (av rfl ⟨trivial, rfl⟩) rfl ?_
  refine WL_nil ?_
  refine W_ift (b := _) (M := ⟨[(2, .ptr 0 0 0), (3, .ptr 1 0 0), (4, .ptr 2 0 0), (10, .ptr 4 0 0), (11, .int .i64 ((bif (ofU o.Kind).win then (⟨outH a o.Win, outW a o.Win, a.C⟩, w64 (o.Win.KH * o.Win.KW)) else (a, (1 : Int)))).2)], [(0, some ⟨40, 22, 0, [opC o]⟩), (1, some ⟨23, 3, 0, [shapeC a]⟩), (2, some ⟨23, 3, 0, [[.int .i64 0, .int .i64 0, .int .i64 0]]⟩), (4, some ⟨23, 3, 0, [shapeC ((bif (ofU o.Kind).win then (⟨outH a o.Win, outW a o.Win, a.C⟩, w64 (o.Win.KH * o.Win.KW)) else (a, (1 : Int)))).1]⟩)], [], 5⟩) (p := mkE o a = 0) rfl (fun h24 => ?_) (fun h24 => ?_) (fun m24 => ?_)
  · refine W_seq ?_
    refine W_region rfl ?_
    refine L_v Tb_ok (v := .agg [.int _ _, .int _ _, .int _ _]) (av rfl ⟨trivial, rfl⟩) rfl ?_
    refine L_v Tb_ok (v := .ptr _ _ _) (av rfl ⟨trivial, trivial⟩) rfl ?_
    refine L_v Tb_ok (v := .agg [.int _ _, .int _ _, .int _ _, .int _ _, .int _ _, .int _ _, .int _ _, .int _ _]) (av rfl ⟨trivial, rfl⟩) rfl ?_
    refine L_call (hr := window_Out a o.Win) rfl rfl trivial rfl rfl ?_
    refine L_v Tb_ok (v := .tup [_, _, _]) (av rfl ⟨trivial, trivial⟩) rfl ?_
    refine L_v Tb_ok (v := .int _ _) (av rfl ⟨trivial, trivial⟩) rfl ?_
    refine L_v Tb_ok (v := .int _ _) (av rfl ⟨trivial, trivial⟩) rfl ?_
    refine L_v Tb_ok (v := .int _ _) (av rfl ⟨trivial, trivial⟩) rfl ?_
    refine L_v Tb_ok (v := .int _ _) (av rfl ⟨trivial, trivial⟩) rfl ?_
    refine L_v Tb_ok (v := .int _ _) (av rfl ⟨trivial, trivial⟩) rfl ?_
    refine L_v Tb_ok (v := .int _ _) (av rfl ⟨trivial, trivial⟩) rfl ?_
    refine WL_nil ?_
    refine W_seq ?_
    refine W_seq ?_
    refine W_region rfl ?_
    refine L_v Tb_ok (v := .int _ _) (av rfl ⟨trivial, trivial⟩) rfl ?_
    refine L_v Tb_ok (v := .bool _) (av rfl ⟨trivial, trivial⟩) rfl ?_
    refine WL_nil ?_
    refine W_cond (b := _) rfl (fun h34 => ?_) (fun h34 => ?_)
    · refine W_seq ?_
      refine W_region rfl ?_
      refine L_v Tb_ok (v := .agg [.int _ _, .int _ _, .int _ _]) (av rfl ⟨trivial, rfl⟩) rfl ?_
      refine L_v Tb_ok (v := .int _ _) (av rfl ⟨trivial, trivial⟩) rfl ?_
      refine L_store Tb_ok (v := .agg [.int _ _, .int _ _, .int _ _]) (cs := [_, _, _]) (es' := [[_, _, _]]) rfl rfl rfl rfl rfl rfl rfl rfl rfl rfl ⟨trivial, trivial⟩ ?_
      refine L_v Tb_ok (v := .int _ _) (av rfl ⟨trivial, trivial⟩) rfl ?_
      refine L_v Tb_ok (v := .int _ _) (av rfl ⟨trivial, trivial⟩) rfl ?_
      refine L_v Tb_ok (v := .int _ _) (av rfl ⟨trivial, trivial⟩) rfl ?_
      refine WL_nil ?_
      refine W_ret ?_
      refine ends (l := [.agg [.int _ _, .int _ _, .int _ _], .int _ _, .int _ _, .int _ _]) (q := .tup [.agg [.int _ _, .int _ _, .int _ _], .int _ _, .int _ _, .int _ _]) (.inr rfl) rfl ⟨rfl, trivial, trivial, trivial, trivial⟩ rfl rfl ?_
      first | (simp_all [mkX, mkE, mkS, mkL, mkT, mkW, w64, shapeC]; done) | (simp_all [mkS, mkL, mkT, mkW, w64, shapeC, mkX])
    · refine W_skip ?_
      refine W_drawF (fun e => [idOf (get e 10)]) 10 [[10, 11, 12, 13]] Tb_mixed rfl (by decide) (by kernel_rfl) ?_
      refine S_v Tb_ok (v := .int _ _) (av rfl ⟨trivial, trivial⟩) rfl ?_
      refine S_v Tb_ok (v := .int _ _) (av rfl ⟨trivial, trivial⟩) rfl ?_
      refine S_v Tb_ok (v := .ptr _ _ _) (av rfl ⟨trivial, trivial⟩) rfl ?_
      refine S_v Tb_ok (v := .ptr _ _ _) (av rfl ⟨trivial, trivial⟩) rfl ?_
      refine S_v Tb_ok (v := .int _ _) (av rfl ⟨trivial, rfl⟩) rfl ?_
      refine S_v Tb_ok (v := .ptr _ _ _) (av rfl ⟨trivial, trivial⟩) rfl ?_
      refine S_v Tb_ok (v := .ptr _ _ _) (av rfl ⟨trivial, trivial⟩) rfl ?_
      refine S_v Tb_ok (v := .int _ _) (av rfl ⟨trivial, rfl⟩) rfl ?_
      refine S_v Tb_ok (v := .int _ _) (av rfl ⟨trivial, trivial⟩) rfl ?_
      refine S_v Tb_ok (v := .ptr _ _ _) (av rfl ⟨trivial, trivial⟩) rfl ?_
      refine S_nil ?_
      refine TT_one ?_
      refine TT_store Tb_ok (OSub_forget _ _) rfl (v := .int _ _) (cs := [_]) (es' := [[_, _, _]]) rfl rfl rfl rfl rfl rfl rfl rfl rfl rfl rfl ⟨trivial, trivial⟩ (fun ht1 => ?_)
      refine TT_v Tb_ok ht1 rfl (v := .ptr _ _ _) (av rfl ⟨trivial, trivial⟩) rfl (fun ht2 => ?_)
      refine TT_store Tb_ok ht2 rfl (v := .int _ _) (cs := [_]) (es' := [[_, _, _]]) rfl rfl rfl rfl rfl rfl rfl rfl rfl rfl rfl ⟨trivial, trivial⟩ (fun ht3 => ?_)
      refine TT_v Tb_ok ht3 rfl (v := .int _ _) (av rfl ⟨trivial, trivial⟩) rfl (fun ht4 => ?_)
      refine TT_nil ?_
      clear ht1 ht2 ht3 ht4
      exact ⟨by simp_all [mkE], le_t (F := fun X => ⟨[(2, .ptr 0 0 0), (3, .ptr 1 0 0), (4, .ptr 2 0 0), (10, .ptr 4 0 0), (11, .int .i64 (X).2)], [(0, some ⟨40, 22, 0, [opC o]⟩), (1, some ⟨23, 3, 0, [shapeC a]⟩), (2, some ⟨23, 3, 0, [[.int .i64 0, .int .i64 0, .int .i64 0]]⟩), (4, some ⟨23, 3, 0, [shapeC (X).1]⟩)], [], 5⟩) (x := (⟨outH a o.Win, outW a o.Win, a.C⟩, w64 (o.Win.KH * o.Win.KW))) (y := (a, (1 : Int))) h24 (le_fit ⟨rfl, rfl, rfl, rfl, rfl, trivial⟩ ⟨.inr rfl, .inr rfl, .inr rfl, .inr rfl, trivial⟩ trivial rfl rfl rfl rfl rfl)⟩
  · refine W_skip ?_
    exact ⟨by simp_all [mkE], le_f (F := fun X => ⟨[(2, .ptr 0 0 0), (3, .ptr 1 0 0), (4, .ptr 2 0 0), (10, .ptr 4 0 0), (11, .int .i64 (X).2)], [(0, some ⟨40, 22, 0, [opC o]⟩), (1, some ⟨23, 3, 0, [shapeC a]⟩), (2, some ⟨23, 3, 0, [[.int .i64 0, .int .i64 0, .int .i64 0]]⟩), (4, some ⟨23, 3, 0, [shapeC (X).1]⟩)], [], 5⟩) (x := (⟨outH a o.Win, outW a o.Win, a.C⟩, w64 (o.Win.KH * o.Win.KW))) (y := (a, (1 : Int))) h24 (le_fit ⟨rfl, rfl, rfl, rfl, rfl, trivial⟩ ⟨.inr rfl, .inr rfl, .inr rfl, .inr rfl, trivial⟩ trivial rfl rfl rfl rfl rfl)⟩
  refine W_seq ?_
  refine W_region rfl ?_
  refine L_v Tb_ok (v := .int _ _) (av rfl ⟨trivial, trivial⟩) rfl ?_
  refine WL_nil ?_
  refine W_seq ?_
  refine W_seq ?_
  refine W_region rfl ?_
  refine L_v Tb_ok (v := .ptr _ _ _) (av rfl ⟨trivial, trivial⟩) rfl ?_
  refine L_v Tb_ok (v := .int _ _) (av rfl ⟨trivial, rfl⟩) rfl ?_
  refine WL_nil ?_
  refine W_block ?_
  refine W_seq ?_
  refine W_region rfl ?_
  refine L_v Tb_ok (v := .bool _) (av rfl ⟨trivial, trivial⟩) rfl ?_
  refine L_v Tb_ok (v := .bool _) (av rfl ⟨trivial, trivial⟩) rfl ?_
  refine WL_nil ?_
  refine W_cond (b := _) rfl (fun h50 => ?_) (fun h50 => ?_)
  · refine W_seq ?_
    refine W_draw 12 Tb_mixed rfl (by decide) (by kernel_rfl) (by kernel_rfl) ?_
    refine E_v Tb_ok (v := .ptr _ _ _) (av rfl ⟨trivial, trivial⟩) rfl ?_
    refine E_v Tb_ok (v := .int _ _) (av rfl ⟨trivial, rfl⟩) rfl ?_
    refine E_v Tb_ok (v := .ptr _ _ _) (av rfl ⟨trivial, trivial⟩) rfl ?_
    refine E_v Tb_ok (v := .int _ _) (av rfl ⟨trivial, rfl⟩) rfl ?_
    refine E_v Tb_ok (v := .int _ _) (av rfl ⟨trivial, trivial⟩) rfl ?_
    refine E_v Tb_ok (v := .ptr _ _ _) (av rfl ⟨trivial, trivial⟩) rfl ?_
    refine E_v Tb_ok (v := .int _ _) (av rfl ⟨trivial, rfl⟩) rfl ?_
    refine E_v Tb_ok (v := .int _ _) (av rfl ⟨trivial, trivial⟩) rfl ?_
    refine E_v Tb_ok (v := .ptr _ _ _) (av rfl ⟨trivial, trivial⟩) rfl ?_
    refine E_v Tb_ok (v := .int _ _) (av rfl ⟨trivial, rfl⟩) rfl ?_
    refine E_v Tb_ok (v := .agg [.int _ _, .int _ _, .int _ _]) (av rfl ⟨trivial, rfl⟩) rfl ?_
    refine E_v Tb_ok (v := .int _ _) (av rfl ⟨trivial, trivial⟩) rfl ?_
    refine LexE_nil ?_
    refine L_store Tb_ok (v := .agg [.int _ _, .int _ _, .int _ _]) (cs := [_, _, _]) (es' := [[_, _, _]]) rfl rfl rfl rfl rfl rfl rfl rfl rfl rfl ⟨trivial, trivial⟩ ?_
    refine WL_nil ?_
    refine W_region rfl ?_
    refine L_v Tb_ok (v := .int _ _) (av rfl ⟨trivial, trivial⟩) rfl ?_
    refine L_v Tb_ok (v := .int _ _) (av rfl ⟨trivial, trivial⟩) rfl ?_
    refine WL_nil ?_
    refine W_seq ?_
    refine W_drawF (fun e => [idOf (get e 4)]) 12 [[12, 13, 14, 15]] Tb_mixed rfl (by decide) (by kernel_rfl) ?_
    refine S_v Tb_ok (v := .agg [.int _ _, .int _ _, .int _ _]) (av rfl ⟨trivial, rfl⟩) rfl ?_
    refine S_v Tb_ok (v := .int _ _) (av rfl ⟨trivial, trivial⟩) rfl ?_
    refine S_v Tb_ok (v := .ptr _ _ _) (av rfl ⟨trivial, trivial⟩) rfl ?_
    refine S_v Tb_ok (v := .int _ _) (av rfl ⟨trivial, rfl⟩) rfl ?_
    refine S_v Tb_ok (v := .ptr _ _ _) (av rfl ⟨trivial, trivial⟩) rfl ?_
    refine S_v Tb_ok (v := .int _ _) (av rfl ⟨trivial, rfl⟩) rfl ?_
    refine S_v Tb_ok (v := .int _ _) (av rfl ⟨trivial, trivial⟩) rfl ?_
    refine S_v Tb_ok (v := .ptr _ _ _) (av rfl ⟨trivial, trivial⟩) rfl ?_
    refine S_v Tb_ok (v := .int _ _) (av rfl ⟨trivial, rfl⟩) rfl ?_
    refine S_v Tb_ok (v := .int _ _) (av rfl ⟨trivial, trivial⟩) rfl ?_
    refine S_v Tb_ok (v := .int _ _) (av rfl ⟨trivial, trivial⟩) rfl ?_
    refine S_v Tb_ok (v := .int _ _) (av rfl ⟨trivial, trivial⟩) rfl ?_
    refine S_nil ?_
    refine TT_one ?_
    refine TT_store Tb_ok (OSub_forget _ _) rfl (v := .agg [.int _ _, .int _ _, .int _ _]) (cs := [_, _, _]) (es' := [[_, _, _]]) rfl rfl rfl rfl rfl rfl rfl rfl rfl rfl rfl ⟨trivial, trivial⟩ (fun ht1 => ?_)
    refine TT_v Tb_ok ht1 rfl (v := .int _ _) (av rfl ⟨trivial, trivial⟩) rfl (fun ht2 => ?_)
    refine TT_v Tb_ok ht2 rfl (v := .int _ _) (av rfl ⟨trivial, trivial⟩) rfl (fun ht3 => ?_)
    refine TT_v Tb_ok ht3 rfl (v := .int _ _) (av rfl ⟨trivial, trivial⟩) rfl (fun ht4 => ?_)
    refine TT_nil ?_
    clear ht1 ht2 ht3 ht4
    refine W_ret ?_
    refine ends (l := [.agg [.int _ _, .int _ _, .int _ _], .int _ _, .int _ _, .int _ _]) (q := .tup [.agg [.int _ _, .int _ _, .int _ _], .int _ _, .int _ _, .int _ _]) (.inr rfl) rfl ⟨rfl, trivial, trivial, trivial, trivial⟩ rfl rfl ?_
    first | (simp_all [mkX, mkE, mkS, mkL, mkT, mkW, w64, shapeC]; done) | (simp_all [mkS, mkL, mkT, mkW, w64, shapeC, mkX])
  · refine W_seq ?_
    refine W_region rfl ?_
    refine L_v Tb_ok (v := .bool _) (av rfl ⟨trivial, trivial⟩) rfl ?_
    refine L_v Tb_ok (v := .bool _) (av rfl ⟨trivial, trivial⟩) rfl ?_
    refine WL_nil ?_
    refine W_cond (b := _) rfl (fun h64 => ?_) (fun h64 => ?_)
    · refine W_seq ?_
      refine W_region rfl ?_
      refine L_v Tb_ok (v := .int _ _) (av rfl ⟨trivial, trivial⟩) rfl ?_
      refine L_v Tb_ok (v := .ptr _ _ _) (av rfl ⟨trivial, trivial⟩) rfl ?_
      refine L_v Tb_ok (v := .int _ _) (av rfl ⟨trivial, rfl⟩) rfl ?_
      refine L_v Tb_ok (v := .int _ _) (av rfl ⟨trivial, trivial⟩) rfl ?_
      refine L_v Tb_ok (v := .int _ _) (av rfl ⟨trivial, trivial⟩) rfl ?_
      refine WL_nil ?_
      refine W_draw 5 Tb_mixed rfl (by decide) (by kernel_rfl) (by kernel_rfl) ?_
      refine E_v Tb_ok (v := .int _ _) (av rfl ⟨trivial, trivial⟩) rfl ?_
      refine E_v Tb_ok (v := .ptr _ _ _) (av rfl ⟨trivial, trivial⟩) rfl ?_
      refine E_v Tb_ok (v := .int _ _) (av rfl ⟨trivial, rfl⟩) rfl ?_
      refine E_v Tb_ok (v := .int _ _) (av rfl ⟨trivial, trivial⟩) rfl ?_
      refine E_v Tb_ok (v := .ptr _ _ _) (av rfl ⟨trivial, trivial⟩) rfl ?_
      refine LexE_nil ?_
      refine L_store Tb_ok (v := .int _ _) (cs := [_]) (es' := [[_, _, _]]) rfl rfl rfl rfl rfl rfl rfl rfl rfl rfl ⟨trivial, trivial⟩ ?_
      refine WL_nil ?_
      refine W_seq ?_
      refine W_drawF (fun e => [idOf (get e 4)]) 12 [[12, 13, 14, 15]] Tb_mixed rfl (by decide) (by kernel_rfl) ?_
      refine S_v Tb_ok (v := .agg [.int _ _, .int _ _, .int _ _]) (av rfl ⟨trivial, rfl⟩) rfl ?_
      refine S_v Tb_ok (v := .int _ _) (av rfl ⟨trivial, trivial⟩) rfl ?_
      refine S_v Tb_ok (v := .ptr _ _ _) (av rfl ⟨trivial, trivial⟩) rfl ?_
      refine S_v Tb_ok (v := .int _ _) (av rfl ⟨trivial, rfl⟩) rfl ?_
      refine S_v Tb_ok (v := .ptr _ _ _) (av rfl ⟨trivial, trivial⟩) rfl ?_
      refine S_v Tb_ok (v := .int _ _) (av rfl ⟨trivial, rfl⟩) rfl ?_
      refine S_v Tb_ok (v := .int _ _) (av rfl ⟨trivial, trivial⟩) rfl ?_
      refine S_v Tb_ok (v := .ptr _ _ _) (av rfl ⟨trivial, trivial⟩) rfl ?_
      refine S_v Tb_ok (v := .int _ _) (av rfl ⟨trivial, rfl⟩) rfl ?_
      refine S_v Tb_ok (v := .int _ _) (av rfl ⟨trivial, trivial⟩) rfl ?_
      refine S_v Tb_ok (v := .int _ _) (av rfl ⟨trivial, trivial⟩) rfl ?_
      refine S_v Tb_ok (v := .int _ _) (av rfl ⟨trivial, trivial⟩) rfl ?_
      refine S_nil ?_
      refine TT_one ?_
      refine TT_store Tb_ok (OSub_forget _ _) rfl (v := .agg [.int _ _, .int _ _, .int _ _]) (cs := [_, _, _]) (es' := [[_, _, _]]) rfl rfl rfl rfl rfl rfl rfl rfl rfl rfl rfl ⟨trivial, trivial⟩ (fun ht1 => ?_)
      refine TT_v Tb_ok ht1 rfl (v := .int _ _) (av rfl ⟨trivial, trivial⟩) rfl (fun ht2 => ?_)
      refine TT_v Tb_ok ht2 rfl (v := .int _ _) (av rfl ⟨trivial, trivial⟩) rfl (fun ht3 => ?_)
      refine TT_v Tb_ok ht3 rfl (v := .int _ _) (av rfl ⟨trivial, trivial⟩) rfl (fun ht4 => ?_)
      refine TT_nil ?_
      clear ht1 ht2 ht3 ht4
      refine W_ret ?_
      refine ends (l := [.agg [.int _ _, .int _ _, .int _ _], .int _ _, .int _ _, .int _ _]) (q := .tup [.agg [.int _ _, .int _ _, .int _ _], .int _ _, .int _ _, .int _ _]) (.inr rfl) rfl ⟨rfl, trivial, trivial, trivial, trivial⟩ rfl rfl ?_
      first | (simp_all [mkX, mkE, mkS, mkL, mkT, mkW, w64, shapeC]; done) | (simp_all [mkS, mkL, mkT, mkW, w64, shapeC, mkX])
    · refine W_seq ?_
      refine W_seq ?_
      refine W_region rfl ?_
      refine L_v Tb_ok (v := .bool _) (av rfl ⟨trivial, trivial⟩) rfl ?_
      refine L_v Tb_ok (v := .bool _) (av rfl ⟨trivial, trivial⟩) rfl ?_
      refine WL_nil ?_
      refine W_cond (b := _) rfl (fun h74 => ?_) (fun h74 => ?_)
      · refine W_skip ?_
        refine W_cond (b := _) rfl (fun h74_1 => ?_) (fun h74_1 => ?_)
        · refine W_region rfl ?_
          refine L_v Tb_ok (v := .int _ _) (av rfl ⟨trivial, trivial⟩) rfl ?_
          refine L_v Tb_ok (v := .int _ _) (av rfl ⟨trivial, trivial⟩) rfl ?_
          refine WL_nil ?_
          refine W_seq ?_
          refine W_drawF (fun e => [idOf (get e 4)]) 12 [[12, 13, 14, 15]] Tb_mixed rfl (by decide) (by kernel_rfl) ?_
          refine S_v Tb_ok (v := .agg [.int _ _, .int _ _, .int _ _]) (av rfl ⟨trivial, rfl⟩) rfl ?_
          refine S_v Tb_ok (v := .int _ _) (av rfl ⟨trivial, trivial⟩) rfl ?_
          refine S_v Tb_ok (v := .ptr _ _ _) (av rfl ⟨trivial, trivial⟩) rfl ?_
          refine S_v Tb_ok (v := .int _ _) (av rfl ⟨trivial, rfl⟩) rfl ?_
          refine S_v Tb_ok (v := .ptr _ _ _) (av rfl ⟨trivial, trivial⟩) rfl ?_
          refine S_v Tb_ok (v := .int _ _) (av rfl ⟨trivial, rfl⟩) rfl ?_
          refine S_v Tb_ok (v := .int _ _) (av rfl ⟨trivial, trivial⟩) rfl ?_
          refine S_v Tb_ok (v := .ptr _ _ _) (av rfl ⟨trivial, trivial⟩) rfl ?_
          refine S_v Tb_ok (v := .int _ _) (av rfl ⟨trivial, rfl⟩) rfl ?_
          refine S_v Tb_ok (v := .int _ _) (av rfl ⟨trivial, trivial⟩) rfl ?_
          refine S_v Tb_ok (v := .int _ _) (av rfl ⟨trivial, trivial⟩) rfl ?_
          refine S_v Tb_ok (v := .int _ _) (av rfl ⟨trivial, trivial⟩) rfl ?_
          refine S_nil ?_
          refine TT_one ?_
          refine TT_store Tb_ok (OSub_forget _ _) rfl (v := .agg [.int _ _, .int _ _, .int _ _]) (cs := [_, _, _]) (es' := [[_, _, _]]) rfl rfl rfl rfl rfl rfl rfl rfl rfl rfl rfl ⟨trivial, trivial⟩ (fun ht1 => ?_)
          refine TT_v Tb_ok ht1 rfl (v := .int _ _) (av rfl ⟨trivial, trivial⟩) rfl (fun ht2 => ?_)
          refine TT_v Tb_ok ht2 rfl (v := .int _ _) (av rfl ⟨trivial, trivial⟩) rfl (fun ht3 => ?_)
          refine TT_v Tb_ok ht3 rfl (v := .int _ _) (av rfl ⟨trivial, trivial⟩) rfl (fun ht4 => ?_)
          refine TT_nil ?_
          clear ht1 ht2 ht3 ht4
          refine W_ret ?_
          refine ends (l := [.agg [.int _ _, .int _ _, .int _ _], .int _ _, .int _ _, .int _ _]) (q := .tup [.agg [.int _ _, .int _ _, .int _ _], .int _ _, .int _ _, .int _ _]) (.inr rfl) rfl ⟨rfl, trivial, trivial, trivial, trivial⟩ rfl rfl ?_
          first | (simp_all [mkX, mkE, mkS, mkL, mkT, mkW, w64, shapeC]; done) | (simp_all [mkS, mkL, mkT, mkW, w64, shapeC, mkX])
        · refine W_skip ?_
          refine W_seq ?_
          refine W_drawF (fun e => [idOf (get e 4)]) 12 [[12, 13, 14, 15]] Tb_mixed rfl (by decide) (by kernel_rfl) ?_
          refine S_v Tb_ok (v := .agg [.int _ _, .int _ _, .int _ _]) (av rfl ⟨trivial, rfl⟩) rfl ?_
          refine S_v Tb_ok (v := .int _ _) (av rfl ⟨trivial, trivial⟩) rfl ?_
          refine S_v Tb_ok (v := .ptr _ _ _) (av rfl ⟨trivial, trivial⟩) rfl ?_
          refine S_v Tb_ok (v := .int _ _) (av rfl ⟨trivial, rfl⟩) rfl ?_
          refine S_v Tb_ok (v := .ptr _ _ _) (av rfl ⟨trivial, trivial⟩) rfl ?_
          refine S_v Tb_ok (v := .int _ _) (av rfl ⟨trivial, rfl⟩) rfl ?_
          refine S_v Tb_ok (v := .int _ _) (av rfl ⟨trivial, trivial⟩) rfl ?_
          refine S_v Tb_ok (v := .ptr _ _ _) (av rfl ⟨trivial, trivial⟩) rfl ?_
          refine S_v Tb_ok (v := .int _ _) (av rfl ⟨trivial, rfl⟩) rfl ?_
          refine S_v Tb_ok (v := .int _ _) (av rfl ⟨trivial, trivial⟩) rfl ?_
          refine S_v Tb_ok (v := .int _ _) (av rfl ⟨trivial, trivial⟩) rfl ?_
          refine S_v Tb_ok (v := .int _ _) (av rfl ⟨trivial, trivial⟩) rfl ?_
          refine S_nil ?_
          refine TT_one ?_
          refine TT_store Tb_ok (OSub_forget _ _) rfl (v := .agg [.int _ _, .int _ _, .int _ _]) (cs := [_, _, _]) (es' := [[_, _, _]]) rfl rfl rfl rfl rfl rfl rfl rfl rfl rfl rfl ⟨trivial, trivial⟩ (fun ht1 => ?_)
          refine TT_v Tb_ok ht1 rfl (v := .int _ _) (av rfl ⟨trivial, trivial⟩) rfl (fun ht2 => ?_)
          refine TT_v Tb_ok ht2 rfl (v := .int _ _) (av rfl ⟨trivial, trivial⟩) rfl (fun ht3 => ?_)
          refine TT_v Tb_ok ht3 rfl (v := .int _ _) (av rfl ⟨trivial, trivial⟩) rfl (fun ht4 => ?_)
          refine TT_nil ?_
          clear ht1 ht2 ht3 ht4
          refine W_ret ?_
          refine ends (l := [.agg [.int _ _, .int _ _, .int _ _], .int _ _, .int _ _, .int _ _]) (q := .tup [.agg [.int _ _, .int _ _, .int _ _], .int _ _, .int _ _, .int _ _]) (.inr rfl) rfl ⟨rfl, trivial, trivial, trivial, trivial⟩ rfl rfl ?_
          first | (simp_all [mkX, mkE, mkS, mkL, mkT, mkW, w64, shapeC]; done) | (simp_all [mkS, mkL, mkT, mkW, w64, shapeC, mkX])
      · refine W_region rfl ?_
        refine L_v Tb_ok (v := .bool _) (av rfl ⟨trivial, trivial⟩) rfl ?_
        refine L_v Tb_ok (v := .bool _) (av rfl ⟨trivial, trivial⟩) rfl ?_
        refine WL_nil ?_
        refine W_cond (b := _) rfl (fun h74_2 => ?_) (fun h74_2 => ?_)
        · refine W_region rfl ?_
          refine L_v Tb_ok (v := .int _ _) (av rfl ⟨trivial, trivial⟩) rfl ?_
          refine L_v Tb_ok (v := .int _ _) (av rfl ⟨trivial, trivial⟩) rfl ?_
          refine WL_nil ?_
          refine W_seq ?_
          refine W_drawF (fun e => [idOf (get e 4)]) 12 [[12, 13, 14, 15]] Tb_mixed rfl (by decide) (by kernel_rfl) ?_
          refine S_v Tb_ok (v := .agg [.int _ _, .int _ _, .int _ _]) (av rfl ⟨trivial, rfl⟩) rfl ?_
          refine S_v Tb_ok (v := .int _ _) (av rfl ⟨trivial, trivial⟩) rfl ?_
          refine S_v Tb_ok (v := .ptr _ _ _) (av rfl ⟨trivial, trivial⟩) rfl ?_
          refine S_v Tb_ok (v := .int _ _) (av rfl ⟨trivial, rfl⟩) rfl ?_
          refine S_v Tb_ok (v := .ptr _ _ _) (av rfl ⟨trivial, trivial⟩) rfl ?_
          refine S_v Tb_ok (v := .int _ _) (av rfl ⟨trivial, rfl⟩) rfl ?_
          refine S_v Tb_ok (v := .int _ _) (av rfl ⟨trivial, trivial⟩) rfl ?_
          refine S_v Tb_ok (v := .ptr _ _ _) (av rfl ⟨trivial, trivial⟩) rfl ?_
          refine S_v Tb_ok (v := .int _ _) (av rfl ⟨trivial, rfl⟩) rfl ?_
          refine S_v Tb_ok (v := .int _ _) (av rfl ⟨trivial, trivial⟩) rfl ?_
          refine S_v Tb_ok (v := .int _ _) (av rfl ⟨trivial, trivial⟩) rfl ?_
          refine S_v Tb_ok (v := .int _ _) (av rfl ⟨trivial, trivial⟩) rfl ?_
          refine S_nil ?_
          refine TT_one ?_
          refine TT_store Tb_ok (OSub_forget _ _) rfl (v := .agg [.int _ _, .int _ _, .int _ _]) (cs := [_, _, _]) (es' := [[_, _, _]]) rfl rfl rfl rfl rfl rfl rfl rfl rfl rfl rfl ⟨trivial, trivial⟩ (fun ht1 => ?_)
          refine TT_v Tb_ok ht1 rfl (v := .int _ _) (av rfl ⟨trivial, trivial⟩) rfl (fun ht2 => ?_)
          refine TT_v Tb_ok ht2 rfl (v := .int _ _) (av rfl ⟨trivial, trivial⟩) rfl (fun ht3 => ?_)
          refine TT_v Tb_ok ht3 rfl (v := .int _ _) (av rfl ⟨trivial, trivial⟩) rfl (fun ht4 => ?_)
          refine TT_nil ?_
          clear ht1 ht2 ht3 ht4
          refine W_ret ?_
          refine ends (l := [.agg [.int _ _, .int _ _, .int _ _], .int _ _, .int _ _, .int _ _]) (q := .tup [.agg [.int _ _, .int _ _, .int _ _], .int _ _, .int _ _, .int _ _]) (.inr rfl) rfl ⟨rfl, trivial, trivial, trivial, trivial⟩ rfl rfl ?_
          first | (simp_all [mkX, mkE, mkS, mkL, mkT, mkW, w64, shapeC]; done) | (simp_all [mkS, mkL, mkT, mkW, w64, shapeC, mkX])
        · refine W_skip ?_
          refine W_seq ?_
          refine W_drawF (fun e => [idOf (get e 4)]) 12 [[12, 13, 14, 15]] Tb_mixed rfl (by decide) (by kernel_rfl) ?_
          refine S_v Tb_ok (v := .agg [.int _ _, .int _ _, .int _ _]) (av rfl ⟨trivial, rfl⟩) rfl ?_
          refine S_v Tb_ok (v := .int _ _) (av rfl ⟨trivial, trivial⟩) rfl ?_
          refine S_v Tb_ok (v := .ptr _ _ _) (av rfl ⟨trivial, trivial⟩) rfl ?_
          refine S_v Tb_ok (v := .int _ _) (av rfl ⟨trivial, rfl⟩) rfl ?_
          refine S_v Tb_ok (v := .ptr _ _ _) (av rfl ⟨trivial, trivial⟩) rfl ?_
          refine S_v Tb_ok (v := .int _ _) (av rfl ⟨trivial, rfl⟩) rfl ?_
          refine S_v Tb_ok (v := .int _ _) (av rfl ⟨trivial, trivial⟩) rfl ?_
          refine S_v Tb_ok (v := .ptr _ _ _) (av rfl ⟨trivial, trivial⟩) rfl ?_
          refine S_v Tb_ok (v := .int _ _) (av rfl ⟨trivial, rfl⟩) rfl ?_
          refine S_v Tb_ok (v := .int _ _) (av rfl ⟨trivial, trivial⟩) rfl ?_
          refine S_v Tb_ok (v := .int _ _) (av rfl ⟨trivial, trivial⟩) rfl ?_
          refine S_v Tb_ok (v := .int _ _) (av rfl ⟨trivial, trivial⟩) rfl ?_
          refine S_nil ?_
          refine TT_one ?_
          refine TT_store Tb_ok (OSub_forget _ _) rfl (v := .agg [.int _ _, .int _ _, .int _ _]) (cs := [_, _, _]) (es' := [[_, _, _]]) rfl rfl rfl rfl rfl rfl rfl rfl rfl rfl rfl ⟨trivial, trivial⟩ (fun ht1 => ?_)
          refine TT_v Tb_ok ht1 rfl (v := .int _ _) (av rfl ⟨trivial, trivial⟩) rfl (fun ht2 => ?_)
          refine TT_v Tb_ok ht2 rfl (v := .int _ _) (av rfl ⟨trivial, trivial⟩) rfl (fun ht3 => ?_)
          refine TT_v Tb_ok ht3 rfl (v := .int _ _) (av rfl ⟨trivial, trivial⟩) rfl (fun ht4 => ?_)
          refine TT_nil ?_
          clear ht1 ht2 ht3 ht4
          refine W_ret ?_
          refine ends (l := [.agg [.int _ _, .int _ _, .int _ _], .int _ _, .int _ _, .int _ _]) (q := .tup [.agg [.int _ _, .int _ _, .int _ _], .int _ _, .int _ _, .int _ _]) (.inr rfl) rfl ⟨rfl, trivial, trivial, trivial, trivial⟩ rfl rfl ?_
          first | (simp_all [mkX, mkE, mkS, mkL, mkT, mkW, w64, shapeC]; done) | (simp_all [mkS, mkL, mkT, mkW, w64, shapeC, mkX])

end Go.AM
end
section
open Go Go.AM Go.Proofs
set_option maxRecDepth 10000
set_option linter.unusedVariables false
set_option linter.unusedSimpArgs false
namespace Go.AM
def op1 (o : MOp) : Bool := !inB o.Kind 1 8
def op2 (o : MOp) (l : List Shape) : Bool := bif bif decide (o.A < 0) then true else decide (o.A ≥ ((l.map shapeC).length : Int)) then true else bif (ofU o.Kind).b then bif decide (o.B < 0) then true else decide (o.B ≥ ((l.map shapeC).length : Int)) else false
def op3 (o : MOp) : Bool := !emptyB (bareF (ofU o.Kind) o)
def op4 (o : MOp) : Bool := bif (ofU o.Kind).m then bif decide (o.M < 1) then true else decide (o.M > 1024) else false
def inA (o : MOp) (l : List Shape) : Shape := l.getD o.A.toNat default
def inS (o : MOp) (l : List Shape) : Shape := l.getD o.B.toNat default
def op5 (o : MOp) (l : List Shape) : Bool := mkE o (inA o l) != 0
def shapeQ (a b : Shape) : Bool := a.H == b.H && (a.W == b.W && (a.C == b.C && true))
def op6 (o : MOp) (l : List Shape) : Bool := bif shapeE (mkS o (inA o l)) != 0 then true else bif (ofU o.Kind).b then !shapeQ (inS o l) (inA o l) else false
def opR (o : MOp) (l : List Shape) : Int := bif (ofU o.Kind).weights then (mkS o (inA o l)).C else 0
def op7 (o : MOp) (l : List Shape) : Bool := decide (mkL o (inA o l) > 512)
def op8 (o : MOp) (l : List Shape) : Bool := bif ((o.Weights.map i16C).length : Int) != w64 (opR o l * mkL o (inA o l)) then true else ((o.Bias.map i32C).length : Int) != opR o l
def scaleB (s : Scale) : Bool := inB s.Mult 1 2147483647 && inB s.Shift 0 62
def op9 (o : MOp) : Bool := bif bif (ofU o.Kind).sa then !scaleB o.SA else false then true else bif (ofU o.Kind).sb then !scaleB o.SB else false
def op10 (o : MOp) : Bool := bif !bytesB [o.Lo, o.Hi, o.Zero, o.Pad] then true else decide (o.Lo > o.Hi)
/-- the op's error -/
def opE (o : MOp) (l : List Shape) : Int := if op1 o then 81 else if op2 o l then 82 else if op3 o then 83 else if op4 o then 2 else if op5 o l then mkE o (inA o l) else if op6 o l then 50 else if op7 o l then 84 else if op8 o l then 70 else if op9 o then 20 else if op10 o then 85 else 0
def opS (o : MOp) (l : List Shape) : Shape := if op1 o then ⟨0, 0, 0⟩ else if op2 o l then ⟨0, 0, 0⟩ else if op3 o then ⟨0, 0, 0⟩ else if op4 o then ⟨0, 0, 0⟩ else if op5 o l then ⟨0, 0, 0⟩ else if op6 o l then ⟨0, 0, 0⟩ else if op7 o l then ⟨0, 0, 0⟩ else if op8 o l then ⟨0, 0, 0⟩ else if op9 o then ⟨0, 0, 0⟩ else if op10 o then ⟨0, 0, 0⟩ else mkS o (inA o l)
def opW (o : MOp) (l : List Shape) : Int := if op1 o then 0 else if op2 o l then 0 else if op3 o then 0 else if op4 o then 0 else if op5 o l then 0 else if op6 o l then 0 else if op7 o l then 0 else if op8 o l then 0 else if op9 o then 0 else if op10 o then 0 else mkW o (inA o l)
theorem model_op (o : MOp) (l : List Shape) : Ok Try.prog 71 [.agg (opC o), .ro (l.map shapeC)] (.tup [.agg (shapeC (opS o l)), .int .i64 (opW o l), .int .i64 (opE o l)]) := by
  refine fn_ok Tb_ok (fn := Try.f71) Try.func71 rfl rfl (e := [(0, _), (1, _)]) rfl (by decide) rfl ?_
  refine W_seq ?_
  refine W_region rfl ?_
  refine L_box Tb_ok (cs := [.int _ _, .int _ _, .int _ _, .int _ _, .int _ _, .int _ _, .int _ _, .int _ _, .int _ _, .int _ _, .int _ _, .int _ _, _, _, .int _ _, .int _ _, .int _ _, .int _ _, .int _ _, .int _ _, .int _ _, .int _ _]) (n := 22) rfl rfl rfl rfl trivial ?_
  refine L_alloc Tb_ok (z := [.int .i64 0, .int .i64 0, .int .i64 0]) (n := 3) rfl rfl rfl rfl rfl ?_
  refine L_v Tb_ok (v := .int _ _) (av rfl ⟨trivial, trivial⟩) rfl ?_
  refine L_v Tb_ok (v := .int _ _) (av rfl ⟨trivial, trivial⟩) rfl ?_
  refine WL_nil ?_
  refine W_seq ?_
  refine W_region rfl ?_
  refine L_v Tb_ok (v := .agg [.int _ _, .int _ _, .int _ _]) (av rfl ⟨trivial, rfl⟩) rfl ?_
  refine L_alloc Tb_ok (z := [.int .i64 0, .int .i64 0, .int .i64 0]) (n := 3) rfl rfl rfl rfl rfl ?_
  refine L_store Tb_ok (v := .agg [.int _ _, .int _ _, .int _ _]) (cs := [_, _, _]) (es' := [[_, _, _]]) rfl rfl rfl rfl rfl rfl rfl rfl rfl rfl ⟨trivial, trivial⟩ ?_
  refine WL_nil ?_
  refine W_seq ?_
  refine W_region rfl ?_
  refine L_v Tb_ok (v := .ptr _ _ _) (av rfl ⟨trivial, trivial⟩) rfl ?_
  refine L_v Tb_ok (v := .int _ _) (av rfl ⟨trivial, rfl⟩) rfl ?_
  refine L_call (hr := model_of o.Kind) rfl rfl trivial rfl rfl ?_
  refine L_v Tb_ok (v := .tup [_, _]) (av rfl ⟨trivial, trivial⟩) rfl ?_
  refine L_v Tb_ok (v := .agg [.bool _, .bool _, .bool _, .bool _, .bool _, .bool _, .bool _, .bool _]) (av rfl ⟨trivial, trivial⟩) rfl ?_
  refine L_v Tb_ok (v := .bool _) (av rfl ⟨trivial, trivial⟩) rfl ?_
  refine L_alloc Tb_ok (z := [.bool false, .bool false, .bool false, .bool false, .bool false, .bool false, .bool false, .bool false]) (n := 8) rfl rfl rfl rfl rfl ?_
  refine L_store Tb_ok (v := .agg [.bool _, .bool _, .bool _, .bool _, .bool _, .bool _, .bool _, .bool _]) (cs := [_, _, _, _, _, _, _, _]) (es' := [[_, _, _, _, _, _, _, _]]) rfl rfl rfl rfl rfl rfl rfl rfl rfl rfl ⟨trivial, trivial⟩ ?_
  refine L_v Tb_ok (v := .bool _) (av rfl ⟨trivial, trivial⟩) rfl ?_
  refine WL_nil ?_
  refine W_seq ?_
  refine W_block ?_
  refine W_seq ?_
  refine W_region rfl ?_
  refine L_v Tb_ok (v := .bool _) (av rfl ⟨trivial, trivial⟩) rfl ?_
  refine L_v Tb_ok (v := .bool _) (av rfl ⟨trivial, trivial⟩) rfl ?_
  refine L_v Tb_ok (v := .bool _) (av rfl ⟨trivial, trivial⟩) rfl ?_
  refine WL_nil ?_
  refine W_cond (b := _) rfl (fun h25 => ?_) (fun h25 => ?_)
  · refine W_seq ?_
    refine W_region rfl ?_
    refine L_v Tb_ok (v := .agg [.int _ _, .int _ _, .int _ _]) (av rfl ⟨trivial, rfl⟩) rfl ?_
    refine L_store Tb_ok (v := .agg [.int _ _, .int _ _, .int _ _]) (cs := [_, _, _]) (es' := [[_, _, _]]) rfl rfl rfl rfl rfl rfl rfl rfl rfl rfl ⟨trivial, trivial⟩ ?_
    refine L_v Tb_ok (v := .int _ _) (av rfl ⟨trivial, trivial⟩) rfl ?_
    refine L_v Tb_ok (v := .int _ _) (av rfl ⟨trivial, trivial⟩) rfl ?_
    refine WL_nil ?_
    refine W_ret ?_
    refine ends (l := [.agg [.int _ _, .int _ _, .int _ _], .int _ _, .int _ _]) (q := .tup [.agg [.int _ _, .int _ _, .int _ _], .int _ _, .int _ _]) (.inr rfl) rfl ⟨rfl, trivial, trivial, trivial⟩ rfl rfl ?_
    try replace h25 : op1 o = true := h25
    try replace h25 : op1 o = false := h25
    try replace h29 : op2 o l = true := h29
    try replace h29 : op2 o l = false := h29
    try replace h57 : op3 o = true := h57
    try replace h57 : op3 o = false := h57
    try replace h64 : op4 o = true := h64
    try replace h64 : op4 o = false := h64
    try replace h92 : op5 o l = true := h92
    try replace h92 : op5 o l = false := h92
    try replace h114 : op6 o l = true := h114
    try replace h114 : op6 o l = false := h114
    try replace h120 : op7 o l = true := h120
    try replace h120 : op7 o l = false := h120
    try replace h124 : op8 o l = true := h124
    try replace h124 : op8 o l = false := h124
    try replace h140 : op9 o = true := h140
    try replace h140 : op9 o = false := h140
    try replace h160 : op10 o = true := h160
    try replace h160 : op10 o = false := h160
    simp [opE, opS, opW, *, shapeC] <;> simp [inA]
  · refine W_seq ?_
    refine W_region rfl ?_
    refine L_v Tb_ok (v := .ptr _ _ _) (av rfl ⟨trivial, trivial⟩) rfl ?_
    refine L_v Tb_ok (v := .int _ _) (av rfl ⟨trivial, rfl⟩) rfl ?_
    refine L_v Tb_ok (v := .bool _) (av rfl ⟨trivial, trivial⟩) rfl ?_
    refine L_v Tb_ok (v := .bool _) (av rfl ⟨trivial, trivial⟩) rfl ?_
    refine L_g Tb_ok (v := .ptr _ _ _) rfl rfl ((fun hg => (av rfl ⟨trivial, trivial⟩))) rfl rfl ?_
    refine L_g Tb_ok (v := .int _ _) rfl rfl ((fun hg => (av rfl ⟨⟨⟨(by first | exact hg | (simp_all; done) | (simp at hg ⊢; simp [hg])), True.intro⟩, True.intro⟩, rfl⟩))) rfl rfl ?_
    first | (refine L_g Tb_ok (v := .ro _) rfl rfl ((fun hg => (av rfl ⟨trivial, trivial⟩))) rfl rfl ?_) | (refine L_g Tb_ok (v := .app _ _) rfl rfl ((fun hg => (av rfl ⟨trivial, trivial⟩))) rfl rfl ?_) | (refine L_g Tb_ok (v := .row _ _ _) rfl rfl ((fun hg => (av rfl ⟨trivial, trivial⟩))) rfl rfl ?_) | (refine L_g Tb_ok (v := .nils) rfl rfl ((fun hg => (av rfl ⟨trivial, trivial⟩))) rfl rfl ?_)
    refine L_g Tb_ok (v := .int _ _) rfl rfl ((fun hg => (av rfl ⟨⟨⟨(by first | exact hg | (simp_all; done) | (simp at hg ⊢; simp [hg])), True.intro⟩, True.intro⟩, trivial⟩))) rfl rfl ?_
    refine L_g Tb_ok (v := .bool _) rfl rfl ((fun hg => (av rfl ⟨⟨⟨(by first | exact hg | (simp_all; done) | (simp at hg ⊢; simp [hg])), True.intro⟩, ⟨⟨(by first | exact hg | (simp_all; done) | (simp at hg ⊢; simp [hg])), True.intro⟩, True.intro⟩⟩, trivial⟩))) rfl rfl ?_
    refine L_v Tb_ok (v := .bool _) (av rfl (by refine ⟨?_, fun h => ?_, fun h => ?_⟩ <;> first | exact True.intro | exact ⟨h, True.intro⟩ | (refine ⟨?_, True.intro⟩; first | (rw [h]; done) | (rw [h]; rfl) | (simp [h]; done) | (simp at h hg ⊢; simp [h, hg]; done) | (simp_all; done) | (simp_all; omega)))) rfl ?_
    refine L_v Tb_ok (v := .bool _) (av rfl ⟨trivial, trivial⟩) rfl ?_
    refine L_g Tb_ok (v := .ptr _ _ _) rfl rfl ((fun hg => (av rfl ⟨trivial, trivial⟩))) rfl rfl ?_
    refine L_g Tb_ok (v := .bool _) rfl rfl ((fun hg => (av rfl ⟨⟨⟨(by first | exact hg | (simp_all; done) | (simp at hg ⊢; simp [hg])), True.intro⟩, True.intro⟩, rfl⟩))) rfl rfl ?_
    refine L_g Tb_ok (v := .bool _) rfl rfl ((fun hg => (av rfl ⟨⟨⟨(by first | exact hg | (simp_all; done) | (simp at hg ⊢; simp [hg])), True.intro⟩, True.intro⟩, trivial⟩))) rfl rfl ?_
    refine L_g Tb_ok (v := .ptr _ _ _) rfl rfl ((fun hg => (av rfl ⟨trivial, trivial⟩))) rfl rfl ?_
    refine L_g Tb_ok (v := .int _ _) rfl rfl ((fun hg => (av rfl ⟨⟨⟨(by first | exact hg | (simp_all; done) | (simp at hg ⊢; simp [hg])), True.intro⟩, True.intro⟩, rfl⟩))) rfl rfl ?_
    refine L_g Tb_ok (v := .bool _) rfl rfl ((fun hg => (av rfl ⟨⟨⟨(by first | exact hg | (simp_all; done) | (simp at hg ⊢; simp [hg])), True.intro⟩, True.intro⟩, trivial⟩))) rfl rfl ?_
    refine L_g Tb_ok (v := .bool _) rfl rfl ((fun hg => (av rfl ⟨⟨⟨(by first | exact hg | (simp_all; done) | (simp at hg ⊢; simp [hg])), True.intro⟩, True.intro⟩, trivial⟩))) rfl rfl ?_
    refine L_g Tb_ok (v := .ptr _ _ _) rfl rfl ((fun hg => (av rfl ⟨trivial, trivial⟩))) rfl rfl ?_
    refine L_g Tb_ok (v := .int _ _) rfl rfl ((fun hg => (av rfl ⟨⟨⟨(by first | exact hg | (simp_all; done) | (simp at hg ⊢; simp [hg])), True.intro⟩, True.intro⟩, rfl⟩))) rfl rfl ?_
    first | (refine L_g Tb_ok (v := .ro _) rfl rfl ((fun hg => (av rfl ⟨trivial, trivial⟩))) rfl rfl ?_) | (refine L_g Tb_ok (v := .app _ _) rfl rfl ((fun hg => (av rfl ⟨trivial, trivial⟩))) rfl rfl ?_) | (refine L_g Tb_ok (v := .row _ _ _) rfl rfl ((fun hg => (av rfl ⟨trivial, trivial⟩))) rfl rfl ?_) | (refine L_g Tb_ok (v := .nils) rfl rfl ((fun hg => (av rfl ⟨trivial, trivial⟩))) rfl rfl ?_)
    refine L_g Tb_ok (v := .int _ _) rfl rfl ((fun hg => (av rfl ⟨⟨⟨(by first | exact hg | (simp_all; done) | (simp at hg ⊢; simp [hg])), True.intro⟩, True.intro⟩, trivial⟩))) rfl rfl ?_
    refine L_g Tb_ok (v := .bool _) rfl rfl ((fun hg => (av rfl ⟨⟨⟨(by first | exact hg | (simp_all; done) | (simp at hg ⊢; simp [hg])), True.intro⟩, ⟨⟨(by first | exact hg | (simp_all; done) | (simp at hg ⊢; simp [hg])), True.intro⟩, True.intro⟩⟩, trivial⟩))) rfl rfl ?_
    refine L_g Tb_ok (v := .bool _) rfl rfl ((fun hg => (av rfl (by refine ⟨?_, fun h => ?_, fun h => ?_⟩ <;> first | exact True.intro | exact ⟨h, True.intro⟩ | (refine ⟨?_, True.intro⟩; first | (rw [h]; done) | (rw [h]; rfl) | (simp [h]; done) | (simp at h hg ⊢; simp [h, hg]; done) | (simp_all; done) | (simp_all; omega)))))) rfl rfl ?_
    refine L_g Tb_ok (v := .bool _) rfl rfl ((fun hg => (av rfl (by refine ⟨?_, fun h => ?_, fun h => ?_⟩ <;> first | exact True.intro | exact ⟨h, True.intro⟩ | (refine ⟨?_, True.intro⟩; first | (rw [h]; done) | (rw [h]; rfl) | (simp [h]; done) | (simp at h hg ⊢; simp [h, hg]; done) | (simp_all; done) | (simp_all; omega)))))) rfl rfl ?_
    refine L_v Tb_ok (v := .bool _) (av rfl (by refine ⟨?_, fun h => ?_, fun h => ?_⟩ <;> first | exact True.intro | exact ⟨h, True.intro⟩ | (refine ⟨?_, True.intro⟩; first | (rw [h]; done) | (rw [h]; rfl) | (simp [h]; done) | (simp at h hg ⊢; simp [h, hg]; done) | (simp_all; done) | (simp_all; omega)))) rfl ?_
    refine L_v Tb_ok (v := .bool _) (av rfl ⟨trivial, trivial⟩) rfl ?_
    refine WL_nil ?_
    refine W_cond (b := _) rfl (fun h29 => ?_) (fun h29 => ?_)
    · refine W_seq ?_
      refine W_region rfl ?_
      refine L_v Tb_ok (v := .agg [.int _ _, .int _ _, .int _ _]) (av rfl ⟨trivial, rfl⟩) rfl ?_
      refine L_store Tb_ok (v := .agg [.int _ _, .int _ _, .int _ _]) (cs := [_, _, _]) (es' := [[_, _, _]]) rfl rfl rfl rfl rfl rfl rfl rfl rfl rfl ⟨trivial, trivial⟩ ?_
      refine L_v Tb_ok (v := .int _ _) (av rfl ⟨trivial, trivial⟩) rfl ?_
      refine L_v Tb_ok (v := .int _ _) (av rfl ⟨trivial, trivial⟩) rfl ?_
      refine WL_nil ?_
      refine W_ret ?_
      refine ends (l := [.agg [.int _ _, .int _ _, .int _ _], .int _ _, .int _ _]) (q := .tup [.agg [.int _ _, .int _ _, .int _ _], .int _ _, .int _ _]) (.inr rfl) rfl ⟨rfl, trivial, trivial, trivial⟩ rfl rfl ?_
      try replace h25 : op1 o = true := h25
      try replace h25 : op1 o = false := h25
      try replace h29 : op2 o l = true := h29
      try replace h29 : op2 o l = false := h29
      try replace h57 : op3 o = true := h57
      try replace h57 : op3 o = false := h57
      try replace h64 : op4 o = true := h64
      try replace h64 : op4 o = false := h64
      try replace h92 : op5 o l = true := h92
      try replace h92 : op5 o l = false := h92
      try replace h114 : op6 o l = true := h114
      try replace h114 : op6 o l = false := h114
      try replace h120 : op7 o l = true := h120
      try replace h120 : op7 o l = false := h120
      try replace h124 : op8 o l = true := h124
      try replace h124 : op8 o l = false := h124
      try replace h140 : op9 o = true := h140
      try replace h140 : op9 o = false := h140
      try replace h160 : op10 o = true := h160
      try replace h160 : op10 o = false := h160
      simp [opE, opS, opW, *, shapeC] <;> simp [inA]
    · refine W_seq ?_
      refine W_region rfl ?_
      refine L_v Tb_ok (v := .agg [.int _ _, .int _ _, .int _ _, .int _ _, .int _ _, .int _ _, .int _ _, .int _ _, .int _ _, .int _ _, .int _ _, .int _ _, _, _, .int _ _, .int _ _, .int _ _, .int _ _, .int _ _, .int _ _, .int _ _, .int _ _]) (av rfl ⟨trivial, rfl⟩) rfl ?_
      refine L_v Tb_ok (v := .agg [.bool _, .bool _, .bool _, .bool _, .bool _, .bool _, .bool _, .bool _]) (av rfl ⟨trivial, rfl⟩) rfl ?_
      refine L_call (hr := model_bare o (ofU o.Kind)) rfl rfl trivial rfl rfl ?_
      refine L_call (hr := model_empty (bareF (ofU o.Kind) o)) rfl rfl trivial rfl rfl ?_
      refine L_v Tb_ok (v := .bool _) (av rfl ⟨trivial, trivial⟩) rfl ?_
      refine L_v Tb_ok (v := .bool _) (av rfl ⟨trivial, trivial⟩) rfl ?_
      refine WL_nil ?_
      refine W_cond (b := _) rfl (fun h57 => ?_) (fun h57 => ?_)
      · refine W_seq ?_
        refine W_region rfl ?_
        refine L_v Tb_ok (v := .agg [.int _ _, .int _ _, .int _ _]) (av rfl ⟨trivial, rfl⟩) rfl ?_
        refine L_store Tb_ok (v := .agg [.int _ _, .int _ _, .int _ _]) (cs := [_, _, _]) (es' := [[_, _, _]]) rfl rfl rfl rfl rfl rfl rfl rfl rfl rfl ⟨trivial, trivial⟩ ?_
        refine L_v Tb_ok (v := .int _ _) (av rfl ⟨trivial, trivial⟩) rfl ?_
        refine L_v Tb_ok (v := .int _ _) (av rfl ⟨trivial, trivial⟩) rfl ?_
        refine WL_nil ?_
        refine W_ret ?_
        refine ends (l := [.agg [.int _ _, .int _ _, .int _ _], .int _ _, .int _ _]) (q := .tup [.agg [.int _ _, .int _ _, .int _ _], .int _ _, .int _ _]) (.inr rfl) rfl ⟨rfl, trivial, trivial, trivial⟩ rfl rfl ?_
        try replace h25 : op1 o = true := h25
        try replace h25 : op1 o = false := h25
        try replace h29 : op2 o l = true := h29
        try replace h29 : op2 o l = false := h29
        try replace h57 : op3 o = true := h57
        try replace h57 : op3 o = false := h57
        try replace h64 : op4 o = true := h64
        try replace h64 : op4 o = false := h64
        try replace h92 : op5 o l = true := h92
        try replace h92 : op5 o l = false := h92
        try replace h114 : op6 o l = true := h114
        try replace h114 : op6 o l = false := h114
        try replace h120 : op7 o l = true := h120
        try replace h120 : op7 o l = false := h120
        try replace h124 : op8 o l = true := h124
        try replace h124 : op8 o l = false := h124
        try replace h140 : op9 o = true := h140
        try replace h140 : op9 o = false := h140
        try replace h160 : op10 o = true := h160
        try replace h160 : op10 o = false := h160
        simp [opE, opS, opW, *, shapeC] <;> simp [inA]
      · refine W_seq ?_
        refine W_region rfl ?_
        refine L_v Tb_ok (v := .ptr _ _ _) (av rfl ⟨trivial, trivial⟩) rfl ?_
        refine L_v Tb_ok (v := .bool _) (av rfl ⟨trivial, rfl⟩) rfl ?_
        refine L_v Tb_ok (v := .bool _) (av rfl ⟨trivial, trivial⟩) rfl ?_
        refine L_g Tb_ok (v := .ptr _ _ _) rfl rfl ((fun hg => (av rfl ⟨trivial, trivial⟩))) rfl rfl ?_
        refine L_g Tb_ok (v := .int _ _) rfl rfl ((fun hg => (av rfl ⟨⟨⟨(by first | exact hg | (simp_all; done) | (simp at hg ⊢; simp [hg])), True.intro⟩, True.intro⟩, rfl⟩))) rfl rfl ?_
        refine L_g Tb_ok (v := .bool _) rfl rfl ((fun hg => (av rfl ⟨⟨⟨(by first | exact hg | (simp_all; done) | (simp at hg ⊢; simp [hg])), True.intro⟩, True.intro⟩, trivial⟩))) rfl rfl ?_
        refine L_g Tb_ok (v := .bool _) rfl rfl ((fun hg => (av rfl ⟨⟨⟨(by first | exact hg | (simp_all; done) | (simp at hg ⊢; simp [hg])), True.intro⟩, True.intro⟩, trivial⟩))) rfl rfl ?_
        refine L_g Tb_ok (v := .ptr _ _ _) rfl rfl ((fun hg => (av rfl ⟨trivial, trivial⟩))) rfl rfl ?_
        refine L_g Tb_ok (v := .int _ _) rfl rfl ((fun hg => (av rfl ⟨⟨⟨(by first | exact hg | (simp_all; done) | (simp at hg ⊢; simp [hg])), True.intro⟩, True.intro⟩, rfl⟩))) rfl rfl ?_
        refine L_g Tb_ok (v := .bool _) rfl rfl ((fun hg => (av rfl ⟨⟨⟨(by first | exact hg | (simp_all; done) | (simp at hg ⊢; simp [hg])), True.intro⟩, True.intro⟩, trivial⟩))) rfl rfl ?_
        refine L_g Tb_ok (v := .bool _) rfl rfl ((fun hg => (av rfl (by refine ⟨?_, fun h => ?_, fun h => ?_⟩ <;> first | exact True.intro | exact ⟨h, True.intro⟩ | (refine ⟨?_, True.intro⟩; first | (rw [h]; done) | (rw [h]; rfl) | (simp [h]; done) | (simp at h hg ⊢; simp [h, hg]; done) | (simp_all; done) | (simp_all; omega)))))) rfl rfl ?_
        refine L_v Tb_ok (v := .bool _) (av rfl (by refine ⟨?_, fun h => ?_, fun h => ?_⟩ <;> first | exact True.intro | exact ⟨h, True.intro⟩ | (refine ⟨?_, True.intro⟩; first | (rw [h]; done) | (rw [h]; rfl) | (simp [h]; done) | (simp at h hg ⊢; simp [h, hg]; done) | (simp_all; done) | (simp_all; omega)))) rfl ?_
        refine L_v Tb_ok (v := .bool _) (av rfl ⟨trivial, trivial⟩) rfl ?_
        refine WL_nil ?_
        refine W_cond (b := _) rfl (fun h64 => ?_) (fun h64 => ?_)
        · refine W_seq ?_
          refine W_region rfl ?_
          refine L_v Tb_ok (v := .agg [.int _ _, .int _ _, .int _ _]) (av rfl ⟨trivial, rfl⟩) rfl ?_
          refine L_store Tb_ok (v := .agg [.int _ _, .int _ _, .int _ _]) (cs := [_, _, _]) (es' := [[_, _, _]]) rfl rfl rfl rfl rfl rfl rfl rfl rfl rfl ⟨trivial, trivial⟩ ?_
          refine L_v Tb_ok (v := .int _ _) (av rfl ⟨trivial, trivial⟩) rfl ?_
          refine L_v Tb_ok (v := .int _ _) (av rfl ⟨trivial, trivial⟩) rfl ?_
          refine WL_nil ?_
          refine W_ret ?_
          refine ends (l := [.agg [.int _ _, .int _ _, .int _ _], .int _ _, .int _ _]) (q := .tup [.agg [.int _ _, .int _ _, .int _ _], .int _ _, .int _ _]) (.inr rfl) rfl ⟨rfl, trivial, trivial, trivial⟩ rfl rfl ?_
          try replace h25 : op1 o = true := h25
          try replace h25 : op1 o = false := h25
          try replace h29 : op2 o l = true := h29
          try replace h29 : op2 o l = false := h29
          try replace h57 : op3 o = true := h57
          try replace h57 : op3 o = false := h57
          try replace h64 : op4 o = true := h64
          try replace h64 : op4 o = false := h64
          try replace h92 : op5 o l = true := h92
          try replace h92 : op5 o l = false := h92
          try replace h114 : op6 o l = true := h114
          try replace h114 : op6 o l = false := h114
          try replace h120 : op7 o l = true := h120
          try replace h120 : op7 o l = false := h120
          try replace h124 : op8 o l = true := h124
          try replace h124 : op8 o l = false := h124
          try replace h140 : op9 o = true := h140
          try replace h140 : op9 o = false := h140
          try replace h160 : op10 o = true := h160
          try replace h160 : op10 o = false := h160
          simp [opE, opS, opW, *, shapeC] <;> simp [inA]
        · refine W_skip ?_
          refine W_seq ?_
          refine W_region rfl ?_
          first | (refine L_v Tb_ok (v := .ro _) (av rfl ⟨trivial, trivial⟩) rfl ?_) | (refine L_v Tb_ok (v := .app _ _) (av rfl ⟨trivial, trivial⟩) rfl ?_) | (refine L_v Tb_ok (v := .row _ _ _) (av rfl ⟨trivial, trivial⟩) rfl ?_) | (refine L_v Tb_ok (v := .nils) (av rfl ⟨trivial, trivial⟩) rfl ?_)
          refine L_v Tb_ok (v := .ptr _ _ _) (av rfl ⟨trivial, trivial⟩) rfl ?_
          refine L_v Tb_ok (v := .int _ _) (av rfl ⟨trivial, rfl⟩) rfl ?_
          first | (refine L_v Tb_ok (v := _) (ave_index_ro rfl rfl rfl (fun _ => rfl) rfl (by first | omega | assumption | decide | (simp_all; done) | (simp_all; omega)) (by first | omega | assumption | decide | (simp_all; done) | (simp_all; omega)) trivial) rfl ?_) | (refine L_v Tb_ok (v := _) (ave_index_app rfl rfl rfl (fun _ => rfl) rfl (by first | omega | assumption | decide | (simp_all; done) | (simp_all; omega)) (by first | omega | assumption | decide | (simp_all; done) | (simp_all; omega)) trivial) rfl ?_) | (refine L_v Tb_ok (v := _) (ave_index_row rfl rfl rfl rfl rfl rfl (by first | omega | assumption | decide | (simp_all; done) | (simp_all; omega)) (by first | omega | assumption | decide | (simp_all; done) | (simp_all; omega)) trivial) rfl ?_) | (refine L_v Tb_ok (v := .rptr _) (av rfl ⟨trivial, ⟨(by first | omega | assumption | decide | (simp_all; done) | (simp_all; omega)), (by first | omega | assumption | decide | (simp_all; done) | (simp_all; omega))⟩, rfl⟩) rfl ?_) | (refine L_v Tb_ok (v := .ptr _ _ _) (av rfl ⟨trivial, ⟨(by first | omega | assumption | decide | (simp_all; done) | (simp_all; omega)), (by first | omega | assumption | decide | (simp_all; done) | (simp_all; omega))⟩, rfl⟩) rfl ?_)
          refine L_v Tb_ok (v := .agg [.int _ _, .int _ _, .int _ _]) (av rfl ⟨trivial, rfl⟩) rfl ?_
          refine L_alloc Tb_ok (z := [.int .i64 0, .int .i64 0, .int .i64 0]) (n := 3) rfl rfl rfl rfl rfl ?_
          refine L_store Tb_ok (v := .agg [.int _ _, .int _ _, .int _ _]) (cs := [_, _, _]) (es' := [[_, _, _]]) rfl rfl rfl rfl rfl rfl rfl rfl rfl rfl ⟨trivial, trivial⟩ ?_
          refine WL_nil ?_
          refine W_seq ?_
          refine W_region rfl ?_
          refine L_v Tb_ok (v := .agg [.int _ _, .int _ _, .int _ _, .int _ _, .int _ _, .int _ _, .int _ _, .int _ _, .int _ _, .int _ _, .int _ _, .int _ _, _, _, .int _ _, .int _ _, .int _ _, .int _ _, .int _ _, .int _ _, .int _ _, .int _ _]) (av rfl ⟨trivial, rfl⟩) rfl ?_
          refine L_v Tb_ok (v := .agg [.int _ _, .int _ _, .int _ _]) (av rfl ⟨trivial, rfl⟩) rfl ?_
          refine L_call (hr := model_makes o _) rfl rfl trivial rfl rfl ?_
          refine L_v Tb_ok (v := .tup [_, _, _, _]) (av rfl ⟨trivial, trivial⟩) rfl ?_
          refine L_v Tb_ok (v := .agg [.int _ _, .int _ _, .int _ _]) (av rfl ⟨trivial, trivial⟩) rfl ?_
          refine L_v Tb_ok (v := .int _ _) (av rfl ⟨trivial, trivial⟩) rfl ?_
          refine L_v Tb_ok (v := .int _ _) (av rfl ⟨trivial, trivial⟩) rfl ?_
          refine L_v Tb_ok (v := .int _ _) (av rfl ⟨trivial, trivial⟩) rfl ?_
          refine L_alloc Tb_ok (z := [.int .i64 0, .int .i64 0, .int .i64 0]) (n := 3) rfl rfl rfl rfl rfl ?_
          refine L_store Tb_ok (v := .agg [.int _ _, .int _ _, .int _ _]) (cs := [_, _, _]) (es' := [[_, _, _]]) rfl rfl rfl rfl rfl rfl rfl rfl rfl rfl ⟨trivial, trivial⟩ ?_
          refine L_v Tb_ok (v := .int _ _) (av rfl ⟨trivial, trivial⟩) rfl ?_
          refine L_v Tb_ok (v := .int _ _) (av rfl ⟨trivial, trivial⟩) rfl ?_
          refine L_v Tb_ok (v := .int _ _) (av rfl ⟨trivial, trivial⟩) rfl ?_
          refine WL_nil ?_
          refine W_seq ?_
          refine W_seq ?_
          refine W_region rfl ?_
          refine L_v Tb_ok (v := .int _ _) (av rfl ⟨trivial, trivial⟩) rfl ?_
          refine L_v Tb_ok (v := .bool _) (av rfl ⟨trivial, trivial⟩) rfl ?_
          refine WL_nil ?_
          refine W_cond (b := _) rfl (fun h92 => ?_) (fun h92 => ?_)
          · refine W_seq ?_
            refine W_region rfl ?_
            refine L_v Tb_ok (v := .agg [.int _ _, .int _ _, .int _ _]) (av rfl ⟨trivial, rfl⟩) rfl ?_
            refine L_v Tb_ok (v := .int _ _) (av rfl ⟨trivial, trivial⟩) rfl ?_
            refine L_store Tb_ok (v := .agg [.int _ _, .int _ _, .int _ _]) (cs := [_, _, _]) (es' := [[_, _, _]]) rfl rfl rfl rfl rfl rfl rfl rfl rfl rfl ⟨trivial, trivial⟩ ?_
            refine L_v Tb_ok (v := .int _ _) (av rfl ⟨trivial, trivial⟩) rfl ?_
            refine L_v Tb_ok (v := .int _ _) (av rfl ⟨trivial, trivial⟩) rfl ?_
            refine WL_nil ?_
            refine W_ret ?_
            refine ends (l := [.agg [.int _ _, .int _ _, .int _ _], .int _ _, .int _ _]) (q := .tup [.agg [.int _ _, .int _ _, .int _ _], .int _ _, .int _ _]) (.inr rfl) rfl ⟨rfl, trivial, trivial, trivial⟩ rfl rfl ?_
            try replace h25 : op1 o = true := h25
            try replace h25 : op1 o = false := h25
            try replace h29 : op2 o l = true := h29
            try replace h29 : op2 o l = false := h29
            try replace h57 : op3 o = true := h57
            try replace h57 : op3 o = false := h57
            try replace h64 : op4 o = true := h64
            try replace h64 : op4 o = false := h64
            try replace h92 : op5 o l = true := h92
            try replace h92 : op5 o l = false := h92
            try replace h114 : op6 o l = true := h114
            try replace h114 : op6 o l = false := h114
            try replace h120 : op7 o l = true := h120
            try replace h120 : op7 o l = false := h120
            try replace h124 : op8 o l = true := h124
            try replace h124 : op8 o l = false := h124
            try replace h140 : op9 o = true := h140
            try replace h140 : op9 o = false := h140
            try replace h160 : op10 o = true := h160
            try replace h160 : op10 o = false := h160
            simp [opE, opS, opW, *, shapeC] <;> simp [inA]
          · refine W_skip ?_
            refine W_seq ?_
            refine W_seq ?_
            refine W_region rfl ?_
            refine L_v Tb_ok (v := .agg [.int _ _, .int _ _, .int _ _]) (av rfl ⟨trivial, rfl⟩) rfl ?_
            refine L_call (hr := shape_Elems _) rfl rfl trivial rfl rfl ?_
            refine L_v Tb_ok (v := .tup [_, _]) (av rfl ⟨trivial, trivial⟩) rfl ?_
            refine L_v Tb_ok (v := .int _ _) (av rfl ⟨trivial, trivial⟩) rfl ?_
            refine L_v Tb_ok (v := .int _ _) (av rfl ⟨trivial, trivial⟩) rfl ?_
            refine L_v Tb_ok (v := .int _ _) (av rfl ⟨trivial, trivial⟩) rfl ?_
            refine L_v Tb_ok (v := .int _ _) (av rfl ⟨trivial, trivial⟩) rfl ?_
            refine WL_nil ?_
            refine W_seq ?_
            refine W_draw 15 Tb_mixed rfl (by decide) (by kernel_rfl) (by kernel_rfl) ?_
            refine E_v Tb_ok (v := .int _ _) (av rfl ⟨trivial, trivial⟩) rfl ?_
            refine E_v Tb_ok (v := .bool _) (av rfl ⟨trivial, trivial⟩) rfl ?_
            refine E_v Tb_ok (v := .bool _) (av rfl ⟨trivial, trivial⟩) rfl ?_
            refine E_g Tb_ok (v := .ptr _ _ _) rfl rfl ((fun hg => (av rfl ⟨trivial, trivial⟩))) rfl rfl ?_
            refine E_g Tb_ok (v := .bool _) rfl rfl ((fun hg => (av rfl ⟨⟨⟨(by first | exact hg | (simp_all; done) | (simp at hg ⊢; simp [hg])), True.intro⟩, True.intro⟩, rfl⟩))) rfl rfl ?_
            refine E_g Tb_ok (v := .bool _) rfl rfl ((fun hg => (av rfl ⟨⟨⟨(by first | exact hg | (simp_all; done) | (simp at hg ⊢; simp [hg])), True.intro⟩, True.intro⟩, trivial⟩))) rfl rfl ?_
            first | (refine E_g Tb_ok (v := .ro _) rfl rfl ((fun hg => (av rfl ⟨trivial, trivial⟩))) rfl rfl ?_) | (refine E_g Tb_ok (v := .app _ _) rfl rfl ((fun hg => (av rfl ⟨trivial, trivial⟩))) rfl rfl ?_) | (refine E_g Tb_ok (v := .row _ _ _) rfl rfl ((fun hg => (av rfl ⟨trivial, trivial⟩))) rfl rfl ?_) | (refine E_g Tb_ok (v := .nils) rfl rfl ((fun hg => (av rfl ⟨trivial, trivial⟩))) rfl rfl ?_)
            refine E_g Tb_ok (v := .ptr _ _ _) rfl rfl ((fun hg => (av rfl ⟨trivial, trivial⟩))) rfl rfl ?_
            refine E_g Tb_ok (v := .int _ _) rfl rfl ((fun hg => (av rfl ⟨⟨⟨(by first | exact hg | (simp_all; done) | (simp at hg ⊢; simp [hg])), True.intro⟩, True.intro⟩, rfl⟩))) rfl rfl ?_
            first | (refine E_g Tb_ok (v := _) rfl rfl ((fun hg => (ave_index_ro rfl rfl rfl (fun _ => rfl) rfl (by first | omega | assumption | decide | (simp_all; done) | (simp_all; omega)) (by first | omega | assumption | decide | (simp_all; done) | (simp_all; omega)) ⟨⟨(by first | exact hg | (simp_all; done) | (simp at hg ⊢; simp [hg])), True.intro⟩, ⟨⟨(by first | exact hg | (simp_all; done) | (simp at hg ⊢; simp [hg])), True.intro⟩, True.intro⟩⟩))) rfl rfl ?_) | (refine E_g Tb_ok (v := _) rfl rfl ((fun hg => (ave_index_app rfl rfl rfl (fun _ => rfl) rfl (by first | omega | assumption | decide | (simp_all; done) | (simp_all; omega)) (by first | omega | assumption | decide | (simp_all; done) | (simp_all; omega)) ⟨⟨(by first | exact hg | (simp_all; done) | (simp at hg ⊢; simp [hg])), True.intro⟩, ⟨⟨(by first | exact hg | (simp_all; done) | (simp at hg ⊢; simp [hg])), True.intro⟩, True.intro⟩⟩))) rfl rfl ?_) | (refine E_g Tb_ok (v := _) rfl rfl ((fun hg => (ave_index_row rfl rfl rfl rfl rfl rfl (by first | omega | assumption | decide | (simp_all; done) | (simp_all; omega)) (by first | omega | assumption | decide | (simp_all; done) | (simp_all; omega)) ⟨⟨(by first | exact hg | (simp_all; done) | (simp at hg ⊢; simp [hg])), True.intro⟩, ⟨⟨(by first | exact hg | (simp_all; done) | (simp at hg ⊢; simp [hg])), True.intro⟩, True.intro⟩⟩))) rfl rfl ?_) | (refine E_g Tb_ok (v := .rptr _) rfl rfl ((fun hg => (av rfl ⟨⟨⟨(by first | exact hg | (simp_all; done) | (simp at hg ⊢; simp [hg])), True.intro⟩, ⟨⟨(by first | exact hg | (simp_all; done) | (simp at hg ⊢; simp [hg])), True.intro⟩, True.intro⟩⟩, ⟨(by first | omega | assumption | decide | (simp_all; done) | (simp_all; omega)), (by first | omega | assumption | decide | (simp_all; done) | (simp_all; omega))⟩, rfl⟩))) rfl rfl ?_) | (refine E_g Tb_ok (v := .ptr _ _ _) rfl rfl ((fun hg => (av rfl ⟨⟨⟨(by first | exact hg | (simp_all; done) | (simp at hg ⊢; simp [hg])), True.intro⟩, ⟨⟨(by first | exact hg | (simp_all; done) | (simp at hg ⊢; simp [hg])), True.intro⟩, True.intro⟩⟩, ⟨(by first | omega | assumption | decide | (simp_all; done) | (simp_all; omega)), (by first | omega | assumption | decide | (simp_all; done) | (simp_all; omega))⟩, rfl⟩))) rfl rfl ?_)
            refine E_g Tb_ok (v := .agg [.int _ _, .int _ _, .int _ _]) rfl rfl ((fun hg => (av rfl ⟨⟨⟨(by first | exact hg | (simp_all; done) | (simp at hg ⊢; simp [hg])), True.intro⟩, True.intro⟩, rfl⟩))) rfl rfl ?_
            refine E_g Tb_ok (v := .agg [.int _ _, .int _ _, .int _ _]) rfl rfl ((fun hg => (av rfl ⟨trivial, rfl⟩))) rfl rfl ?_
            refine E_g Tb_ok (v := .bool _) rfl rfl ((fun hg => (av rfl ⟨⟨⟨(by first | exact hg | (simp_all; done) | (simp at hg ⊢; simp [hg])), True.intro⟩, ⟨⟨(by first | exact hg | (simp_all; done) | (simp at hg ⊢; simp [hg])), True.intro⟩, True.intro⟩⟩, trivial⟩))) rfl rfl ?_
            refine E_g Tb_ok (v := .bool _) rfl rfl ((fun hg => (av rfl (by refine ⟨?_, fun h => ?_, fun h => ?_⟩ <;> first | exact True.intro | exact ⟨h, True.intro⟩ | (refine ⟨?_, True.intro⟩; first | (rw [h]; done) | (rw [h]; rfl) | (simp [h]; done) | (simp at h hg ⊢; simp [h, hg]; done) | (simp_all; done) | (simp_all; omega)))))) rfl rfl ?_
            refine E_v Tb_ok (v := .bool _) (av rfl (by refine ⟨?_, fun h => ?_, fun h => ?_⟩ <;> first | exact True.intro | exact ⟨h, True.intro⟩ | (refine ⟨?_, True.intro⟩; first | (rw [h]; done) | (rw [h]; rfl) | (simp [h]; done) | (simp at h hg ⊢; simp [h, hg]; done) | (simp_all; done) | (simp_all; omega)))) rfl ?_
            refine LexE_nil ?_
            refine WL_nil ?_
            refine W_cond (b := _) rfl (fun h114 => ?_) (fun h114 => ?_)
            · refine W_seq ?_
              refine W_region rfl ?_
              refine L_v Tb_ok (v := .agg [.int _ _, .int _ _, .int _ _]) (av rfl ⟨trivial, rfl⟩) rfl ?_
              refine L_store Tb_ok (v := .agg [.int _ _, .int _ _, .int _ _]) (cs := [_, _, _]) (es' := [[_, _, _]]) rfl rfl rfl rfl rfl rfl rfl rfl rfl rfl ⟨trivial, trivial⟩ ?_
              refine L_v Tb_ok (v := .int _ _) (av rfl ⟨trivial, trivial⟩) rfl ?_
              refine L_v Tb_ok (v := .int _ _) (av rfl ⟨trivial, trivial⟩) rfl ?_
              refine WL_nil ?_
              refine W_ret ?_
              refine ends (l := [.agg [.int _ _, .int _ _, .int _ _], .int _ _, .int _ _]) (q := .tup [.agg [.int _ _, .int _ _, .int _ _], .int _ _, .int _ _]) (.inr rfl) rfl ⟨rfl, trivial, trivial, trivial⟩ rfl rfl ?_
              try replace h25 : op1 o = true := h25
              try replace h25 : op1 o = false := h25
              try replace h29 : op2 o l = true := h29
              try replace h29 : op2 o l = false := h29
              try replace h57 : op3 o = true := h57
              try replace h57 : op3 o = false := h57
              try replace h64 : op4 o = true := h64
              try replace h64 : op4 o = false := h64
              try replace h92 : op5 o l = true := h92
              try replace h92 : op5 o l = false := h92
              try replace h114 : op6 o l = true := h114
              try replace h114 : op6 o l = false := h114
              try replace h120 : op7 o l = true := h120
              try replace h120 : op7 o l = false := h120
              try replace h124 : op8 o l = true := h124
              try replace h124 : op8 o l = false := h124
              try replace h140 : op9 o = true := h140
              try replace h140 : op9 o = false := h140
              try replace h160 : op10 o = true := h160
              try replace h160 : op10 o = false := h160
              simp [opE, opS, opW, *, shapeC] <;> simp [inA]
            · refine W_skip ?_
              refine W_seq ?_
              refine W_region rfl ?_
              refine L_v Tb_ok (v := .int _ _) (av rfl ⟨trivial, trivial⟩) rfl ?_
              refine WL_nil ?_
              refine W_seq ?_
              refine W_seq ?_
              refine W_region rfl ?_
              refine L_v Tb_ok (v := .ptr _ _ _) (av rfl ⟨trivial, trivial⟩) rfl ?_
              refine L_v Tb_ok (v := .bool _) (av rfl ⟨trivial, rfl⟩) rfl ?_
              refine WL_nil ?_
              refine W_ift (b := _) (M := ⟨[(1, .ro (l.map shapeC)), (2, .ptr 0 0 0), (4, .ptr 1 0 0), (7, .ptr 2 0 0), (8, .ptr 3 0 0), (11, .ptr 5 0 0), (12, .int .i64 (mkL o (l.getD o.A.toNat default))), (13, .int .i64 (mkW o (l.getD o.A.toNat default))), (17, .int .i64 (bif (ofU o.Kind).weights then (mkS o (l.getD o.A.toNat default)).C else 0))], [(0, some ⟨40, 22, 0, [opC o]⟩), (1, some ⟨23, 3, 0, [shapeC ⟨0, 0, 0⟩]⟩), (2, some ⟨23, 3, 0, [shapeC ⟨0, 0, 0⟩]⟩), (3, some ⟨130, 8, 0, [usesC (ofU o.Kind)]⟩), (5, some ⟨23, 3, 0, [shapeC (mkS o (l.getD o.A.toNat default))]⟩)], [], 6⟩) (p := True) rfl (fun h117 => ?_) (fun h117 => ?_) (fun m117 => ?_)
              · refine W_region rfl ?_
                refine L_v Tb_ok (v := .ptr _ _ _) (av rfl ⟨trivial, trivial⟩) rfl ?_
                refine L_v Tb_ok (v := .int _ _) (av rfl ⟨trivial, rfl⟩) rfl ?_
                refine L_v Tb_ok (v := .int _ _) (av rfl ⟨trivial, trivial⟩) rfl ?_
                refine WL_nil ?_
                exact ⟨trivial, le_fit ⟨rfl, rfl, rfl, rfl, rfl, rfl, rfl, rfl, mi1 h117 rfl, trivial⟩ ⟨.inr rfl, .inr rfl, .inr rfl, .inr rfl, .inr rfl, trivial⟩ trivial rfl rfl rfl rfl rfl⟩
              · refine W_skip ?_
                exact ⟨trivial, le_fit ⟨rfl, rfl, rfl, rfl, rfl, rfl, rfl, rfl, mi2 h117 rfl, trivial⟩ ⟨.inr rfl, .inr rfl, .inr rfl, .inr rfl, .inr rfl, trivial⟩ trivial rfl rfl rfl rfl rfl⟩
              refine W_seq ?_
              refine W_block ?_
              refine W_seq ?_
              refine W_region rfl ?_
              refine L_v Tb_ok (v := .int _ _) (av rfl ⟨trivial, trivial⟩) rfl ?_
              refine L_v Tb_ok (v := .bool _) (av rfl ⟨trivial, trivial⟩) rfl ?_
              refine L_v Tb_ok (v := .bool _) (av rfl ⟨trivial, trivial⟩) rfl ?_
              refine WL_nil ?_
              refine W_cond (b := _) rfl (fun h120 => ?_) (fun h120 => ?_)
              · refine W_seq ?_
                refine W_region rfl ?_
                refine L_v Tb_ok (v := .agg [.int _ _, .int _ _, .int _ _]) (av rfl ⟨trivial, rfl⟩) rfl ?_
                refine L_store Tb_ok (v := .agg [.int _ _, .int _ _, .int _ _]) (cs := [_, _, _]) (es' := [[_, _, _]]) rfl rfl rfl rfl rfl rfl rfl rfl rfl rfl ⟨trivial, trivial⟩ ?_
                refine L_v Tb_ok (v := .int _ _) (av rfl ⟨trivial, trivial⟩) rfl ?_
                refine L_v Tb_ok (v := .int _ _) (av rfl ⟨trivial, trivial⟩) rfl ?_
                refine WL_nil ?_
                refine W_ret ?_
                refine ends (l := [.agg [.int _ _, .int _ _, .int _ _], .int _ _, .int _ _]) (q := .tup [.agg [.int _ _, .int _ _, .int _ _], .int _ _, .int _ _]) (.inr rfl) rfl ⟨rfl, trivial, trivial, trivial⟩ rfl rfl ?_
                try replace h25 : op1 o = true := h25
                try replace h25 : op1 o = false := h25
                try replace h29 : op2 o l = true := h29
                try replace h29 : op2 o l = false := h29
                try replace h57 : op3 o = true := h57
                try replace h57 : op3 o = false := h57
                try replace h64 : op4 o = true := h64
                try replace h64 : op4 o = false := h64
                try replace h92 : op5 o l = true := h92
                try replace h92 : op5 o l = false := h92
                try replace h114 : op6 o l = true := h114
                try replace h114 : op6 o l = false := h114
                try replace h120 : op7 o l = true := h120
                try replace h120 : op7 o l = false := h120
                try replace h124 : op8 o l = true := h124
                try replace h124 : op8 o l = false := h124
                try replace h140 : op9 o = true := h140
                try replace h140 : op9 o = false := h140
                try replace h160 : op10 o = true := h160
                try replace h160 : op10 o = false := h160
                simp [opE, opS, opW, *, shapeC] <;> simp [inA]
              · refine W_seq ?_
                refine W_region rfl ?_
                refine L_v Tb_ok (v := .ptr _ _ _) (av rfl ⟨trivial, trivial⟩) rfl ?_
                first | (refine L_v Tb_ok (v := .ro _) (av rfl ⟨trivial, rfl⟩) rfl ?_) | (refine L_v Tb_ok (v := .app _ _) (av rfl ⟨trivial, rfl⟩) rfl ?_) | (refine L_v Tb_ok (v := .row _ _ _) (av rfl ⟨trivial, rfl⟩) rfl ?_) | (refine L_v Tb_ok (v := .nils) (av rfl ⟨trivial, rfl⟩) rfl ?_)
                refine L_v Tb_ok (v := .int _ _) (av rfl ⟨trivial, trivial⟩) rfl ?_
                refine L_v Tb_ok (v := .int _ _) (av rfl ⟨trivial, trivial⟩) rfl ?_
                refine L_v Tb_ok (v := .int _ _) (av rfl ⟨trivial, trivial⟩) rfl ?_
                refine L_v Tb_ok (v := .int _ _) (av rfl ⟨trivial, trivial⟩) rfl ?_
                refine L_v Tb_ok (v := .bool _) (av rfl ⟨trivial, trivial⟩) rfl ?_
                refine L_v Tb_ok (v := .bool _) (av rfl ⟨trivial, trivial⟩) rfl ?_
                refine L_g Tb_ok (v := .ptr _ _ _) rfl rfl ((fun hg => (av rfl ⟨trivial, trivial⟩))) rfl rfl ?_
                first | (refine L_g Tb_ok (v := .ro _) rfl rfl ((fun hg => (av rfl ⟨⟨⟨(by first | exact hg | (simp_all; done) | (simp at hg ⊢; simp [hg])), True.intro⟩, True.intro⟩, rfl⟩))) rfl rfl ?_) | (refine L_g Tb_ok (v := .app _ _) rfl rfl ((fun hg => (av rfl ⟨⟨⟨(by first | exact hg | (simp_all; done) | (simp at hg ⊢; simp [hg])), True.intro⟩, True.intro⟩, rfl⟩))) rfl rfl ?_) | (refine L_g Tb_ok (v := .row _ _ _) rfl rfl ((fun hg => (av rfl ⟨⟨⟨(by first | exact hg | (simp_all; done) | (simp at hg ⊢; simp [hg])), True.intro⟩, True.intro⟩, rfl⟩))) rfl rfl ?_) | (refine L_g Tb_ok (v := .nils) rfl rfl ((fun hg => (av rfl ⟨⟨⟨(by first | exact hg | (simp_all; done) | (simp at hg ⊢; simp [hg])), True.intro⟩, True.intro⟩, rfl⟩))) rfl rfl ?_)
                refine L_g Tb_ok (v := .int _ _) rfl rfl ((fun hg => (av rfl ⟨⟨⟨(by first | exact hg | (simp_all; done) | (simp at hg ⊢; simp [hg])), True.intro⟩, True.intro⟩, trivial⟩))) rfl rfl ?_
                refine L_g Tb_ok (v := .int _ _) rfl rfl ((fun hg => (av rfl ⟨trivial, trivial⟩))) rfl rfl ?_
                refine L_g Tb_ok (v := .bool _) rfl rfl ((fun hg => (av rfl ⟨⟨⟨(by first | exact hg | (simp_all; done) | (simp at hg ⊢; simp [hg])), True.intro⟩, ⟨⟨(by first | exact hg | (simp_all; done) | (simp at hg ⊢; simp [hg])), True.intro⟩, True.intro⟩⟩, trivial⟩))) rfl rfl ?_
                refine L_v Tb_ok (v := .bool _) (av rfl (by refine ⟨?_, fun h => ?_, fun h => ?_⟩ <;> first | exact True.intro | exact ⟨h, True.intro⟩ | (refine ⟨?_, True.intro⟩; first | (rw [h]; done) | (rw [h]; rfl) | (simp [h]; done) | (simp at h hg ⊢; simp [h, hg]; done) | (simp_all; done) | (simp_all; omega)))) rfl ?_
                refine L_v Tb_ok (v := .bool _) (av rfl ⟨trivial, trivial⟩) rfl ?_
                refine WL_nil ?_
                refine W_cond (b := _) rfl (fun h124 => ?_) (fun h124 => ?_)
                · refine W_seq ?_
                  refine W_region rfl ?_
                  refine L_v Tb_ok (v := .agg [.int _ _, .int _ _, .int _ _]) (av rfl ⟨trivial, rfl⟩) rfl ?_
                  refine L_store Tb_ok (v := .agg [.int _ _, .int _ _, .int _ _]) (cs := [_, _, _]) (es' := [[_, _, _]]) rfl rfl rfl rfl rfl rfl rfl rfl rfl rfl ⟨trivial, trivial⟩ ?_
                  refine L_v Tb_ok (v := .int _ _) (av rfl ⟨trivial, trivial⟩) rfl ?_
                  refine L_v Tb_ok (v := .int _ _) (av rfl ⟨trivial, trivial⟩) rfl ?_
                  refine WL_nil ?_
                  refine W_ret ?_
                  refine ends (l := [.agg [.int _ _, .int _ _, .int _ _], .int _ _, .int _ _]) (q := .tup [.agg [.int _ _, .int _ _, .int _ _], .int _ _, .int _ _]) (.inr rfl) rfl ⟨rfl, trivial, trivial, trivial⟩ rfl rfl ?_
                  try replace h25 : op1 o = true := h25
                  try replace h25 : op1 o = false := h25
                  try replace h29 : op2 o l = true := h29
                  try replace h29 : op2 o l = false := h29
                  try replace h57 : op3 o = true := h57
                  try replace h57 : op3 o = false := h57
                  try replace h64 : op4 o = true := h64
                  try replace h64 : op4 o = false := h64
                  try replace h92 : op5 o l = true := h92
                  try replace h92 : op5 o l = false := h92
                  try replace h114 : op6 o l = true := h114
                  try replace h114 : op6 o l = false := h114
                  try replace h120 : op7 o l = true := h120
                  try replace h120 : op7 o l = false := h120
                  try replace h124 : op8 o l = true := h124
                  try replace h124 : op8 o l = false := h124
                  try replace h140 : op9 o = true := h140
                  try replace h140 : op9 o = false := h140
                  try replace h160 : op10 o = true := h160
                  try replace h160 : op10 o = false := h160
                  simp [opE, opS, opW, *, shapeC] <;> simp [inA]
                · refine W_seq ?_
                  refine W_region rfl ?_
                  refine L_v Tb_ok (v := .ptr _ _ _) (av rfl ⟨trivial, trivial⟩) rfl ?_
                  refine L_v Tb_ok (v := .bool _) (av rfl ⟨trivial, rfl⟩) rfl ?_
                  refine L_v Tb_ok (v := .bool _) (av rfl ⟨trivial, trivial⟩) rfl ?_
                  refine L_g Tb_ok (v := .ptr _ _ _) rfl rfl ((fun hg => (av rfl ⟨trivial, trivial⟩))) rfl rfl ?_
                  refine L_g Tb_ok (v := .agg [.int _ _, .int _ _]) rfl rfl ((fun hg => (av rfl ⟨⟨⟨(by first | exact hg | (simp_all; done) | (simp at hg ⊢; simp [hg])), True.intro⟩, True.intro⟩, rfl⟩))) rfl rfl ?_
                  refine L_callg (hr := fun hg => fixq_Valid _) rfl rfl rfl rfl rfl (fun hg => ⟨⟨(by first | exact hg | (simp_all; done) | (simp at hg ⊢; simp [hg])), True.intro⟩, True.intro⟩) rfl rfl ?_
                  refine L_g Tb_ok (v := .bool _) rfl rfl ((fun hg => (av rfl ⟨⟨⟨(by first | exact hg | (simp_all; done) | (simp at hg ⊢; simp [hg])), True.intro⟩, True.intro⟩, trivial⟩))) rfl rfl ?_
                  refine L_v Tb_ok (v := .bool _) (av rfl (by refine ⟨?_, fun h => ?_, fun h => ?_⟩ <;> first | exact True.intro | exact ⟨h, True.intro⟩ | (refine ⟨?_, True.intro⟩; first | (rw [h]; done) | (rw [h]; rfl) | (simp [h]; done) | (simp at h hg ⊢; simp [h, hg]; done) | (simp_all; done) | (simp_all; omega)))) rfl ?_
                  refine L_v Tb_ok (v := .bool _) (av rfl ⟨trivial, trivial⟩) rfl ?_
                  refine L_g Tb_ok (v := .ptr _ _ _) rfl rfl ((fun hg => (av rfl ⟨trivial, trivial⟩))) rfl rfl ?_
                  refine L_g Tb_ok (v := .bool _) rfl rfl ((fun hg => (av rfl ⟨⟨⟨(by first | exact hg | (simp_all; done) | (simp at hg ⊢; simp [hg])), True.intro⟩, True.intro⟩, rfl⟩))) rfl rfl ?_
                  refine L_g Tb_ok (v := .bool _) rfl rfl ((fun hg => (av rfl ⟨⟨⟨(by first | exact hg | (simp_all; done) | (simp at hg ⊢; simp [hg])), True.intro⟩, True.intro⟩, trivial⟩))) rfl rfl ?_
                  refine L_g Tb_ok (v := .ptr _ _ _) rfl rfl ((fun hg => (av rfl ⟨trivial, trivial⟩))) rfl rfl ?_
                  refine L_g Tb_ok (v := .agg [.int _ _, .int _ _]) rfl rfl ((fun hg => (av rfl ⟨⟨⟨(by first | exact hg | (simp_all; done) | (simp at hg ⊢; simp [hg])), True.intro⟩, True.intro⟩, rfl⟩))) rfl rfl ?_
                  refine L_callg (hr := fun hg => fixq_Valid _) rfl rfl rfl rfl rfl (fun hg => ⟨⟨(by first | exact hg | (simp_all; done) | (simp at hg ⊢; simp [hg])), True.intro⟩, True.intro⟩) rfl rfl ?_
                  refine L_g Tb_ok (v := .bool _) rfl rfl ((fun hg => (av rfl ⟨⟨⟨(by first | exact hg | (simp_all; done) | (simp at hg ⊢; simp [hg])), True.intro⟩, True.intro⟩, trivial⟩))) rfl rfl ?_
                  refine L_g Tb_ok (v := .bool _) rfl rfl ((fun hg => (av rfl (by refine ⟨?_, fun h => ?_, fun h => ?_⟩ <;> first | exact True.intro | exact ⟨h, True.intro⟩ | (refine ⟨?_, True.intro⟩; first | (rw [h]; done) | (rw [h]; rfl) | (simp [h]; done) | (simp at h hg ⊢; simp [h, hg]; done) | (simp_all; done) | (simp_all; omega)))))) rfl rfl ?_
                  refine L_v Tb_ok (v := .bool _) (av rfl (by refine ⟨?_, fun h => ?_, fun h => ?_⟩ <;> first | exact True.intro | exact ⟨h, True.intro⟩ | (refine ⟨?_, True.intro⟩; first | (rw [h]; done) | (rw [h]; rfl) | (simp [h]; done) | (simp at h hg ⊢; simp [h, hg]; done) | (simp_all; done) | (simp_all; omega)))) rfl ?_
                  refine L_v Tb_ok (v := .bool _) (av rfl ⟨trivial, trivial⟩) rfl ?_
                  refine WL_nil ?_
                  refine W_cond (b := _) rfl (fun h140 => ?_) (fun h140 => ?_)
                  · refine W_seq ?_
                    refine W_region rfl ?_
                    refine L_v Tb_ok (v := .agg [.int _ _, .int _ _, .int _ _]) (av rfl ⟨trivial, rfl⟩) rfl ?_
                    refine L_store Tb_ok (v := .agg [.int _ _, .int _ _, .int _ _]) (cs := [_, _, _]) (es' := [[_, _, _]]) rfl rfl rfl rfl rfl rfl rfl rfl rfl rfl ⟨trivial, trivial⟩ ?_
                    refine L_v Tb_ok (v := .int _ _) (av rfl ⟨trivial, trivial⟩) rfl ?_
                    refine L_v Tb_ok (v := .int _ _) (av rfl ⟨trivial, trivial⟩) rfl ?_
                    refine WL_nil ?_
                    refine W_ret ?_
                    refine ends (l := [.agg [.int _ _, .int _ _, .int _ _], .int _ _, .int _ _]) (q := .tup [.agg [.int _ _, .int _ _, .int _ _], .int _ _, .int _ _]) (.inr rfl) rfl ⟨rfl, trivial, trivial, trivial⟩ rfl rfl ?_
                    try replace h25 : op1 o = true := h25
                    try replace h25 : op1 o = false := h25
                    try replace h29 : op2 o l = true := h29
                    try replace h29 : op2 o l = false := h29
                    try replace h57 : op3 o = true := h57
                    try replace h57 : op3 o = false := h57
                    try replace h64 : op4 o = true := h64
                    try replace h64 : op4 o = false := h64
                    try replace h92 : op5 o l = true := h92
                    try replace h92 : op5 o l = false := h92
                    try replace h114 : op6 o l = true := h114
                    try replace h114 : op6 o l = false := h114
                    try replace h120 : op7 o l = true := h120
                    try replace h120 : op7 o l = false := h120
                    try replace h124 : op8 o l = true := h124
                    try replace h124 : op8 o l = false := h124
                    try replace h140 : op9 o = true := h140
                    try replace h140 : op9 o = false := h140
                    try replace h160 : op10 o = true := h160
                    try replace h160 : op10 o = false := h160
                    simp [opE, opS, opW, *, shapeC] <;> simp [inA]
                  · refine W_seq ?_
                    refine W_region rfl ?_
                    refine L_v Tb_ok (v := .ptr _ _ _) (av rfl ⟨trivial, trivial⟩) rfl ?_
                    refine L_v Tb_ok (v := .int _ _) (av rfl ⟨trivial, rfl⟩) rfl ?_
                    refine L_v Tb_ok (v := .ptr _ _ _) (av rfl ⟨trivial, trivial⟩) rfl ?_
                    refine L_v Tb_ok (v := .int _ _) (av rfl ⟨trivial, rfl⟩) rfl ?_
                    refine L_v Tb_ok (v := .ptr _ _ _) (av rfl ⟨trivial, trivial⟩) rfl ?_
                    refine L_v Tb_ok (v := .int _ _) (av rfl ⟨trivial, rfl⟩) rfl ?_
                    refine L_v Tb_ok (v := .ptr _ _ _) (av rfl ⟨trivial, trivial⟩) rfl ?_
                    refine L_v Tb_ok (v := .int _ _) (av rfl ⟨trivial, rfl⟩) rfl ?_
                    refine L_build Tb_ok (t := 56) (len := 4) (el := 3) (sz := 1) (es := [[_], [_], [_], [_]]) (z := [.int .i64 0]) rfl rfl rfl rfl rfl (by decide) trivial rfl rfl rfl rfl rfl ?_
                    refine L_freeze (t := 169) (l := _) rfl rfl rfl rfl rfl rfl rfl ?_
                    refine L_call (hr := model_byte8 [o.Lo, o.Hi, o.Zero, o.Pad] (by simp)) rfl rfl trivial rfl rfl ?_
                    refine L_v Tb_ok (v := .bool _) (av rfl ⟨trivial, trivial⟩) rfl ?_
                    refine L_v Tb_ok (v := .bool _) (av rfl ⟨trivial, trivial⟩) rfl ?_
                    refine L_g Tb_ok (v := .ptr _ _ _) rfl rfl ((fun hg => (av rfl ⟨trivial, trivial⟩))) rfl rfl ?_
                    refine L_g Tb_ok (v := .int _ _) rfl rfl ((fun hg => (av rfl ⟨⟨⟨(by first | exact hg | (simp_all; done) | (simp at hg ⊢; simp [hg])), True.intro⟩, True.intro⟩, rfl⟩))) rfl rfl ?_
                    refine L_g Tb_ok (v := .ptr _ _ _) rfl rfl ((fun hg => (av rfl ⟨trivial, trivial⟩))) rfl rfl ?_
                    refine L_g Tb_ok (v := .int _ _) rfl rfl ((fun hg => (av rfl ⟨⟨⟨(by first | exact hg | (simp_all; done) | (simp at hg ⊢; simp [hg])), True.intro⟩, True.intro⟩, rfl⟩))) rfl rfl ?_
                    refine L_g Tb_ok (v := .bool _) rfl rfl ((fun hg => (av rfl ⟨⟨⟨(by first | exact hg | (simp_all; done) | (simp at hg ⊢; simp [hg])), True.intro⟩, ⟨⟨(by first | exact hg | (simp_all; done) | (simp at hg ⊢; simp [hg])), True.intro⟩, True.intro⟩⟩, trivial⟩))) rfl rfl ?_
                    refine L_v Tb_ok (v := .bool _) (av rfl (by refine ⟨?_, fun h => ?_, fun h => ?_⟩ <;> first | exact True.intro | exact ⟨h, True.intro⟩ | (refine ⟨?_, True.intro⟩; first | (rw [h]; done) | (rw [h]; rfl) | (simp [h]; done) | (simp at h hg ⊢; simp [h, hg]; done) | (simp_all; done) | (simp_all; omega)))) rfl ?_
                    refine L_v Tb_ok (v := .bool _) (av rfl ⟨trivial, trivial⟩) rfl ?_
                    refine WL_nil ?_
                    refine W_cond (b := _) rfl (fun h160 => ?_) (fun h160 => ?_)
                    · refine W_seq ?_
                      refine W_region rfl ?_
                      refine L_v Tb_ok (v := .agg [.int _ _, .int _ _, .int _ _]) (av rfl ⟨trivial, rfl⟩) rfl ?_
                      refine L_store Tb_ok (v := .agg [.int _ _, .int _ _, .int _ _]) (cs := [_, _, _]) (es' := [[_, _, _]]) rfl rfl rfl rfl rfl rfl rfl rfl rfl rfl ⟨trivial, trivial⟩ ?_
                      refine L_v Tb_ok (v := .int _ _) (av rfl ⟨trivial, trivial⟩) rfl ?_
                      refine L_v Tb_ok (v := .int _ _) (av rfl ⟨trivial, trivial⟩) rfl ?_
                      refine WL_nil ?_
                      refine W_ret ?_
                      refine ends (l := [.agg [.int _ _, .int _ _, .int _ _], .int _ _, .int _ _]) (q := .tup [.agg [.int _ _, .int _ _, .int _ _], .int _ _, .int _ _]) (.inr rfl) rfl ⟨rfl, trivial, trivial, trivial⟩ rfl rfl ?_
                      try replace h25 : op1 o = true := h25
                      try replace h25 : op1 o = false := h25
                      try replace h29 : op2 o l = true := h29
                      try replace h29 : op2 o l = false := h29
                      try replace h57 : op3 o = true := h57
                      try replace h57 : op3 o = false := h57
                      try replace h64 : op4 o = true := h64
                      try replace h64 : op4 o = false := h64
                      try replace h92 : op5 o l = true := h92
                      try replace h92 : op5 o l = false := h92
                      try replace h114 : op6 o l = true := h114
                      try replace h114 : op6 o l = false := h114
                      try replace h120 : op7 o l = true := h120
                      try replace h120 : op7 o l = false := h120
                      try replace h124 : op8 o l = true := h124
                      try replace h124 : op8 o l = false := h124
                      try replace h140 : op9 o = true := h140
                      try replace h140 : op9 o = false := h140
                      try replace h160 : op10 o = true := h160
                      try replace h160 : op10 o = false := h160
                      simp [opE, opS, opW, *, shapeC] <;> simp [inA]
                    · refine W_skip ?_
                      refine W_seq ?_
                      refine W_region rfl ?_
                      refine L_v Tb_ok (v := .agg [.int _ _, .int _ _, .int _ _]) (av rfl ⟨trivial, rfl⟩) rfl ?_
                      refine L_v Tb_ok (v := .int _ _) (av rfl ⟨trivial, trivial⟩) rfl ?_
                      refine L_store Tb_ok (v := .agg [.int _ _, .int _ _, .int _ _]) (cs := [_, _, _]) (es' := [[_, _, _]]) rfl rfl rfl rfl rfl rfl rfl rfl rfl rfl ⟨trivial, trivial⟩ ?_
                      refine L_v Tb_ok (v := .int _ _) (av rfl ⟨trivial, trivial⟩) rfl ?_
                      refine L_v Tb_ok (v := .int _ _) (av rfl ⟨trivial, trivial⟩) rfl ?_
                      refine WL_nil ?_
                      refine W_ret ?_
                      refine ends (l := [.agg [.int _ _, .int _ _, .int _ _], .int _ _, .int _ _]) (q := .tup [.agg [.int _ _, .int _ _, .int _ _], .int _ _, .int _ _]) (.inr rfl) rfl ⟨rfl, trivial, trivial, trivial⟩ rfl rfl ?_
                      try replace h25 : op1 o = true := h25
                      try replace h25 : op1 o = false := h25
                      try replace h29 : op2 o l = true := h29
                      try replace h29 : op2 o l = false := h29
                      try replace h57 : op3 o = true := h57
                      try replace h57 : op3 o = false := h57
                      try replace h64 : op4 o = true := h64
                      try replace h64 : op4 o = false := h64
                      try replace h92 : op5 o l = true := h92
                      try replace h92 : op5 o l = false := h92
                      try replace h114 : op6 o l = true := h114
                      try replace h114 : op6 o l = false := h114
                      try replace h120 : op7 o l = true := h120
                      try replace h120 : op7 o l = false := h120
                      try replace h124 : op8 o l = true := h124
                      try replace h124 : op8 o l = false := h124
                      try replace h140 : op9 o = true := h140
                      try replace h140 : op9 o = false := h140
                      try replace h160 : op10 o = true := h160
                      try replace h160 : op10 o = false := h160
                      simp [opE, opS, opW, *, shapeC] <;> simp [inA]
end Go.AM
end
