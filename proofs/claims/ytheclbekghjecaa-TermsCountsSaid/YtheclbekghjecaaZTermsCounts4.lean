/- The law TermsCounts answers true, whatever its arguments: part 5 of 5 of its proof. -/
import Derived.Test.YtheclbekghjecaaRows
import Derived.WalkKit
import Derived.Test.YtheclbekghjecaaZTermsCounts3
section
open Go Go.AM Go.Proofs
set_option maxRecDepth 10000
set_option linter.unusedVariables false
set_option linter.unusedSimpArgs false
namespace Go.AM
/-- the list, k of its places told -/
def ofP (pl : List Int) (k : Nat) : List Term := (pl.take k).map (fun p => ⟨1, p⟩) ++ List.replicate (pl.length - k) ⟨0, 0⟩
theorem ofP_len (pl : List Int) (k : Nat) (h : k ≤ pl.length) : (ofP pl k).length = pl.length := by simp [ofP]; omega
theorem ofP_set (pl : List Int) (k : Nat) (h : k < pl.length) : (ofP pl k).set k ⟨1, pl.getD k 0⟩ = ofP pl (k + 1) := by
  have e : pl.length - k = (pl.length - (k + 1)) + 1 := by omega
  have hl : ((pl.take k).map (fun p => (⟨1, p⟩ : Term))).length = k := by simp; omega
  rw [ofP, ofP, e, List.replicate_succ, List.set_append_right _ _ (by omega), hl, Nat.sub_self, List.set_cons_zero, List.take_add_one, List.map_append, List.append_assoc]
  simp [h]
theorem terms_Of_pl (m : Model) (op ch at_ : Int) (hc26 : (findE m op != 0) = false) (hc51 : ofBad (findS m op) ch at_ = false) (hc74 : ((findS m op).Op.Kind != 4) = false) (pl : List Int)
    (hpl : Ok Try.prog 32 [.agg (siteC (findS m op)), .int .i64 ch, .int .i64 at_] (.ro (pl.map intC))) (hpn : (findS m op).Len = (pl.length : Int)) (hps : pl.length ≤ 1048576) :
    Ok Try.prog 11 [.agg (modelC m), .int .i64 op, .int .i64 ch, .int .i64 at_] (.tup [.ro ((ofP pl pl.length).map termC), .int .i64 0, .int .i64 0]) := by
  refine fn_ok Tb_ok (fn := Try.f11) Try.func11 rfl rfl (e := [(0, _), (1, _), (2, _), (3, _)]) rfl (by decide) rfl ?_
  refine W_seq ?_
  refine W_region rfl ?_
  refine L_box Tb_ok (cs := [.int _ _, .int _ _, .int _ _, .int _ _, .int _ _, _, .int _ _]) (n := 7) rfl rfl rfl rfl trivial ?_
  refine L_v Tb_ok (v := .nils) (av rfl ⟨trivial, trivial⟩) rfl ?_
  refine L_v Tb_ok (v := .int _ _) (av rfl ⟨trivial, trivial⟩) rfl ?_
  refine L_v Tb_ok (v := .int _ _) (av rfl ⟨trivial, trivial⟩) rfl ?_
  refine WL_nil ?_
  refine W_seq ?_
  refine W_region rfl ?_
  refine L_v Tb_ok (v := .agg [.int _ _, .int _ _, .int _ _, .int _ _, .int _ _, _, .int _ _]) (av rfl ⟨trivial, rfl⟩) rfl ?_
  refine L_v Tb_ok (v := .int _ _) (av rfl ⟨trivial, trivial⟩) rfl ?_
  refine L_call (hr := terms_find m op) rfl rfl trivial rfl rfl ?_
  refine L_v Tb_ok (v := .tup [_, _]) (av rfl ⟨trivial, trivial⟩) rfl ?_
  refine L_v Tb_ok (v := .agg [.int _ _, .int _ _, .int _ _, .int _ _, .int _ _, .int _ _, .int _ _, .int _ _, .int _ _, .int _ _, .int _ _, .int _ _, _, _, .int _ _, .int _ _, .int _ _, .int _ _, .int _ _, .int _ _, .int _ _, .int _ _, .int _ _, .int _ _, .int _ _, .int _ _, .int _ _, .int _ _, .int _ _]) (av rfl ⟨trivial, trivial⟩) rfl ?_
  refine L_v Tb_ok (v := .int _ _) (av rfl ⟨trivial, trivial⟩) rfl ?_
  refine L_alloc Tb_ok (z := [.int .i64 0, .int .i64 0, .int .i64 0, .int .i64 0, .int .i64 0, .int .i64 0, .int .i64 0, .int .i64 0, .int .i64 0, .int .i64 0, .int .i64 0, .int .i64 0, .nils, .nils, .int .i64 0, .int .i64 0, .int .i64 0, .int .i64 0, .int .i64 0, .int .i64 0, .int .i64 0, .int .i64 0, .int .i64 0, .int .i64 0, .int .i64 0, .int .i64 0, .int .i64 0, .int .i64 0, .int .i64 0]) (n := 29) rfl rfl rfl rfl rfl ?_
  refine L_store Tb_ok (v := .agg [.int _ _, .int _ _, .int _ _, .int _ _, .int _ _, .int _ _, .int _ _, .int _ _, .int _ _, .int _ _, .int _ _, .int _ _, _, _, .int _ _, .int _ _, .int _ _, .int _ _, .int _ _, .int _ _, .int _ _, .int _ _, .int _ _, .int _ _, .int _ _, .int _ _, .int _ _, .int _ _, .int _ _]) (cs := [_, _, _, _, _, _, _, _, _, _, _, _, _, _, _, _, _, _, _, _, _, _, _, _, _, _, _, _, _]) (es' := [[_, _, _, _, _, _, _, _, _, _, _, _, _, _, _, _, _, _, _, _, _, _, _, _, _, _, _, _, _]]) rfl rfl rfl rfl rfl rfl rfl rfl rfl rfl ⟨trivial, trivial⟩ ?_
  refine L_v Tb_ok (v := .int _ _) (av rfl ⟨trivial, trivial⟩) rfl ?_
  refine WL_nil ?_
  refine W_seq ?_
  refine W_seq ?_
  refine W_region rfl ?_
  refine L_v Tb_ok (v := .int _ _) (av rfl ⟨trivial, trivial⟩) rfl ?_
  refine L_v Tb_ok (v := .bool _) (av rfl ⟨trivial, trivial⟩) rfl ?_
  refine WL_nil ?_
  refine W_cond_f (b := _) rfl (by first | exact hc26 | rfl | decide | simp_all) ?_
  refine W_skip ?_
  refine W_seq ?_
  refine W_seq ?_
  refine W_region rfl ?_
  refine L_v Tb_ok (v := .int _ _) (av rfl ⟨trivial, trivial⟩) rfl ?_
  refine L_v Tb_ok (v := .bool _) (av rfl ⟨trivial, trivial⟩) rfl ?_
  refine L_v Tb_ok (v := .bool _) (av rfl ⟨trivial, trivial⟩) rfl ?_
  refine L_g Tb_ok (v := .int _ _) rfl rfl ((fun hg => (av rfl ⟨trivial, trivial⟩))) rfl rfl ?_
  refine L_g Tb_ok (v := .ptr _ _ _) rfl rfl ((fun hg => (av rfl ⟨trivial, trivial⟩))) rfl rfl ?_
  refine L_g Tb_ok (v := .ptr _ _ _) rfl rfl ((fun hg => (av rfl ⟨⟨⟨(by first | exact hg | (simp_all; done) | (simp at hg ⊢; simp [hg])), True.intro⟩, True.intro⟩, trivial⟩))) rfl rfl ?_
  refine L_g Tb_ok (v := .int _ _) rfl rfl ((fun hg => (av rfl ⟨⟨⟨(by first | exact hg | (simp_all; done) | (simp at hg ⊢; simp [hg])), True.intro⟩, True.intro⟩, rfl⟩))) rfl rfl ?_
  refine L_g Tb_ok (v := .bool _) rfl rfl ((fun hg => (av rfl ⟨⟨⟨(by first | exact hg | (simp_all; done) | (simp at hg ⊢; simp [hg])), True.intro⟩, ⟨⟨(by first | exact hg | (simp_all; done) | (simp at hg ⊢; simp [hg])), True.intro⟩, True.intro⟩⟩, trivial⟩))) rfl rfl ?_
  refine L_v Tb_ok (v := .bool _) (av rfl (by refine ⟨?_, fun h => ?_, fun h => ?_⟩ <;> first | exact True.intro | exact ⟨h, True.intro⟩ | (refine ⟨?_, True.intro⟩; first | (rw [h]; done) | (rw [h]; rfl) | (simp [h]; done) | (simp at h hg ⊢; simp [h, hg]; done) | (simp_all; done) | (simp_all; omega)))) rfl ?_
  refine L_v Tb_ok (v := .bool _) (av rfl ⟨trivial, trivial⟩) rfl ?_
  refine L_g Tb_ok (v := .int _ _) rfl rfl ((fun hg => (av rfl ⟨trivial, trivial⟩))) rfl rfl ?_
  refine L_g Tb_ok (v := .bool _) rfl rfl ((fun hg => (av rfl ⟨⟨⟨(by first | exact hg | (simp_all; done) | (simp at hg ⊢; simp [hg])), True.intro⟩, True.intro⟩, trivial⟩))) rfl rfl ?_
  refine L_v Tb_ok (v := .bool _) (av rfl (by refine ⟨?_, fun h => ?_, fun h => ?_⟩ <;> first | exact True.intro | exact ⟨h, True.intro⟩ | (refine ⟨?_, True.intro⟩; first | (rw [h]; done) | (rw [h]; rfl) | (simp [h]; done) | (simp at h hg ⊢; simp [h, hg]; done) | (simp_all; done) | (simp_all; omega)))) rfl ?_
  refine L_v Tb_ok (v := .bool _) (av rfl ⟨trivial, trivial⟩) rfl ?_
  refine L_g Tb_ok (v := .int _ _) rfl rfl ((fun hg => (av rfl ⟨trivial, trivial⟩))) rfl rfl ?_
  refine L_g Tb_ok (v := .ptr _ _ _) rfl rfl ((fun hg => (av rfl ⟨trivial, trivial⟩))) rfl rfl ?_
  refine L_g Tb_ok (v := .ptr _ _ _) rfl rfl ((fun hg => (av rfl ⟨⟨⟨(by first | exact hg | (simp_all; done) | (simp at hg ⊢; simp [hg])), True.intro⟩, True.intro⟩, trivial⟩))) rfl rfl ?_
  refine L_g Tb_ok (v := .int _ _) rfl rfl ((fun hg => (av rfl ⟨⟨⟨(by first | exact hg | (simp_all; done) | (simp at hg ⊢; simp [hg])), True.intro⟩, True.intro⟩, rfl⟩))) rfl rfl ?_
  refine L_g Tb_ok (v := .ptr _ _ _) rfl rfl ((fun hg => (av rfl ⟨trivial, trivial⟩))) rfl rfl ?_
  refine L_g Tb_ok (v := .ptr _ _ _) rfl rfl ((fun hg => (av rfl ⟨⟨⟨(by first | exact hg | (simp_all; done) | (simp at hg ⊢; simp [hg])), True.intro⟩, True.intro⟩, trivial⟩))) rfl rfl ?_
  refine L_g Tb_ok (v := .int _ _) rfl rfl ((fun hg => (av rfl ⟨⟨⟨(by first | exact hg | (simp_all; done) | (simp at hg ⊢; simp [hg])), True.intro⟩, True.intro⟩, rfl⟩))) rfl rfl ?_
  refine L_g Tb_ok (v := .int _ _) rfl rfl ((fun hg => (av rfl ⟨⟨⟨(by first | exact hg | (simp_all; done) | (simp at hg ⊢; simp [hg])), True.intro⟩, ⟨⟨(by first | exact hg | (simp_all; done) | (simp at hg ⊢; simp [hg])), True.intro⟩, True.intro⟩⟩, trivial⟩))) rfl rfl ?_
  refine L_g Tb_ok (v := .bool _) rfl rfl ((fun hg => (av rfl ⟨⟨⟨(by first | exact hg | (simp_all; done) | (simp at hg ⊢; simp [hg])), True.intro⟩, ⟨⟨(by first | exact hg | (simp_all; done) | (simp at hg ⊢; simp [hg])), True.intro⟩, True.intro⟩⟩, trivial⟩))) rfl rfl ?_
  refine L_v Tb_ok (v := .bool _) (av rfl (by refine ⟨?_, fun h => ?_, fun h => ?_⟩ <;> first | exact True.intro | exact ⟨h, True.intro⟩ | (refine ⟨?_, True.intro⟩; first | (rw [h]; done) | (rw [h]; rfl) | (simp [h]; done) | (simp at h hg ⊢; simp [h, hg]; done) | (simp_all; done) | (simp_all; omega)))) rfl ?_
  refine WL_nil ?_
  refine W_cond_f (b := _) rfl (by first | exact hc51 | rfl | decide | simp_all) ?_
  refine W_skip ?_
  refine W_seq ?_
  refine W_region rfl ?_
  refine L_v Tb_ok (v := .int _ _) (av rfl ⟨trivial, trivial⟩) rfl ?_
  refine WL_nil ?_
  refine W_seq ?_
  refine W_region rfl ?_
  refine L_v Tb_ok (v := .ptr _ _ _) (av rfl ⟨trivial, trivial⟩) rfl ?_
  refine L_v Tb_ok (v := .int _ _) (av rfl ⟨trivial, rfl⟩) rfl ?_
  refine L_make Tb_ok (el := 52) (sz := 2) (z := [.int .i64 0, .int .i64 0]) rfl rfl rfl rfl rfl rfl rfl rfl ⟨trivial, trivial⟩ (by first | (rw [hpn]; omega) | (rw [hpn, show (Tb.at 52).bytes = 16 from rfl]; omega)) (by first | (rw [hpn]; omega) | (rw [hpn, show (Tb.at 52).bytes = 16 from rfl]; omega)) rfl ?_
  first | (refine L_v Tb_ok (v := .ro _) (av rfl ⟨trivial, trivial⟩) rfl ?_) | (refine L_v Tb_ok (v := .app _ _) (av rfl ⟨trivial, trivial⟩) rfl ?_) | (refine L_v Tb_ok (v := .row _ _ _) (av rfl ⟨trivial, trivial⟩) rfl ?_) | (refine L_v Tb_ok (v := .nils) (av rfl ⟨trivial, trivial⟩) rfl ?_)
  refine WL_nil ?_
  refine W_seq ?_
  refine W_seq ?_
  refine W_region rfl ?_
  refine L_v Tb_ok (v := .agg [.int _ _, .int _ _, .int _ _, .int _ _, .int _ _, .int _ _, .int _ _, .int _ _, .int _ _, .int _ _, .int _ _, .int _ _, _, _, .int _ _, .int _ _, .int _ _, .int _ _, .int _ _, .int _ _, .int _ _, .int _ _, .int _ _, .int _ _, .int _ _, .int _ _, .int _ _, .int _ _, .int _ _]) (av rfl ⟨trivial, rfl⟩) rfl ?_
  refine L_v Tb_ok (v := .int _ _) (av rfl ⟨trivial, trivial⟩) rfl ?_
  refine L_v Tb_ok (v := .int _ _) (av rfl ⟨trivial, trivial⟩) rfl ?_
  refine L_call (hr := hpl) rfl rfl trivial rfl rfl ?_
  refine L_v Tb_ok (v := .int _ _) (av rfl ⟨trivial, trivial⟩) rfl ?_
  refine L_v Tb_ok (v := .int _ _) (av rfl ⟨trivial, trivial⟩) rfl ?_
  refine WL_nil ?_
  refine W_block ?_
  refine W_inv (ι := {k : Nat // k ≤ pl.length}) (fun k => ⟨[(2, .int .i64 ch), (11, .ptr 1 0 0), (13, .int .i64 0), (14, .row 2 0 (findS m op).Len.toNat), (58, .ro (pl.map intC)), (59, .int .i64 ((pl.map intC).length : Int)), (60, .int .i64 (k.1 : Int))], [(1, some ⟨81, 29, 0, [siteC (findS m op)]⟩), (2, some ⟨52, 2, 0, (ofP pl k.1).map termC⟩)], [], 3⟩) (fun k => pl.length - k.1) ⟨0, Nat.zero_le _⟩ (le_fit ⟨rfl, rfl, rfl, rfl, rfl, rfl, rfl, trivial⟩ ⟨.inr rfl, .inr ?_, trivial⟩ trivial rfl rfl rfl ?_ rfl) ?_
  · show some (Ob.mk _ _ _ (List.replicate (findS m op).Len.toNat _)) = _
    simp [ofP, hpn, termC]
  · simp [ltOB, termC, siteC, opC, shapeC, AV.lt]
  rintro ⟨k, hk⟩
  refine W_seq ?_
  refine W_region rfl ?_
  refine L_v Tb_ok (v := .bool _) (av rfl ⟨trivial, trivial⟩) rfl ?_
  refine WL_nil ?_
  refine W_seq ?_
  refine W_cond (b := _) rfl (fun h61 => ?_) (fun h61 => ?_)
  · have hlt : k < pl.length := by simpa using h61
    refine W_skip ?_
    refine W_seq ?_
    refine W_block ?_
    refine W_seq ?_
    refine W_region rfl ?_
    refine L_v Tb_ok (v := .int _ _) (av rfl ⟨trivial, trivial⟩) rfl ?_
    first | (refine L_v Tb_ok (v := _) (ave_index_ro rfl rfl rfl (fun _ => rfl) rfl (by first | omega | assumption | decide | (simp_all; done) | (simp_all; omega)) (by first | omega | assumption | decide | (simp_all; done) | (simp_all; omega)) trivial) rfl ?_) | (refine L_v Tb_ok (v := _) (ave_index_app rfl rfl rfl (fun _ => rfl) rfl (by first | omega | assumption | decide | (simp_all; done) | (simp_all; omega)) (by first | omega | assumption | decide | (simp_all; done) | (simp_all; omega)) trivial) rfl ?_) | (refine L_v Tb_ok (v := _) (ave_index_row rfl rfl rfl rfl rfl rfl (by first | omega | assumption | decide | (simp_all; done) | (simp_all; omega)) (by first | omega | assumption | decide | (simp_all; done) | (simp_all; omega)) trivial) rfl ?_) | (refine L_v Tb_ok (v := .rptr _) (av rfl ⟨trivial, ⟨(by first | omega | assumption | decide | (simp_all; done) | (simp_all; omega)), (by first | omega | assumption | decide | (simp_all; done) | (simp_all; omega))⟩, rfl⟩) rfl ?_) | (refine L_v Tb_ok (v := .ptr _ _ _) (av rfl ⟨trivial, ⟨(by first | omega | assumption | decide | (simp_all; done) | (simp_all; omega)), (by first | omega | assumption | decide | (simp_all; done) | (simp_all; omega))⟩, rfl⟩) rfl ?_)
    refine L_v Tb_ok (v := .int _ _) (av rfl ⟨trivial, rfl⟩) rfl ?_
    refine L_v Tb_ok (v := .int _ _) (av rfl ⟨trivial, trivial⟩) rfl ?_
    refine L_v Tb_ok (v := .int _ _) (av rfl ⟨trivial, trivial⟩) rfl ?_
    refine WL_nil ?_
    refine W_region rfl ?_
    first | (refine L_v Tb_ok (v := .ro _) (av rfl ⟨trivial, trivial⟩) rfl ?_) | (refine L_v Tb_ok (v := .app _ _) (av rfl ⟨trivial, trivial⟩) rfl ?_) | (refine L_v Tb_ok (v := .row _ _ _) (av rfl ⟨trivial, trivial⟩) rfl ?_) | (refine L_v Tb_ok (v := .nils) (av rfl ⟨trivial, trivial⟩) rfl ?_)
    refine L_v Tb_ok (v := .int _ _) (av rfl ⟨trivial, trivial⟩) rfl ?_
    refine L_v Tb_ok (v := .int _ _) (av rfl ⟨trivial, trivial⟩) rfl ?_
    refine L_v Tb_ok (v := .agg [.int _ _, .int _ _]) (av rfl ⟨trivial, rfl⟩) rfl ?_
    first | (refine L_v Tb_ok (v := _) (ave_index_ro rfl rfl rfl (fun _ => rfl) rfl (by first | omega | assumption | decide | (simp_all; done) | (simp_all; omega)) (by first | omega | assumption | decide | (simp_all; done) | (simp_all; omega)) trivial) rfl ?_) | (refine L_v Tb_ok (v := _) (ave_index_app rfl rfl rfl (fun _ => rfl) rfl (by first | omega | assumption | decide | (simp_all; done) | (simp_all; omega)) (by first | omega | assumption | decide | (simp_all; done) | (simp_all; omega)) trivial) rfl ?_) | (refine L_v Tb_ok (v := _) (ave_index_row rfl rfl rfl rfl rfl rfl (by first | omega | assumption | decide | (simp_all; done) | (simp_all; omega)) (by first | omega | assumption | decide | (simp_all; done) | (simp_all; omega)) trivial) rfl ?_) | (refine L_v Tb_ok (v := .rptr _) (av rfl ⟨trivial, ⟨(by first | omega | assumption | decide | (simp_all; done) | (simp_all; omega)), (by first | omega | assumption | decide | (simp_all; done) | (simp_all; omega))⟩, rfl⟩) rfl ?_) | (refine L_v Tb_ok (v := .ptr _ _ _) (av rfl ⟨trivial, ⟨(by first | omega | assumption | decide | (simp_all; done) | (simp_all; omega)), (by first | omega | assumption | decide | (simp_all; done) | (simp_all; omega))⟩, rfl⟩) rfl ?_)
    refine L_store_row Tb_ok (f := termC) (xs := ofP pl k) (v' := ⟨1, pl.getD k 0⟩) rfl rfl rfl rfl rfl rfl rfl rfl (by rw [ofP_len _ _ hk]; simp; omega) rfl ⟨trivial, trivial⟩ ?_
    refine WL_nil ?_
    refine W_region rfl ?_
    refine L_v Tb_ok (v := .int _ _) (av rfl ⟨trivial, trivial⟩) rfl ?_
    refine L_v Tb_ok (v := .int _ _) (av rfl ⟨trivial, trivial⟩) rfl ?_
    refine WL_nil ?_
    refine round_end ⟨k + 1, hlt⟩ (by dsimp only; omega) (le_fit ⟨rfl, rfl, rfl, rfl, rfl, rfl, congrArg _ (w_succ hlt (by omega)), trivial⟩ ⟨.inr rfl, .inr ?_, trivial⟩ trivial rfl rfl rfl ?_ rfl)
    · show some (Ob.mk 52 2 0 (((ofP pl k).set (0 + ((k : Nat) : Int).toNat) ⟨1, pl.getD k 0⟩).map termC)) = _
      rw [Nat.zero_add, Int.toNat_natCast, ofP_set pl k hlt]
    · simp [ltOB, termC, siteC, opC, shapeC, AV.lt]
  · refine W_exit ?_
    repeat (first | refine pass_then ?_ | refine pass_once ?_ | refine pass_le ?_ | refine pass_round ?_ | refine pass_for ?_ | refine blockQ_miss rfl ?_)
    refine blockQ_hit ?_
    refine W_seq ?_
    refine W_seq ?_
    refine W_region rfl ?_
    refine L_v Tb_ok (v := .ptr _ _ _) (av rfl ⟨trivial, trivial⟩) rfl ?_
    refine L_v Tb_ok (v := .ptr _ _ _) (av rfl ⟨trivial, trivial⟩) rfl ?_
    refine L_v Tb_ok (v := .int _ _) (av rfl ⟨trivial, rfl⟩) rfl ?_
    refine L_v Tb_ok (v := .bool _) (av rfl ⟨trivial, trivial⟩) rfl ?_
    refine WL_nil ?_
    refine W_cond_f (b := _) rfl (by first | exact hc74 | rfl | decide | simp_all) ?_
    refine W_skip ?_
    refine W_seq ?_
    refine W_region rfl ?_
    have hke : k = pl.length := by simp at h61; omega
    refine L_freeze (t := 14) (id := 2) (n := (findS m op).Len.toNat) (l := (ofP pl k).map termC) rfl rfl ?_ rfl rfl ?_ ?_ ?_
    · show _ = ((ofP pl k).map termC).length
      rw [List.length_map, ofP_len pl k hk, hpn]; rfl
    · show ((ofP pl k).map termC).map (·.map demC) = _
      simp [termC, demC]
    · simp [termC, grC]
    first | (refine L_v Tb_ok (v := .ro _) (av rfl ⟨trivial, trivial⟩) rfl ?_) | (refine L_v Tb_ok (v := .app _ _) (av rfl ⟨trivial, trivial⟩) rfl ?_) | (refine L_v Tb_ok (v := .row _ _ _) (av rfl ⟨trivial, trivial⟩) rfl ?_) | (refine L_v Tb_ok (v := .nils) (av rfl ⟨trivial, trivial⟩) rfl ?_)
    refine L_v Tb_ok (v := .int _ _) (av rfl ⟨trivial, trivial⟩) rfl ?_
    first | (refine L_v Tb_ok (v := .ro _) (av rfl ⟨trivial, trivial⟩) rfl ?_) | (refine L_v Tb_ok (v := .app _ _) (av rfl ⟨trivial, trivial⟩) rfl ?_) | (refine L_v Tb_ok (v := .row _ _ _) (av rfl ⟨trivial, trivial⟩) rfl ?_) | (refine L_v Tb_ok (v := .nils) (av rfl ⟨trivial, trivial⟩) rfl ?_)
    refine L_v Tb_ok (v := .int _ _) (av rfl ⟨trivial, trivial⟩) rfl ?_
    refine L_v Tb_ok (v := .int _ _) (av rfl ⟨trivial, trivial⟩) rfl ?_
    refine WL_nil ?_
    refine W_ret ?_
    first | (refine ends (l := [.app _ _, .int _ _, .int _ _]) (q := .tup [.ro _, .int _ _, .int _ _]) (.inr rfl) rfl ⟨trivial, trivial, trivial, trivial⟩ rfl rfl ?_) | (refine ends (l := [.nils, .int _ _, .int _ _]) (q := .tup [.ro _, .int _ _, .int _ _]) (.inr rfl) rfl ⟨trivial, trivial, trivial, trivial⟩ rfl rfl ?_) | (refine ends (l := [.ro _, .int _ _, .int _ _]) (q := .tup [.ro _, .int _ _, .int _ _]) (.inr rfl) rfl ⟨trivial, trivial, trivial, trivial⟩ rfl rfl ?_)
    rw [hke]
/-- the channel's weights -/
def ofWs (S : Site) (ch : Int) : List Int := (S.Op.Weights.drop (w64 (w64 (ch - 1) * S.Len)).toNat).take ((w64 (ch * S.Len)).toNat - (w64 (w64 (ch - 1) * S.Len)).toNat)
def ofQ (pl ws : List Int) (k : Nat) : List Term := (List.range pl.length).map fun i => ⟨if i < k then ws.getD i 0 else 1, pl.getD i 0⟩
theorem ofQ_len (pl ws : List Int) (k : Nat) : (ofQ pl ws k).length = pl.length := by simp [ofQ]
theorem ofQ_zero (pl ws : List Int) : ofQ pl ws 0 = ofP pl pl.length := by
  apply List.ext_getElem
  · simp [ofQ, ofP]
  · intro i h1 h2
    simp [ofQ] at h1
    simp [ofQ, ofP, List.getElem_append, h1]
theorem ofQ_set (pl ws : List Int) (k : Nat) (h : k < pl.length) : (ofQ pl ws k).set k ⟨ws.getD k 0, ((ofQ pl ws k).getD k default).At⟩ = ofQ pl ws (k + 1) := by
  apply List.ext_getElem
  · simp [ofQ]
  · intro i h1 h2
    have hi : i < pl.length := by simpa [ofQ] using h2
    by_cases e : k = i
    · subst e; simp [ofQ, h]
    · rw [List.getElem_set_ne e]
      have e2 : (i < k) = (i < k + 1) := by simp; omega
      simp [ofQ, e2]
end Go.AM
end
section
open Go Go.AM Go.Proofs
set_option maxRecDepth 10000
set_option linter.unusedVariables false
set_option linter.unusedSimpArgs false
namespace Go.AM
theorem terms_Of_w (m : Model) (op ch at_ : Int) (hc26 : (findE m op != 0) = false) (hc51 : ofBad (findS m op) ch at_ = false) (hc74 : ((findS m op).Op.Kind != 4) = true) (pl : List Int)
    (hpl : Ok Try.prog 32 [.agg (siteC (findS m op)), .int .i64 ch, .int .i64 at_] (.ro (pl.map intC))) (hpn : (findS m op).Len = (pl.length : Int)) (hps : pl.length ≤ 1048576)
    (hb0 : 0 ≤ w64 (ch - 1)) (hb1 : w64 (ch - 1) < (findS m op).Op.Bias.length) (hw0 : 0 ≤ w64 (w64 (ch - 1) * (findS m op).Len)) (hw1 : w64 (ch * (findS m op).Len) - w64 (w64 (ch - 1) * (findS m op).Len) = (findS m op).Len) (hw2 : w64 (ch * (findS m op).Len) ≤ (findS m op).Op.Weights.length) :
    Ok Try.prog 11 [.agg (modelC m), .int .i64 op, .int .i64 ch, .int .i64 at_] (.tup [.ro ((ofQ pl ((ofWs (findS m op) ch).map w64) pl.length).map termC), .int .i64 (w64 ((findS m op).Op.Bias.getD (w64 (ch - 1)).toNat default)), .int .i64 0]) := by
  have hwl : (ofWs (findS m op) ch).length = pl.length := by simp [ofWs]; omega
  refine fn_ok Tb_ok (fn := Try.f11) Try.func11 rfl rfl (e := [(0, _), (1, _), (2, _), (3, _)]) rfl (by decide) rfl ?_
  refine W_seq ?_
  refine W_region rfl ?_
  refine L_box Tb_ok (cs := [.int _ _, .int _ _, .int _ _, .int _ _, .int _ _, _, .int _ _]) (n := 7) rfl rfl rfl rfl trivial ?_
  refine L_v Tb_ok (v := .nils) (av rfl ⟨trivial, trivial⟩) rfl ?_
  refine L_v Tb_ok (v := .int _ _) (av rfl ⟨trivial, trivial⟩) rfl ?_
  refine L_v Tb_ok (v := .int _ _) (av rfl ⟨trivial, trivial⟩) rfl ?_
  refine WL_nil ?_
  refine W_seq ?_
  refine W_region rfl ?_
  refine L_v Tb_ok (v := .agg [.int _ _, .int _ _, .int _ _, .int _ _, .int _ _, _, .int _ _]) (av rfl ⟨trivial, rfl⟩) rfl ?_
  refine L_v Tb_ok (v := .int _ _) (av rfl ⟨trivial, trivial⟩) rfl ?_
  refine L_call (hr := terms_find m op) rfl rfl trivial rfl rfl ?_
  refine L_v Tb_ok (v := .tup [_, _]) (av rfl ⟨trivial, trivial⟩) rfl ?_
  refine L_v Tb_ok (v := .agg [.int _ _, .int _ _, .int _ _, .int _ _, .int _ _, .int _ _, .int _ _, .int _ _, .int _ _, .int _ _, .int _ _, .int _ _, _, _, .int _ _, .int _ _, .int _ _, .int _ _, .int _ _, .int _ _, .int _ _, .int _ _, .int _ _, .int _ _, .int _ _, .int _ _, .int _ _, .int _ _, .int _ _]) (av rfl ⟨trivial, trivial⟩) rfl ?_
  refine L_v Tb_ok (v := .int _ _) (av rfl ⟨trivial, trivial⟩) rfl ?_
  refine L_alloc Tb_ok (z := [.int .i64 0, .int .i64 0, .int .i64 0, .int .i64 0, .int .i64 0, .int .i64 0, .int .i64 0, .int .i64 0, .int .i64 0, .int .i64 0, .int .i64 0, .int .i64 0, .nils, .nils, .int .i64 0, .int .i64 0, .int .i64 0, .int .i64 0, .int .i64 0, .int .i64 0, .int .i64 0, .int .i64 0, .int .i64 0, .int .i64 0, .int .i64 0, .int .i64 0, .int .i64 0, .int .i64 0, .int .i64 0]) (n := 29) rfl rfl rfl rfl rfl ?_
  refine L_store Tb_ok (v := .agg [.int _ _, .int _ _, .int _ _, .int _ _, .int _ _, .int _ _, .int _ _, .int _ _, .int _ _, .int _ _, .int _ _, .int _ _, _, _, .int _ _, .int _ _, .int _ _, .int _ _, .int _ _, .int _ _, .int _ _, .int _ _, .int _ _, .int _ _, .int _ _, .int _ _, .int _ _, .int _ _, .int _ _]) (cs := [_, _, _, _, _, _, _, _, _, _, _, _, _, _, _, _, _, _, _, _, _, _, _, _, _, _, _, _, _]) (es' := [[_, _, _, _, _, _, _, _, _, _, _, _, _, _, _, _, _, _, _, _, _, _, _, _, _, _, _, _, _]]) rfl rfl rfl rfl rfl rfl rfl rfl rfl rfl ⟨trivial, trivial⟩ ?_
  refine L_v Tb_ok (v := .int _ _) (av rfl ⟨trivial, trivial⟩) rfl ?_
  refine WL_nil ?_
  refine W_seq ?_
  refine W_seq ?_
  refine W_region rfl ?_
  refine L_v Tb_ok (v := .int _ _) (av rfl ⟨trivial, trivial⟩) rfl ?_
  refine L_v Tb_ok (v := .bool _) (av rfl ⟨trivial, trivial⟩) rfl ?_
  refine WL_nil ?_
  refine W_cond_f (b := _) rfl (by first | exact hc26 | rfl | decide | simp_all) ?_
  refine W_skip ?_
  refine W_seq ?_
  refine W_seq ?_
  refine W_region rfl ?_
  refine L_v Tb_ok (v := .int _ _) (av rfl ⟨trivial, trivial⟩) rfl ?_
  refine L_v Tb_ok (v := .bool _) (av rfl ⟨trivial, trivial⟩) rfl ?_
  refine L_v Tb_ok (v := .bool _) (av rfl ⟨trivial, trivial⟩) rfl ?_
  refine L_g Tb_ok (v := .int _ _) rfl rfl ((fun hg => (av rfl ⟨trivial, trivial⟩))) rfl rfl ?_
  refine L_g Tb_ok (v := .ptr _ _ _) rfl rfl ((fun hg => (av rfl ⟨trivial, trivial⟩))) rfl rfl ?_
  refine L_g Tb_ok (v := .ptr _ _ _) rfl rfl ((fun hg => (av rfl ⟨⟨⟨(by first | exact hg | (simp_all; done) | (simp at hg ⊢; simp [hg])), True.intro⟩, True.intro⟩, trivial⟩))) rfl rfl ?_
  refine L_g Tb_ok (v := .int _ _) rfl rfl ((fun hg => (av rfl ⟨⟨⟨(by first | exact hg | (simp_all; done) | (simp at hg ⊢; simp [hg])), True.intro⟩, True.intro⟩, rfl⟩))) rfl rfl ?_
  refine L_g Tb_ok (v := .bool _) rfl rfl ((fun hg => (av rfl ⟨⟨⟨(by first | exact hg | (simp_all; done) | (simp at hg ⊢; simp [hg])), True.intro⟩, ⟨⟨(by first | exact hg | (simp_all; done) | (simp at hg ⊢; simp [hg])), True.intro⟩, True.intro⟩⟩, trivial⟩))) rfl rfl ?_
  refine L_v Tb_ok (v := .bool _) (av rfl (by refine ⟨?_, fun h => ?_, fun h => ?_⟩ <;> first | exact True.intro | exact ⟨h, True.intro⟩ | (refine ⟨?_, True.intro⟩; first | (rw [h]; done) | (rw [h]; rfl) | (simp [h]; done) | (simp at h hg ⊢; simp [h, hg]; done) | (simp_all; done) | (simp_all; omega)))) rfl ?_
  refine L_v Tb_ok (v := .bool _) (av rfl ⟨trivial, trivial⟩) rfl ?_
  refine L_g Tb_ok (v := .int _ _) rfl rfl ((fun hg => (av rfl ⟨trivial, trivial⟩))) rfl rfl ?_
  refine L_g Tb_ok (v := .bool _) rfl rfl ((fun hg => (av rfl ⟨⟨⟨(by first | exact hg | (simp_all; done) | (simp at hg ⊢; simp [hg])), True.intro⟩, True.intro⟩, trivial⟩))) rfl rfl ?_
  refine L_v Tb_ok (v := .bool _) (av rfl (by refine ⟨?_, fun h => ?_, fun h => ?_⟩ <;> first | exact True.intro | exact ⟨h, True.intro⟩ | (refine ⟨?_, True.intro⟩; first | (rw [h]; done) | (rw [h]; rfl) | (simp [h]; done) | (simp at h hg ⊢; simp [h, hg]; done) | (simp_all; done) | (simp_all; omega)))) rfl ?_
  refine L_v Tb_ok (v := .bool _) (av rfl ⟨trivial, trivial⟩) rfl ?_
  refine L_g Tb_ok (v := .int _ _) rfl rfl ((fun hg => (av rfl ⟨trivial, trivial⟩))) rfl rfl ?_
  refine L_g Tb_ok (v := .ptr _ _ _) rfl rfl ((fun hg => (av rfl ⟨trivial, trivial⟩))) rfl rfl ?_
  refine L_g Tb_ok (v := .ptr _ _ _) rfl rfl ((fun hg => (av rfl ⟨⟨⟨(by first | exact hg | (simp_all; done) | (simp at hg ⊢; simp [hg])), True.intro⟩, True.intro⟩, trivial⟩))) rfl rfl ?_
  refine L_g Tb_ok (v := .int _ _) rfl rfl ((fun hg => (av rfl ⟨⟨⟨(by first | exact hg | (simp_all; done) | (simp at hg ⊢; simp [hg])), True.intro⟩, True.intro⟩, rfl⟩))) rfl rfl ?_
  refine L_g Tb_ok (v := .ptr _ _ _) rfl rfl ((fun hg => (av rfl ⟨trivial, trivial⟩))) rfl rfl ?_
  refine L_g Tb_ok (v := .ptr _ _ _) rfl rfl ((fun hg => (av rfl ⟨⟨⟨(by first | exact hg | (simp_all; done) | (simp at hg ⊢; simp [hg])), True.intro⟩, True.intro⟩, trivial⟩))) rfl rfl ?_
  refine L_g Tb_ok (v := .int _ _) rfl rfl ((fun hg => (av rfl ⟨⟨⟨(by first | exact hg | (simp_all; done) | (simp at hg ⊢; simp [hg])), True.intro⟩, True.intro⟩, rfl⟩))) rfl rfl ?_
  refine L_g Tb_ok (v := .int _ _) rfl rfl ((fun hg => (av rfl ⟨⟨⟨(by first | exact hg | (simp_all; done) | (simp at hg ⊢; simp [hg])), True.intro⟩, ⟨⟨(by first | exact hg | (simp_all; done) | (simp at hg ⊢; simp [hg])), True.intro⟩, True.intro⟩⟩, trivial⟩))) rfl rfl ?_
  refine L_g Tb_ok (v := .bool _) rfl rfl ((fun hg => (av rfl ⟨⟨⟨(by first | exact hg | (simp_all; done) | (simp at hg ⊢; simp [hg])), True.intro⟩, ⟨⟨(by first | exact hg | (simp_all; done) | (simp at hg ⊢; simp [hg])), True.intro⟩, True.intro⟩⟩, trivial⟩))) rfl rfl ?_
  refine L_v Tb_ok (v := .bool _) (av rfl (by refine ⟨?_, fun h => ?_, fun h => ?_⟩ <;> first | exact True.intro | exact ⟨h, True.intro⟩ | (refine ⟨?_, True.intro⟩; first | (rw [h]; done) | (rw [h]; rfl) | (simp [h]; done) | (simp at h hg ⊢; simp [h, hg]; done) | (simp_all; done) | (simp_all; omega)))) rfl ?_
  refine WL_nil ?_
  refine W_cond_f (b := _) rfl (by first | exact hc51 | rfl | decide | simp_all) ?_
  refine W_skip ?_
  refine W_seq ?_
  refine W_region rfl ?_
  refine L_v Tb_ok (v := .int _ _) (av rfl ⟨trivial, trivial⟩) rfl ?_
  refine WL_nil ?_
  refine W_seq ?_
  refine W_region rfl ?_
  refine L_v Tb_ok (v := .ptr _ _ _) (av rfl ⟨trivial, trivial⟩) rfl ?_
  refine L_v Tb_ok (v := .int _ _) (av rfl ⟨trivial, rfl⟩) rfl ?_
  refine L_make Tb_ok (el := 52) (sz := 2) (z := [.int .i64 0, .int .i64 0]) rfl rfl rfl rfl rfl rfl rfl rfl ⟨trivial, trivial⟩ (by first | (rw [hpn]; omega) | (rw [hpn, show (Tb.at 52).bytes = 16 from rfl]; omega)) (by first | (rw [hpn]; omega) | (rw [hpn, show (Tb.at 52).bytes = 16 from rfl]; omega)) rfl ?_
  first | (refine L_v Tb_ok (v := .ro _) (av rfl ⟨trivial, trivial⟩) rfl ?_) | (refine L_v Tb_ok (v := .app _ _) (av rfl ⟨trivial, trivial⟩) rfl ?_) | (refine L_v Tb_ok (v := .row _ _ _) (av rfl ⟨trivial, trivial⟩) rfl ?_) | (refine L_v Tb_ok (v := .nils) (av rfl ⟨trivial, trivial⟩) rfl ?_)
  refine WL_nil ?_
  refine W_seq ?_
  refine W_seq ?_
  refine W_region rfl ?_
  refine L_v Tb_ok (v := .agg [.int _ _, .int _ _, .int _ _, .int _ _, .int _ _, .int _ _, .int _ _, .int _ _, .int _ _, .int _ _, .int _ _, .int _ _, _, _, .int _ _, .int _ _, .int _ _, .int _ _, .int _ _, .int _ _, .int _ _, .int _ _, .int _ _, .int _ _, .int _ _, .int _ _, .int _ _, .int _ _, .int _ _]) (av rfl ⟨trivial, rfl⟩) rfl ?_
  refine L_v Tb_ok (v := .int _ _) (av rfl ⟨trivial, trivial⟩) rfl ?_
  refine L_v Tb_ok (v := .int _ _) (av rfl ⟨trivial, trivial⟩) rfl ?_
  refine L_call (hr := hpl) rfl rfl trivial rfl rfl ?_
  refine L_v Tb_ok (v := .int _ _) (av rfl ⟨trivial, trivial⟩) rfl ?_
  refine L_v Tb_ok (v := .int _ _) (av rfl ⟨trivial, trivial⟩) rfl ?_
  refine WL_nil ?_
  refine W_block ?_
  refine W_inv (ι := {k : Nat // k ≤ pl.length}) (fun k => ⟨[(2, .int .i64 ch), (11, .ptr 1 0 0), (13, .int .i64 0), (14, .row 2 0 (findS m op).Len.toNat), (58, .ro (pl.map intC)), (59, .int .i64 ((pl.map intC).length : Int)), (60, .int .i64 (k.1 : Int))], [(1, some ⟨81, 29, 0, [siteC (findS m op)]⟩), (2, some ⟨52, 2, 0, (ofP pl k.1).map termC⟩)], [], 3⟩) (fun k => pl.length - k.1) ⟨0, Nat.zero_le _⟩ (le_fit ⟨rfl, rfl, rfl, rfl, rfl, rfl, rfl, trivial⟩ ⟨.inr rfl, .inr ?_, trivial⟩ trivial rfl rfl rfl ?_ rfl) ?_
  · show some (Ob.mk _ _ _ (List.replicate (findS m op).Len.toNat _)) = _
    simp [ofP, hpn, termC]
  · simp [ltOB, termC, siteC, opC, shapeC, AV.lt]
  rintro ⟨k, hk⟩
  refine W_seq ?_
  refine W_region rfl ?_
  refine L_v Tb_ok (v := .bool _) (av rfl ⟨trivial, trivial⟩) rfl ?_
  refine WL_nil ?_
  refine W_seq ?_
  refine W_cond (b := _) rfl (fun h61 => ?_) (fun h61 => ?_)
  · have hlt : k < pl.length := by simpa using h61
    refine W_skip ?_
    refine W_seq ?_
    refine W_block ?_
    refine W_seq ?_
    refine W_region rfl ?_
    refine L_v Tb_ok (v := .int _ _) (av rfl ⟨trivial, trivial⟩) rfl ?_
    first | (refine L_v Tb_ok (v := _) (ave_index_ro rfl rfl rfl (fun _ => rfl) rfl (by first | omega | assumption | decide | (simp_all; done) | (simp_all; omega)) (by first | omega | assumption | decide | (simp_all; done) | (simp_all; omega)) trivial) rfl ?_) | (refine L_v Tb_ok (v := _) (ave_index_app rfl rfl rfl (fun _ => rfl) rfl (by first | omega | assumption | decide | (simp_all; done) | (simp_all; omega)) (by first | omega | assumption | decide | (simp_all; done) | (simp_all; omega)) trivial) rfl ?_) | (refine L_v Tb_ok (v := _) (ave_index_row rfl rfl rfl rfl rfl rfl (by first | omega | assumption | decide | (simp_all; done) | (simp_all; omega)) (by first | omega | assumption | decide | (simp_all; done) | (simp_all; omega)) trivial) rfl ?_) | (refine L_v Tb_ok (v := .rptr _) (av rfl ⟨trivial, ⟨(by first | omega | assumption | decide | (simp_all; done) | (simp_all; omega)), (by first | omega | assumption | decide | (simp_all; done) | (simp_all; omega))⟩, rfl⟩) rfl ?_) | (refine L_v Tb_ok (v := .ptr _ _ _) (av rfl ⟨trivial, ⟨(by first | omega | assumption | decide | (simp_all; done) | (simp_all; omega)), (by first | omega | assumption | decide | (simp_all; done) | (simp_all; omega))⟩, rfl⟩) rfl ?_)
    refine L_v Tb_ok (v := .int _ _) (av rfl ⟨trivial, rfl⟩) rfl ?_
    refine L_v Tb_ok (v := .int _ _) (av rfl ⟨trivial, trivial⟩) rfl ?_
    refine L_v Tb_ok (v := .int _ _) (av rfl ⟨trivial, trivial⟩) rfl ?_
    refine WL_nil ?_
    refine W_region rfl ?_
    first | (refine L_v Tb_ok (v := .ro _) (av rfl ⟨trivial, trivial⟩) rfl ?_) | (refine L_v Tb_ok (v := .app _ _) (av rfl ⟨trivial, trivial⟩) rfl ?_) | (refine L_v Tb_ok (v := .row _ _ _) (av rfl ⟨trivial, trivial⟩) rfl ?_) | (refine L_v Tb_ok (v := .nils) (av rfl ⟨trivial, trivial⟩) rfl ?_)
    refine L_v Tb_ok (v := .int _ _) (av rfl ⟨trivial, trivial⟩) rfl ?_
    refine L_v Tb_ok (v := .int _ _) (av rfl ⟨trivial, trivial⟩) rfl ?_
    refine L_v Tb_ok (v := .agg [.int _ _, .int _ _]) (av rfl ⟨trivial, rfl⟩) rfl ?_
    first | (refine L_v Tb_ok (v := _) (ave_index_ro rfl rfl rfl (fun _ => rfl) rfl (by first | omega | assumption | decide | (simp_all; done) | (simp_all; omega)) (by first | omega | assumption | decide | (simp_all; done) | (simp_all; omega)) trivial) rfl ?_) | (refine L_v Tb_ok (v := _) (ave_index_app rfl rfl rfl (fun _ => rfl) rfl (by first | omega | assumption | decide | (simp_all; done) | (simp_all; omega)) (by first | omega | assumption | decide | (simp_all; done) | (simp_all; omega)) trivial) rfl ?_) | (refine L_v Tb_ok (v := _) (ave_index_row rfl rfl rfl rfl rfl rfl (by first | omega | assumption | decide | (simp_all; done) | (simp_all; omega)) (by first | omega | assumption | decide | (simp_all; done) | (simp_all; omega)) trivial) rfl ?_) | (refine L_v Tb_ok (v := .rptr _) (av rfl ⟨trivial, ⟨(by first | omega | assumption | decide | (simp_all; done) | (simp_all; omega)), (by first | omega | assumption | decide | (simp_all; done) | (simp_all; omega))⟩, rfl⟩) rfl ?_) | (refine L_v Tb_ok (v := .ptr _ _ _) (av rfl ⟨trivial, ⟨(by first | omega | assumption | decide | (simp_all; done) | (simp_all; omega)), (by first | omega | assumption | decide | (simp_all; done) | (simp_all; omega))⟩, rfl⟩) rfl ?_)
    refine L_store_row Tb_ok (f := termC) (xs := ofP pl k) (v' := ⟨1, pl.getD k 0⟩) rfl rfl rfl rfl rfl rfl rfl rfl (by rw [ofP_len _ _ hk]; simp; omega) rfl ⟨trivial, trivial⟩ ?_
    refine WL_nil ?_
    refine W_region rfl ?_
    refine L_v Tb_ok (v := .int _ _) (av rfl ⟨trivial, trivial⟩) rfl ?_
    refine L_v Tb_ok (v := .int _ _) (av rfl ⟨trivial, trivial⟩) rfl ?_
    refine WL_nil ?_
    refine round_end ⟨k + 1, hlt⟩ (by dsimp only; omega) (le_fit ⟨rfl, rfl, rfl, rfl, rfl, rfl, congrArg _ (w_succ hlt (by omega)), trivial⟩ ⟨.inr rfl, .inr ?_, trivial⟩ trivial rfl rfl rfl ?_ rfl)
    · show some (Ob.mk 52 2 0 (((ofP pl k).set (0 + ((k : Nat) : Int).toNat) ⟨1, pl.getD k 0⟩).map termC)) = _
      rw [Nat.zero_add, Int.toNat_natCast, ofP_set pl k hlt]
    · simp [ltOB, termC, siteC, opC, shapeC, AV.lt]
  · have hke : k = pl.length := by simp at h61; omega
    subst hke
    refine W_exit ?_
    repeat (first | refine pass_then ?_ | refine pass_once ?_ | refine pass_le ?_ | refine pass_round ?_ | refine pass_for ?_ | refine blockQ_miss rfl ?_)
    refine blockQ_hit ?_
    refine W_seq ?_
    refine W_seq ?_
    refine W_region rfl ?_
    refine L_v Tb_ok (v := .ptr _ _ _) (av rfl ⟨trivial, trivial⟩) rfl ?_
    refine L_v Tb_ok (v := .ptr _ _ _) (av rfl ⟨trivial, trivial⟩) rfl ?_
    refine L_v Tb_ok (v := .int _ _) (av rfl ⟨trivial, rfl⟩) rfl ?_
    refine L_v Tb_ok (v := .bool _) (av rfl ⟨trivial, trivial⟩) rfl ?_
    refine WL_nil ?_
    refine W_cond_t (b := _) rfl (by first | exact hc74 | rfl | decide | simp_all) ?_
    refine W_seq ?_
    refine W_region rfl ?_
    refine L_v Tb_ok (v := .ptr _ _ _) (av rfl ⟨trivial, trivial⟩) rfl ?_
    refine L_v Tb_ok (v := .ptr _ _ _) (av rfl ⟨trivial, trivial⟩) rfl ?_
    first | (refine L_v Tb_ok (v := .ro _) (av rfl ⟨trivial, rfl⟩) rfl ?_) | (refine L_v Tb_ok (v := .app _ _) (av rfl ⟨trivial, rfl⟩) rfl ?_) | (refine L_v Tb_ok (v := .row _ _ _) (av rfl ⟨trivial, rfl⟩) rfl ?_) | (refine L_v Tb_ok (v := .nils) (av rfl ⟨trivial, rfl⟩) rfl ?_)
    refine L_v Tb_ok (v := .int _ _) (av rfl ⟨trivial, trivial⟩) rfl ?_
    refine L_v Tb_ok (v := .int _ _) (av rfl ⟨trivial, trivial⟩) rfl ?_
    first | (refine L_v Tb_ok (v := _) (ave_index_ro rfl rfl rfl (fun _ => rfl) rfl (by first | exact hb0 | exact hb1) (by first | exact hb0 | exact hb1) trivial) rfl ?_) | (refine L_v Tb_ok (v := _) (ave_index_app rfl rfl rfl (fun _ => rfl) rfl (by first | exact hb0 | exact hb1) (by first | exact hb0 | exact hb1) trivial) rfl ?_) | (refine L_v Tb_ok (v := _) (ave_index_row rfl rfl rfl rfl rfl rfl (by first | exact hb0 | exact hb1) (by first | exact hb0 | exact hb1) trivial) rfl ?_) | (refine L_v Tb_ok (v := .rptr _) (av rfl ⟨trivial, ⟨(by first | exact hb0 | exact hb1), (by first | exact hb0 | exact hb1)⟩, rfl⟩) rfl ?_) | (refine L_v Tb_ok (v := .ptr _ _ _) (av rfl ⟨trivial, ⟨(by first | exact hb0 | exact hb1), (by first | exact hb0 | exact hb1)⟩, rfl⟩) rfl ?_)
    refine L_v Tb_ok (v := .int _ _) (av rfl ⟨trivial, rfl⟩) rfl ?_
    refine L_v Tb_ok (v := .int _ _) (av rfl ⟨trivial, trivial⟩) rfl ?_
    refine L_v Tb_ok (v := .int _ _) (av rfl ⟨trivial, trivial⟩) rfl ?_
    refine WL_nil ?_
    refine W_seq ?_
    refine W_region rfl ?_
    refine L_v Tb_ok (v := .ptr _ _ _) (av rfl ⟨trivial, trivial⟩) rfl ?_
    refine L_v Tb_ok (v := .ptr _ _ _) (av rfl ⟨trivial, trivial⟩) rfl ?_
    first | (refine L_v Tb_ok (v := .ro _) (av rfl ⟨trivial, rfl⟩) rfl ?_) | (refine L_v Tb_ok (v := .app _ _) (av rfl ⟨trivial, rfl⟩) rfl ?_) | (refine L_v Tb_ok (v := .row _ _ _) (av rfl ⟨trivial, rfl⟩) rfl ?_) | (refine L_v Tb_ok (v := .nils) (av rfl ⟨trivial, rfl⟩) rfl ?_)
    refine L_v Tb_ok (v := .int _ _) (av rfl ⟨trivial, trivial⟩) rfl ?_
    refine L_v Tb_ok (v := .int _ _) (av rfl ⟨trivial, trivial⟩) rfl ?_
    refine L_v Tb_ok (v := .ptr _ _ _) (av rfl ⟨trivial, trivial⟩) rfl ?_
    refine L_v Tb_ok (v := .int _ _) (av rfl ⟨trivial, rfl⟩) rfl ?_
    refine L_v Tb_ok (v := .int _ _) (av rfl ⟨trivial, trivial⟩) rfl ?_
    refine L_v Tb_ok (v := .int _ _) (av rfl ⟨trivial, trivial⟩) rfl ?_
    refine L_v Tb_ok (v := .ptr _ _ _) (av rfl ⟨trivial, trivial⟩) rfl ?_
    refine L_v Tb_ok (v := .int _ _) (av rfl ⟨trivial, rfl⟩) rfl ?_
    refine L_v Tb_ok (v := .int _ _) (av rfl ⟨trivial, trivial⟩) rfl ?_
    refine L_slice Tb_ok (el := 57) (sz := 1) rfl rfl rfl rfl rfl rfl (fun c hc => by obtain ⟨x, _, rfl⟩ := List.mem_map.1 hc; rfl) (by first | exact hw0 | exact hw2 | (show w64 (w64 (ch - 1) * (findS m op).Len) ≤ w64 (ch * (findS m op).Len); omega) | (show w64 (ch * (findS m op).Len) ≤ ((((findS m op).Op.Weights.map i16C).length : Nat) : Int); rw [List.length_map]; exact hw2)) (by first | exact hw0 | exact hw2 | (show w64 (w64 (ch - 1) * (findS m op).Len) ≤ w64 (ch * (findS m op).Len); omega) | (show w64 (ch * (findS m op).Len) ≤ ((((findS m op).Op.Weights.map i16C).length : Nat) : Int); rw [List.length_map]; exact hw2)) (by first | exact hw0 | exact hw2 | (show w64 (w64 (ch - 1) * (findS m op).Len) ≤ w64 (ch * (findS m op).Len); omega) | (show w64 (ch * (findS m op).Len) ≤ ((((findS m op).Op.Weights.map i16C).length : Nat) : Int); rw [List.length_map]; exact hw2)) ⟨trivial, trivial, trivial⟩ rfl ?_
    refine L_v Tb_ok (v := .int _ _) (av rfl ⟨trivial, trivial⟩) rfl ?_
    refine L_v Tb_ok (v := .int _ _) (av rfl ⟨trivial, trivial⟩) rfl ?_
    refine WL_nil ?_
    refine W_block ?_
    refine W_inv (ι := {k : Nat // k ≤ pl.length}) (fun k => ⟨[(13, .int .i64 (w64 ((findS m op).Op.Bias.getD (w64 (ch - 1)).toNat default))), (14, .row 2 0 (findS m op).Len.toNat), (95, .ro ((ofWs (findS m op) ch).map i16C)), (96, .int .i64 (pl.length : Int)), (97, .int .i64 (k.1 : Int))], [(2, some ⟨52, 2, 0, (ofQ pl ((ofWs (findS m op) ch).map w64) k.1).map termC⟩)], [], 3⟩) (fun k => pl.length - k.1) ⟨0, Nat.zero_le _⟩ (le_fit ⟨rfl, rfl, congrArg AV.ro ?_, congrArg (AV.int .i64) ?_, rfl, trivial⟩ ⟨.inr ?_, trivial⟩ trivial rfl rfl rfl ?_ rfl) ?_
    · simp only [ofWs, List.map_take, List.map_drop]; rfl
    · rw [← hwl]; simp only [ofWs, List.length_take, List.length_drop, List.length_map]; rfl
    · rw [ofQ_zero]; rfl
    · simp [ltOB, termC, AV.lt]
    rintro ⟨j, hj⟩
    refine W_seq ?_
    refine W_region rfl ?_
    refine L_v Tb_ok (v := .bool _) (av rfl ⟨trivial, trivial⟩) rfl ?_
    refine WL_nil ?_
    refine W_seq ?_
    refine W_cond (b := _) rfl (fun h98 => ?_) (fun h98 => ?_)
    · have hlj : j < pl.length := by simpa using h98
      refine W_skip ?_
      refine W_seq ?_
      refine W_block ?_
      refine W_seq ?_
      refine W_region rfl ?_
      refine L_v Tb_ok (v := .int _ _) (av rfl ⟨trivial, trivial⟩) rfl ?_
      first | (refine L_v Tb_ok (v := _) (ave_index_ro rfl rfl rfl (fun _ => rfl) rfl (by first | omega | assumption | decide | (simp_all; done) | (simp_all; omega)) (by first | omega | assumption | decide | (simp_all; done) | (simp_all; omega)) trivial) rfl ?_) | (refine L_v Tb_ok (v := _) (ave_index_app rfl rfl rfl (fun _ => rfl) rfl (by first | omega | assumption | decide | (simp_all; done) | (simp_all; omega)) (by first | omega | assumption | decide | (simp_all; done) | (simp_all; omega)) trivial) rfl ?_) | (refine L_v Tb_ok (v := _) (ave_index_row rfl rfl rfl rfl rfl rfl (by first | omega | assumption | decide | (simp_all; done) | (simp_all; omega)) (by first | omega | assumption | decide | (simp_all; done) | (simp_all; omega)) trivial) rfl ?_) | (refine L_v Tb_ok (v := .rptr _) (av rfl ⟨trivial, ⟨(by first | omega | assumption | decide | (simp_all; done) | (simp_all; omega)), (by first | omega | assumption | decide | (simp_all; done) | (simp_all; omega))⟩, rfl⟩) rfl ?_) | (refine L_v Tb_ok (v := .ptr _ _ _) (av rfl ⟨trivial, ⟨(by first | omega | assumption | decide | (simp_all; done) | (simp_all; omega)), (by first | omega | assumption | decide | (simp_all; done) | (simp_all; omega))⟩, rfl⟩) rfl ?_)
      refine L_v Tb_ok (v := .int _ _) (av rfl ⟨trivial, rfl⟩) rfl ?_
      refine L_v Tb_ok (v := .int _ _) (av rfl ⟨trivial, trivial⟩) rfl ?_
      refine L_v Tb_ok (v := .int _ _) (av rfl ⟨trivial, trivial⟩) rfl ?_
      refine WL_nil ?_
      refine W_region rfl ?_
      first | (refine L_v Tb_ok (v := .ro _) (av rfl ⟨trivial, trivial⟩) rfl ?_) | (refine L_v Tb_ok (v := .app _ _) (av rfl ⟨trivial, trivial⟩) rfl ?_) | (refine L_v Tb_ok (v := .row _ _ _) (av rfl ⟨trivial, trivial⟩) rfl ?_) | (refine L_v Tb_ok (v := .nils) (av rfl ⟨trivial, trivial⟩) rfl ?_)
      refine L_v Tb_ok (v := .int _ _) (av rfl ⟨trivial, trivial⟩) rfl ?_
      refine L_v Tb_ok (v := .int _ _) (av rfl ⟨trivial, trivial⟩) rfl ?_
      refine L_v Tb_ok (v := .int _ _) (av rfl ⟨trivial, trivial⟩) rfl ?_
      first | (refine L_v Tb_ok (v := _) (ave_index_ro rfl rfl rfl (fun _ => rfl) rfl (by first | omega | assumption | decide | (simp_all; done) | (simp_all; omega)) (by first | omega | assumption | decide | (simp_all; done) | (simp_all; omega)) trivial) rfl ?_) | (refine L_v Tb_ok (v := _) (ave_index_app rfl rfl rfl (fun _ => rfl) rfl (by first | omega | assumption | decide | (simp_all; done) | (simp_all; omega)) (by first | omega | assumption | decide | (simp_all; done) | (simp_all; omega)) trivial) rfl ?_) | (refine L_v Tb_ok (v := _) (ave_index_row rfl rfl rfl rfl rfl rfl (by first | omega | assumption | decide | (simp_all; done) | (simp_all; omega)) (by first | omega | assumption | decide | (simp_all; done) | (simp_all; omega)) trivial) rfl ?_) | (refine L_v Tb_ok (v := .rptr _) (av rfl ⟨trivial, ⟨(by first | omega | assumption | decide | (simp_all; done) | (simp_all; omega)), (by first | omega | assumption | decide | (simp_all; done) | (simp_all; omega))⟩, rfl⟩) rfl ?_) | (refine L_v Tb_ok (v := .ptr _ _ _) (av rfl ⟨trivial, ⟨(by first | omega | assumption | decide | (simp_all; done) | (simp_all; omega)), (by first | omega | assumption | decide | (simp_all; done) | (simp_all; omega))⟩, rfl⟩) rfl ?_)
      first | (refine L_v Tb_ok (v := .ptr _ _ _) (av rfl ⟨trivial, trivial⟩) rfl ?_) | (refine L_v Tb_ok (v := .rptr _) (av rfl ⟨trivial, trivial⟩) rfl ?_)
      refine L_store_row Tb_ok (f := termC) (xs := ofQ pl ((ofWs (findS m op) ch).map w64) j) (v := .int _ _) (cs := [_]) (v' := ⟨((ofWs (findS m op) ch).map w64).getD j 0, ((ofQ pl ((ofWs (findS m op) ch).map w64) j).getD j default).At⟩) rfl rfl rfl rfl rfl rfl ?_ rfl ?_ rfl ⟨trivial, trivial⟩ ?_
      · have hlw : j < (ofWs (findS m op) ch).length := by omega
        simp [termC, w64, List.getD_eq_getElem?_getD, hlw]
      · rw [ofQ_len]; simp; omega
      refine WL_nil ?_
      refine W_region rfl ?_
      refine L_v Tb_ok (v := .int _ _) (av rfl ⟨trivial, trivial⟩) rfl ?_
      refine L_v Tb_ok (v := .int _ _) (av rfl ⟨trivial, trivial⟩) rfl ?_
      refine WL_nil ?_
      refine round_end ⟨j + 1, hlj⟩ (by dsimp only; omega) (le_fit ⟨rfl, rfl, rfl, rfl, congrArg _ (w_succ hlj (by omega)), trivial⟩ ⟨.inr ?_, trivial⟩ trivial rfl rfl rfl ?_ rfl)
      · show some (Ob.mk 52 2 0 (((ofQ pl ((ofWs (findS m op) ch).map w64) j).set (0 + ((j : Nat) : Int).toNat) ⟨((ofWs (findS m op) ch).map w64).getD j 0, ((ofQ pl ((ofWs (findS m op) ch).map w64) j).getD j default).At⟩).map termC)) = _
        rw [Nat.zero_add, Int.toNat_natCast, ofQ_set pl _ j hlj]
      · simp [ltOB, termC, AV.lt]
    · refine W_exit ?_
      repeat (first | refine pass_then ?_ | refine pass_once ?_ | refine pass_le ?_ | refine pass_round ?_ | refine pass_for ?_ | refine blockQ_miss rfl ?_)
      refine blockQ_hit ?_
      refine W_seq ?_
      refine W_region rfl ?_
      have hke : j = pl.length := by simp at h98; omega
      refine L_freeze (t := 14) (id := 2) (n := (findS m op).Len.toNat) (l := (ofQ pl ((ofWs (findS m op) ch).map w64) j).map termC) rfl rfl ?_ rfl rfl ?_ ?_ ?_
      · show _ = ((ofQ pl ((ofWs (findS m op) ch).map w64) j).map termC).length
        rw [List.length_map, ofQ_len, hpn]; rfl
      · show ((ofQ pl ((ofWs (findS m op) ch).map w64) j).map termC).map (·.map demC) = _
        simp [termC, demC]
      · simp [termC, grC]
      first | (refine L_v Tb_ok (v := .ro _) (av rfl ⟨trivial, trivial⟩) rfl ?_) | (refine L_v Tb_ok (v := .app _ _) (av rfl ⟨trivial, trivial⟩) rfl ?_) | (refine L_v Tb_ok (v := .row _ _ _) (av rfl ⟨trivial, trivial⟩) rfl ?_) | (refine L_v Tb_ok (v := .nils) (av rfl ⟨trivial, trivial⟩) rfl ?_)
      refine L_v Tb_ok (v := .int _ _) (av rfl ⟨trivial, trivial⟩) rfl ?_
      first | (refine L_v Tb_ok (v := .ro _) (av rfl ⟨trivial, trivial⟩) rfl ?_) | (refine L_v Tb_ok (v := .app _ _) (av rfl ⟨trivial, trivial⟩) rfl ?_) | (refine L_v Tb_ok (v := .row _ _ _) (av rfl ⟨trivial, trivial⟩) rfl ?_) | (refine L_v Tb_ok (v := .nils) (av rfl ⟨trivial, trivial⟩) rfl ?_)
      refine L_v Tb_ok (v := .int _ _) (av rfl ⟨trivial, trivial⟩) rfl ?_
      refine L_v Tb_ok (v := .int _ _) (av rfl ⟨trivial, trivial⟩) rfl ?_
      refine WL_nil ?_
      refine W_ret ?_
      first | (refine ends (l := [.app _ _, .int _ _, .int _ _]) (q := .tup [.ro _, .int _ _, .int _ _]) (.inr rfl) rfl ⟨trivial, trivial, trivial, trivial⟩ rfl rfl ?_) | (refine ends (l := [.nils, .int _ _, .int _ _]) (q := .tup [.ro _, .int _ _, .int _ _]) (.inr rfl) rfl ⟨trivial, trivial, trivial, trivial⟩ rfl rfl ?_) | (refine ends (l := [.ro _, .int _ _, .int _ _]) (q := .tup [.ro _, .int _ _, .int _ _]) (.inr rfl) rfl ⟨trivial, trivial, trivial, trivial⟩ rfl rfl ?_)
      rw [hke]
end Go.AM
end
section
open Go Go.AM Go.Proofs
set_option maxRecDepth 10000
set_option linter.unusedVariables false
set_option linter.unusedSimpArgs false
namespace Go.AM
/-- nothing is given -/
theorem window_Taps1 : ItOk Try.prog 55 [] [] := by
  refine it_ok (fn := Try.f55) Try.func55 rfl (n := 2) rfl rfl rfl rfl ?_
  intro ic cc hok hxs hpin
  simp only [pinEnv, Nat.reduceAdd]
  refine V_skip ?_
  exact ⟨by first | exact .inl rfl | exact .inr rfl, .inr rfl⟩
/-- the place that a tap covers -/
def tapPlace (s : Shape) (w : Window) (top left : Int) (k : Int) : Int :=
  let y := w64 (top + w64 (k.tdiv w.KW)); let x := w64 (left + k.tmod w.KW)
  bif bif inB y 0 (w64 (s.H - 1)) then inB x 0 (w64 (s.W - 1)) else false then w64 (w64 (y * s.W) + x) else -1
def tapN (w : Window) : Nat := (w64 (w.KH * w.KW)).toNat
def tapList (s : Shape) (w : Window) (top left : Int) : List (List AV) := (List.range (tapN w)).map fun (k : Nat) => [.int .i64 (k : Int), .int .i64 (tapPlace s w top left k)]
theorem tap_get {s : Shape} {w : Window} {top left : Int} {k : Nat} {v : Int} (h : k < tapN w) (hv : tapPlace s w top left k = v) : (tapList s w top left)[k]? = some [.int .i64 (k : Int), .int .i64 v] := by
  subst hv; simp [tapList, h]
theorem window_Taps2 (s : Shape) (w : Window) (top left : Int) (h0 : w.KW ≠ 0) (h1 : 0 ≤ w64 (w.KH * w.KW)) (hB : w64 (w.KH * w.KW) ≤ 4611686018427387904) : ItOk Try.prog 56 [.rptr (windowC w), .rptr [.int .i64 top], .rptr [.int .i64 left], .rptr (shapeC s)] (tapList s w top left) := by
  have hN : w64 (w.KH * w.KW) = (tapN w : Int) := by simp only [tapN]; omega
  refine it_ok (fn := Try.f56) Try.func56 rfl (n := 54) rfl rfl rfl rfl ?_
  intro ic cc hok hxs hpin
  simp only [pinEnv, Nat.reduceAdd]
  refine V_seq ?_
  refine V_of_W ?_
  refine W_region rfl ?_
  first | (refine L_v Tb_ok (v := .ptr _ _ _) (av rfl ⟨trivial, trivial⟩) rfl ?_) | (refine L_v Tb_ok (v := .rptr _) (av rfl ⟨trivial, trivial⟩) rfl ?_)
  refine L_v Tb_ok (v := .int _ _) (av rfl ⟨trivial, rfl⟩) rfl ?_
  first | (refine L_v Tb_ok (v := .ptr _ _ _) (av rfl ⟨trivial, trivial⟩) rfl ?_) | (refine L_v Tb_ok (v := .rptr _) (av rfl ⟨trivial, trivial⟩) rfl ?_)
  refine L_v Tb_ok (v := .int _ _) (av rfl ⟨trivial, rfl⟩) rfl ?_
  refine L_v Tb_ok (v := .int _ _) (av rfl ⟨trivial, trivial⟩) rfl ?_
  refine L_v Tb_ok (v := .int _ _) (av rfl ⟨trivial, trivial⟩) rfl ?_
  refine WL_nil ?_
  refine V_block ?_
  refine V_for (tapN w) (fun k => ⟨[(0, .yl ic.l), (1, .pin (cc 0) (.rptr (windowC w))), (2, .pin (cc 1) (.rptr [.int .i64 top])), (3, .pin (cc 2) (.rptr [.int .i64 left])), (4, .pin (cc 3) (.rptr (shapeC s))), (14, .int .i64 (w64 (w.KH * w.KW))), (15, .int .i64 (k : Int))], [], [], 100⟩) (le_env ⟨rfl, rfl, rfl, rfl, rfl, rfl, rfl, trivial⟩) ?_
  intro k hk
  refine V_seq ?_
  refine V_of_W ?_
  refine W_region rfl ?_
  refine L_v Tb_ok (v := .bool _) (av rfl ⟨trivial, trivial⟩) rfl ?_
  refine WL_nil ?_
  refine V_seq ?_
  refine V_cond (b := _) rfl (fun h16 => ?_) (fun h16 => ?_)
  · have hlt : k < tapN w := by rw [hN] at h16; simpa using h16
    refine V_skip ?_
    refine V_seq ?_
    refine V_block ?_
    refine V_seq ?_
    refine V_of_W ?_
    refine W_region rfl ?_
    refine L_v Tb_ok (v := .int _ _) (av rfl ⟨trivial, trivial⟩) rfl ?_
    refine L_v Tb_ok (v := .int _ _) (av rfl ⟨trivial, trivial⟩) rfl ?_
    refine WL_nil ?_
    refine V_seq ?_
    refine V_of_W ?_
    refine W_draw 14 Tb_mixed rfl (by decide) (by kernel_rfl) (by kernel_rfl) ?_
    refine E_v Tb_ok (v := .int _ _) (av rfl ⟨trivial, rfl⟩) rfl ?_
    refine E_v Tb_ok (v := .int _ _) (av rfl ⟨trivial, trivial⟩) rfl ?_
    first | (refine E_v Tb_ok (v := .ptr _ _ _) (av rfl ⟨trivial, trivial⟩) rfl ?_) | (refine E_v Tb_ok (v := .rptr _) (av rfl ⟨trivial, trivial⟩) rfl ?_)
    refine E_v Tb_ok (v := .int _ _) (av rfl ⟨trivial, rfl⟩) rfl ?_
    refine E_v Tb_ok (v := .int _ _) (av rfl ⟨trivial, (by exact h0)⟩) rfl ?_
    refine E_v Tb_ok (v := .int _ _) (av rfl ⟨trivial, trivial⟩) rfl ?_
    refine E_v Tb_ok (v := .int _ _) (av rfl ⟨trivial, rfl⟩) rfl ?_
    refine E_v Tb_ok (v := .int _ _) (av rfl ⟨trivial, trivial⟩) rfl ?_
    first | (refine E_v Tb_ok (v := .ptr _ _ _) (av rfl ⟨trivial, trivial⟩) rfl ?_) | (refine E_v Tb_ok (v := .rptr _) (av rfl ⟨trivial, trivial⟩) rfl ?_)
    refine E_v Tb_ok (v := .int _ _) (av rfl ⟨trivial, rfl⟩) rfl ?_
    refine E_v Tb_ok (v := .int _ _) (av rfl ⟨trivial, (by exact h0)⟩) rfl ?_
    refine E_v Tb_ok (v := .int _ _) (av rfl ⟨trivial, trivial⟩) rfl ?_
    refine E_v Tb_ok (v := .int _ _) (av rfl ⟨trivial, trivial⟩) rfl ?_
    refine E_v Tb_ok (v := .int _ _) (av rfl ⟨trivial, trivial⟩) rfl ?_
    refine LexE_nil ?_
    refine WL_nil ?_
    refine V_seq ?_
    refine V_of_W ?_
    refine W_region rfl ?_
    refine L_v Tb_ok (v := .int _ _) (av rfl ⟨trivial, trivial⟩) rfl ?_
    refine WL_nil ?_
    refine V_seq ?_
    refine V_seq ?_
    refine V_of_W ?_
    refine W_region rfl ?_
    refine L_v Tb_ok (v := .int _ _) (av rfl ⟨trivial, trivial⟩) rfl ?_
    first | (refine L_v Tb_ok (v := .ptr _ _ _) (av rfl ⟨trivial, trivial⟩) rfl ?_) | (refine L_v Tb_ok (v := .rptr _) (av rfl ⟨trivial, trivial⟩) rfl ?_)
    refine L_v Tb_ok (v := .int _ _) (av rfl ⟨trivial, rfl⟩) rfl ?_
    refine L_v Tb_ok (v := .int _ _) (av rfl ⟨trivial, trivial⟩) rfl ?_
    refine L_call (hr := within _ _ _) rfl rfl trivial rfl rfl ?_
    refine L_v Tb_ok (v := .bool _) (av rfl ⟨trivial, trivial⟩) rfl ?_
    refine L_g Tb_ok (v := .int _ _) rfl rfl ((fun hg => (av rfl ⟨trivial, trivial⟩))) rfl rfl ?_
    first | (refine L_g Tb_ok (v := .ptr _ _ _) rfl rfl ((fun hg => (av rfl ⟨trivial, trivial⟩))) rfl rfl ?_) | (refine L_g Tb_ok (v := .rptr _) rfl rfl ((fun hg => (av rfl ⟨trivial, trivial⟩))) rfl rfl ?_)
    refine L_g Tb_ok (v := .int _ _) rfl rfl ((fun hg => (av rfl ⟨⟨⟨(by first | exact hg | (simp_all; done) | (simp at hg ⊢; simp [hg])), True.intro⟩, True.intro⟩, rfl⟩))) rfl rfl ?_
    refine L_g Tb_ok (v := .int _ _) rfl rfl ((fun hg => (av rfl ⟨⟨⟨(by first | exact hg | (simp_all; done) | (simp at hg ⊢; simp [hg])), True.intro⟩, True.intro⟩, trivial⟩))) rfl rfl ?_
    refine L_callg (hr := fun hg => within _ _ _) rfl rfl rfl rfl rfl (fun hg => ⟨⟨(by first | exact hg | (simp_all; done) | (simp at hg ⊢; simp [hg])), True.intro⟩, ⟨⟨(by first | exact hg | (simp_all; done) | (simp at hg ⊢; simp [hg])), True.intro⟩, True.intro⟩⟩) rfl rfl ?_
    refine L_v Tb_ok (v := .bool _) (av rfl (by refine ⟨?_, fun h => ?_, fun h => ?_⟩ <;> first | exact True.intro | exact ⟨h, True.intro⟩ | (refine ⟨?_, True.intro⟩; first | (rw [h]; done) | (rw [h]; rfl) | (simp [h]; done) | (simp at h hg ⊢; simp [h, hg]; done) | (simp_all; done) | (simp_all; omega)))) rfl ?_
    refine WL_nil ?_
    refine V_cond (b := _) rfl (fun h41 => ?_) (fun h41 => ?_)
    · have hv : tapPlace s w top left k = w64 (w64 (w64 (top + w64 ((k : Int).tdiv w.KW)) * s.W) + w64 (left + (k : Int).tmod w.KW)) := by simp only [tapPlace, w64]; rw [h41]; rfl
      refine V_of_W ?_
      refine W_region rfl ?_
      refine L_v Tb_ok (v := .int _ _) (av rfl ⟨trivial, trivial⟩) rfl ?_
      first | (refine L_v Tb_ok (v := .ptr _ _ _) (av rfl ⟨trivial, trivial⟩) rfl ?_) | (refine L_v Tb_ok (v := .rptr _) (av rfl ⟨trivial, trivial⟩) rfl ?_)
      refine L_v Tb_ok (v := .int _ _) (av rfl ⟨trivial, rfl⟩) rfl ?_
      refine L_v Tb_ok (v := .int _ _) (av rfl ⟨trivial, trivial⟩) rfl ?_
      refine L_v Tb_ok (v := .int _ _) (av rfl ⟨trivial, trivial⟩) rfl ?_
      refine L_v Tb_ok (v := .int _ _) (av rfl ⟨trivial, trivial⟩) rfl ?_
      refine L_v Tb_ok (v := .int _ _) (av rfl ⟨trivial, trivial⟩) rfl ?_
      refine WL_nil ?_
      refine V_seq ?_
      refine V_region rfl ?_
      refine VL_pre [_, _, _] _ rfl ?_
      first | (refine L_v Tb_ok (v := .fn _ _ _) (av rfl ⟨trivial, trivial⟩) rfl ?_) | (refine L_v Tb_ok (v := .nilf) (av rfl ⟨trivial, trivial⟩) rfl ?_) | (refine L_v Tb_ok (v := .yl _) (av rfl ⟨trivial, trivial⟩) rfl ?_)
      refine L_v Tb_ok (v := .int _ _) (av rfl ⟨trivial, trivial⟩) rfl ?_
      refine L_v Tb_ok (v := .int _ _) (av rfl ⟨trivial, trivial⟩) rfl ?_
      refine WL_nil ?_
      refine VL_yield hok rfl trivial rfl rfl trivial (by rw [hxs]; exact tap_get hlt hv) (by rw [hpin]; simp [pinsIn, pinsOf]) rfl ?_ ?_
      · refine VL_pre [_] [] rfl ?_
        refine L_v Tb_ok (v := .bool _) (av rfl ⟨trivial, trivial⟩) rfl ?_
        refine WL_nil ?_
        refine VL_nil ?_
        refine V_cond_f (b := _) rfl (by first | exact hc52 | rfl | decide | simp_all) ?_
        refine V_skip ?_
        refine V_of_W ?_
        refine W_region rfl ?_
        refine L_v Tb_ok (v := .int _ _) (av rfl ⟨trivial, trivial⟩) rfl ?_
        refine L_v Tb_ok (v := .int _ _) (av rfl ⟨trivial, trivial⟩) rfl ?_
        refine WL_nil ?_
        refine forV_end hlt (le_fit ⟨rfl, rfl, rfl, rfl, rfl, rfl, congrArg _ (w_succ hlt (by omega)), trivial⟩ trivial trivial rfl rfl rfl rfl rfl)
      · refine VL_pre [_] [] rfl ?_
        refine L_v Tb_ok (v := .bool _) (av rfl ⟨trivial, trivial⟩) rfl ?_
        refine WL_nil ?_
        refine VL_nil ?_
        refine V_cond_t (b := _) rfl (by first | exact hc52 | rfl | decide | simp_all) ?_
        refine V_ret ?_
        exact ⟨by first | exact .inl rfl | exact .inr rfl, by first | exact .inl rfl | exact .inr (by rw [hke]; simp [tapList])⟩
    · have hv : tapPlace s w top left k = -1 := by simp only [tapPlace, w64]; rw [h41]; rfl
      refine V_skip ?_
      refine V_seq ?_
      refine V_region rfl ?_
      refine VL_pre [_, _, _] _ rfl ?_
      first | (refine L_v Tb_ok (v := .fn _ _ _) (av rfl ⟨trivial, trivial⟩) rfl ?_) | (refine L_v Tb_ok (v := .nilf) (av rfl ⟨trivial, trivial⟩) rfl ?_) | (refine L_v Tb_ok (v := .yl _) (av rfl ⟨trivial, trivial⟩) rfl ?_)
      refine L_v Tb_ok (v := .int _ _) (av rfl ⟨trivial, trivial⟩) rfl ?_
      refine L_v Tb_ok (v := .int _ _) (av rfl ⟨trivial, trivial⟩) rfl ?_
      refine WL_nil ?_
      refine VL_yield hok rfl trivial rfl rfl trivial (by rw [hxs]; exact tap_get hlt hv) (by rw [hpin]; simp [pinsIn, pinsOf]) rfl ?_ ?_
      · refine VL_pre [_] [] rfl ?_
        refine L_v Tb_ok (v := .bool _) (av rfl ⟨trivial, trivial⟩) rfl ?_
        refine WL_nil ?_
        refine VL_nil ?_
        refine V_cond_f (b := _) rfl (by first | exact hc52 | rfl | decide | simp_all) ?_
        refine V_skip ?_
        refine V_of_W ?_
        refine W_region rfl ?_
        refine L_v Tb_ok (v := .int _ _) (av rfl ⟨trivial, trivial⟩) rfl ?_
        refine L_v Tb_ok (v := .int _ _) (av rfl ⟨trivial, trivial⟩) rfl ?_
        refine WL_nil ?_
        refine forV_end hlt (le_fit ⟨rfl, rfl, rfl, rfl, rfl, rfl, congrArg _ (w_succ hlt (by omega)), trivial⟩ trivial trivial rfl rfl rfl rfl rfl)
      · refine VL_pre [_] [] rfl ?_
        refine L_v Tb_ok (v := .bool _) (av rfl ⟨trivial, trivial⟩) rfl ?_
        refine WL_nil ?_
        refine VL_nil ?_
        refine V_cond_t (b := _) rfl (by first | exact hc52 | rfl | decide | simp_all) ?_
        refine V_ret ?_
        exact ⟨by first | exact .inl rfl | exact .inr rfl, by first | exact .inl rfl | exact .inr (by rw [hke]; simp [tapList])⟩
  · have hke : k = tapN w := by rw [hN] at h16; simp at h16; omega
    refine V_exit ?_
    repeat (first | refine passV_then ?_ | refine passV_round ?_ | refine passV_for ?_ | refine blockV_miss rfl ?_)
    refine blockV_hit ?_
    exact ⟨by first | exact .inl rfl | exact .inr rfl, by first | exact .inl rfl | exact .inr (by rw [hke]; simp [tapList])⟩
end Go.AM
end
section
open Go Go.AM Go.Proofs
set_option maxRecDepth 10000
set_option linter.unusedVariables false
set_option linter.unusedSimpArgs false
namespace Go.AM
/-- what a tap gives, a channel after the other -/
def plRow (C first : Int) (cnt : Nat) (p : Int) : List Int := (List.range cnt).map fun (c : Nat) => bif decide (p < 0) then -1 else w64 (w64 (p * C) + (first + (c : Int)))
def plOut (s : Shape) (w : Window) (top left first : Int) (cnt k : Nat) : List Int := (List.range k).flatMap fun (i : Nat) => plRow s.C first cnt (tapPlace s w top left i)
theorem plRow_len (C first p : Int) (cnt : Nat) : (plRow C first cnt p).length = cnt := by simp [plRow]
theorem plOut_len (s : Shape) (w : Window) (top left first : Int) (cnt k : Nat) : (plOut s w top left first cnt k).length = k * cnt := by
  induction k with
  | zero => simp [plOut]
  | succ k ih =>
    have : plOut s w top left first cnt (k + 1) = plOut s w top left first cnt k ++ plRow s.C first cnt (tapPlace s w top left k) := by simp [plOut, List.range_succ]
    rw [this, List.length_append, ih, plRow_len, Nat.add_mul, Nat.one_mul]
theorem plOut_succ (s : Shape) (w : Window) (top left first : Int) (cnt k : Nat) : plOut s w top left first cnt (k + 1) = plOut s w top left first cnt k ++ plRow s.C first cnt (tapPlace s w top left k) := by simp [plOut, List.range_succ]
theorem plRow_take (C first p : Int) (cnt j : Nat) (L : List Int) (v : Int) (h : j < cnt) (hv : (bif decide (p < 0) then -1 else w64 (w64 (p * C) + (first + (j : Int)))) = v) : (L ++ (plRow C first cnt p).take j) ++ [v] = L ++ (plRow C first cnt p).take (j + 1) := by
  rw [List.append_assoc, List.take_add_one]
  congr 2
  simp [plRow, h, hv]
theorem tap_inv {s : Shape} {w : Window} {top left : Int} {k : Nat} {x : List AV} (h : (tapList s w top left)[k]? = some x) : k < tapN w ∧ x = [.int .i64 (k : Int), .int .i64 (tapPlace s w top left k)] := by
  simp only [tapList, List.getElem?_map] at h
  by_cases hk : k < tapN w
  · simp [hk] at h; exact ⟨hk, h.symm⟩
  · simp [hk] at h
def plFirst (o : MOp) (ch : Int) : Int × Int := bif o.Kind == 2 then (0, w64 (ch - 1)) else (w64 (ch - 1), w64 (ch - 1))
theorem terms_places_dense (S : Site) (ch at_ : Int) (hc17 : (S.Op.Kind == 1) = true) (hl0 : 0 ≤ S.Len) (hl : S.Len ≤ 16777216) :
    Ok Try.prog 32 [.agg (siteC S), .int .i64 ch, .int .i64 at_] (.ro (((List.range S.Len.toNat).map fun (k : Nat) => (k : Int)).map intC)) := by
  have hN : S.Len = ((S.Len.toNat : Nat) : Int) := by omega
  refine fn_ok Tb_ok (fn := Try.f32) Try.func32 rfl rfl (e := [(0, _), (1, _), (2, _)]) rfl (by decide) rfl ?_
  refine W_seq ?_
  refine W_region rfl ?_
  refine L_box Tb_ok (cs := [.int _ _, .int _ _, .int _ _, .int _ _, .int _ _, .int _ _, .int _ _, .int _ _, .int _ _, .int _ _, .int _ _, .int _ _, _, _, .int _ _, .int _ _, .int _ _, .int _ _, .int _ _, .int _ _, .int _ _, .int _ _, .int _ _, .int _ _, .int _ _, .int _ _, .int _ _, .int _ _, .int _ _]) (n := 29) rfl rfl rfl rfl trivial ?_
  refine L_v Tb_ok (v := .nils) (av rfl ⟨trivial, trivial⟩) rfl ?_
  refine WL_nil ?_
  refine W_seq ?_
  refine W_region rfl ?_
  refine L_alloc Tb_ok (z := [.nils]) (n := 1) rfl rfl rfl rfl rfl ?_
  refine WL_nil ?_
  refine W_seq ?_
  refine W_seq ?_
  refine W_region rfl ?_
  refine L_v Tb_ok (v := .ptr _ _ _) (av rfl ⟨trivial, trivial⟩) rfl ?_
  refine L_v Tb_ok (v := .ptr _ _ _) (av rfl ⟨trivial, trivial⟩) rfl ?_
  refine L_v Tb_ok (v := .int _ _) (av rfl ⟨trivial, rfl⟩) rfl ?_
  refine L_v Tb_ok (v := .bool _) (av rfl ⟨trivial, trivial⟩) rfl ?_
  refine WL_nil ?_
  refine W_cond_t (b := _) rfl (by first | exact hc17 | rfl | decide | simp_all) ?_
  refine W_seq ?_
  refine W_seq ?_
  refine W_region rfl ?_
  refine L_v Tb_ok (v := .ptr _ _ _) (av rfl ⟨trivial, trivial⟩) rfl ?_
  refine L_v Tb_ok (v := .int _ _) (av rfl ⟨trivial, rfl⟩) rfl ?_
  refine L_v Tb_ok (v := .int _ _) (av rfl ⟨trivial, trivial⟩) rfl ?_
  refine WL_nil ?_
  refine W_block ?_
  refine W_nilO (id := 1) (j := 0) (el := 3) (esz := 1) rfl rfl rfl rfl ?_
  refine W_for S.Len.toNat (fun k => ⟨[(3, .ptr 0 0 0), (7, .ptr 1 0 0), (19, .int .i64 S.Len), (20, .int .i64 (k : Int))], [(1, some ⟨56, 1, 0, [[.app 2 (((List.range k).map fun (k : Nat) => (k : Int)).map intC)]]⟩)], [(2, some (3, 1, ((List.range k).map fun (k : Nat) => (k : Int)).length))], 3⟩) (le_fit ⟨rfl, rfl, rfl, rfl, trivial⟩ ⟨.inr rfl, trivial⟩ ⟨.inr rfl, trivial⟩ rfl rfl rfl rfl rfl) ?_
  intro k hk
  have e1 : ((List.range k).map fun (k : Nat) => (k : Int)) ++ [(k : Int)] = (List.range (k + 1)).map fun (k : Nat) => (k : Int) := by simp [List.range_succ]
  refine W_seq ?_
  refine W_region rfl ?_
  refine L_v Tb_ok (v := .bool _) (av rfl ⟨trivial, trivial⟩) rfl ?_
  refine WL_nil ?_
  refine W_seq ?_
  refine W_cond (b := _) rfl (fun h21 => ?_) (fun h21 => ?_)
  · have hlt : k < S.Len.toNat := by have := of_decide_eq_true h21; omega
    refine W_skip ?_
    refine W_seq ?_
    refine W_block ?_
    refine W_seq ?_
    refine W_region rfl ?_
    refine L_v Tb_ok (v := .int _ _) (av rfl ⟨trivial, trivial⟩) rfl ?_
    refine L_v Tb_ok (v := .int _ _) (av rfl ⟨trivial, trivial⟩) rfl ?_
    refine WL_nil ?_
    refine W_region rfl ?_
    first | (refine L_v Tb_ok (v := .ro _) (av rfl ⟨trivial, rfl⟩) rfl ?_) | (refine L_v Tb_ok (v := .app _ _) (av rfl ⟨trivial, rfl⟩) rfl ?_) | (refine L_v Tb_ok (v := .row _ _ _) (av rfl ⟨trivial, rfl⟩) rfl ?_) | (refine L_v Tb_ok (v := .nils) (av rfl ⟨trivial, rfl⟩) rfl ?_)
    refine L_v Tb_ok (v := .int _ _) (av rfl ⟨trivial, trivial⟩) rfl ?_
    refine L_build Tb_ok (t := 56) (len := 1) (el := 3) (sz := 1) (es := [[_]]) (z := [.int .i64 0]) rfl rfl rfl rfl rfl (by decide) trivial rfl rfl rfl rfl rfl ?_
    refine L_app1 Tb_ok (f := intC) (v := (k : Int)) (tok := 2) (el := 3) (sz := 1) rfl rfl rfl rfl rfl ⟨trivial, trivial⟩ (fun _ => ⟨rfl, rfl⟩) (by rw [show (Tb.at 3).bytes = 8 from rfl]; simp; omega) rfl ?_
    first | (refine L_store Tb_ok (v := .ro _) (cs := [_]) (es' := [[_]]) rfl rfl rfl rfl rfl rfl rfl rfl rfl rfl ⟨trivial, trivial⟩ ?_) | (refine L_store Tb_ok (v := .app _ _) (cs := [_]) (es' := [[_]]) rfl rfl rfl rfl rfl rfl rfl rfl rfl rfl ⟨trivial, trivial⟩ ?_) | (refine L_store Tb_ok (v := .row _ _ _) (cs := [_]) (es' := [[_]]) rfl rfl rfl rfl rfl rfl rfl rfl rfl rfl ⟨trivial, trivial⟩ ?_) | (refine L_store Tb_ok (v := .nils) (cs := [_]) (es' := [[_]]) rfl rfl rfl rfl rfl rfl rfl rfl rfl rfl ⟨trivial, trivial⟩ ?_)
    refine WL_nil ?_
    refine W_region rfl ?_
    refine L_v Tb_ok (v := .int _ _) (av rfl ⟨trivial, trivial⟩) rfl ?_
    refine L_v Tb_ok (v := .int _ _) (av rfl ⟨trivial, trivial⟩) rfl ?_
    refine WL_nil ?_
    refine for_end hlt (le_fit ⟨rfl, rfl, rfl, congrArg _ (w_succ hlt (by omega)), trivial⟩ ⟨.inr ?_, trivial⟩ ⟨.inr ?_, trivial⟩ rfl rfl rfl rfl rfl)
    · show some (Ob.mk 56 1 0 [[.app 2 ((((List.range k).map fun (k : Nat) => (k : Int)) ++ [(k : Int)]).map intC)]]) = _
      rw [e1]
    · show some (3, 1, (((List.range k).map fun (k : Nat) => (k : Int)) ++ [(k : Int)]).length) = _
      rw [e1]
  · have hke : k = S.Len.toNat := by have := of_decide_eq_false h21; omega
    refine W_exit ?_
    repeat (first | refine pass_then ?_ | refine pass_once ?_ | refine pass_le ?_ | refine pass_round ?_ | refine pass_for ?_ | refine blockQ_miss rfl ?_)
    refine blockQ_hit ?_
    refine W_seq ?_
    refine W_region rfl ?_
    first | (refine L_v Tb_ok (v := .ro _) (av rfl ⟨trivial, rfl⟩) rfl ?_) | (refine L_v Tb_ok (v := .app _ _) (av rfl ⟨trivial, rfl⟩) rfl ?_) | (refine L_v Tb_ok (v := .row _ _ _) (av rfl ⟨trivial, rfl⟩) rfl ?_) | (refine L_v Tb_ok (v := .nils) (av rfl ⟨trivial, rfl⟩) rfl ?_)
    first | (refine L_v Tb_ok (v := .ro _) (av rfl ⟨trivial, trivial⟩) rfl ?_) | (refine L_v Tb_ok (v := .app _ _) (av rfl ⟨trivial, trivial⟩) rfl ?_) | (refine L_v Tb_ok (v := .row _ _ _) (av rfl ⟨trivial, trivial⟩) rfl ?_) | (refine L_v Tb_ok (v := .nils) (av rfl ⟨trivial, trivial⟩) rfl ?_)
    refine WL_nil ?_
    refine W_ret ?_
    first | (refine ends (l := [.app _ _]) (q := .ro _) (.inr rfl) rfl ⟨trivial, trivial⟩ rfl rfl ?_) | (refine ends (l := [.nils]) (q := .ro _) (.inr rfl) rfl ⟨trivial, trivial⟩ rfl rfl ?_) | (refine ends (l := [.ro _]) (q := .ro _) (.inr rfl) rfl ⟨trivial, trivial⟩ rfl rfl ?_)
    rw [hke]
theorem terms_places_taps (S : Site) (ch at_ : Int) (hc17 : (S.Op.Kind == 1) = false) (hbad : tapsBad S.In S.Op.Win at_ = false) (hkw : S.Op.Win.KW ≠ 0) (hn : 0 ≤ w64 (S.Op.Win.KH * S.Op.Win.KW)) (hn2 : w64 (S.Op.Win.KH * S.Op.Win.KW) ≤ 4096) (cnt : Nat) (hcnt : cnt ≤ 4096) (f l : Int) (hf0 : 0 ≤ f) (hf1 : f ≤ 1000000) (hl : l = f + cnt - 1)
    (hX : (bif S.Op.Kind == 2 then ((0 : Int), w64 (S.In.C - 1)) else (w64 (ch - 1), w64 (ch - 1))) = (f, l)) :
    Ok Try.prog 32 [.agg (siteC S), .int .i64 ch, .int .i64 at_] (.ro ((plOut S.In S.Op.Win (tapsTop S.In S.Op.Win at_) (tapsLeft S.In S.Op.Win at_) f cnt (tapN S.Op.Win)).map intC)) := by
  have hT : tapN S.Op.Win ≤ 4096 := by simp only [tapN]; omega
  refine fn_ok Tb_ok (fn := Try.f32) Try.func32 rfl rfl (e := [(0, _), (1, _), (2, _)]) rfl (by decide) rfl ?_
  refine W_seq ?_
  refine W_region rfl ?_
  refine L_box Tb_ok (cs := [.int _ _, .int _ _, .int _ _, .int _ _, .int _ _, .int _ _, .int _ _, .int _ _, .int _ _, .int _ _, .int _ _, .int _ _, _, _, .int _ _, .int _ _, .int _ _, .int _ _, .int _ _, .int _ _, .int _ _, .int _ _, .int _ _, .int _ _, .int _ _, .int _ _, .int _ _, .int _ _, .int _ _]) (n := 29) rfl rfl rfl rfl trivial ?_
  refine L_v Tb_ok (v := .nils) (av rfl ⟨trivial, trivial⟩) rfl ?_
  refine WL_nil ?_
  refine W_seq ?_
  refine W_region rfl ?_
  refine L_alloc Tb_ok (z := [.nils]) (n := 1) rfl rfl rfl rfl rfl ?_
  refine WL_nil ?_
  refine W_seq ?_
  refine W_seq ?_
  refine W_region rfl ?_
  refine L_v Tb_ok (v := .ptr _ _ _) (av rfl ⟨trivial, trivial⟩) rfl ?_
  refine L_v Tb_ok (v := .ptr _ _ _) (av rfl ⟨trivial, trivial⟩) rfl ?_
  refine L_v Tb_ok (v := .int _ _) (av rfl ⟨trivial, rfl⟩) rfl ?_
  refine L_v Tb_ok (v := .bool _) (av rfl ⟨trivial, trivial⟩) rfl ?_
  refine WL_nil ?_
  refine W_cond_f (b := _) rfl (by first | exact hc17 | rfl | decide | simp_all) ?_
  refine W_skip ?_
  refine W_seq ?_
  refine W_region rfl ?_
  refine L_v Tb_ok (v := .int _ _) (av rfl ⟨trivial, trivial⟩) rfl ?_
  refine L_v Tb_ok (v := .int _ _) (av rfl ⟨trivial, trivial⟩) rfl ?_
  refine L_v Tb_ok (v := .int _ _) (av rfl ⟨trivial, trivial⟩) rfl ?_
  refine L_v Tb_ok (v := .int _ _) (av rfl ⟨trivial, trivial⟩) rfl ?_
  refine L_alloc Tb_ok (z := [.int .i64 0]) (n := 1) rfl rfl rfl rfl rfl ?_
  refine L_alloc Tb_ok (z := [.int .i64 0]) (n := 1) rfl rfl rfl rfl rfl ?_
  refine L_store Tb_ok (v := .int _ _) (cs := [_]) (es' := [[_]]) rfl rfl rfl rfl rfl rfl rfl rfl rfl rfl ⟨trivial, trivial⟩ ?_
  refine L_store Tb_ok (v := .int _ _) (cs := [_]) (es' := [[_]]) rfl rfl rfl rfl rfl rfl rfl rfl rfl rfl ⟨trivial, trivial⟩ ?_
  refine WL_nil ?_
  refine W_seq ?_
  refine W_seq ?_
  refine W_region rfl ?_
  refine L_v Tb_ok (v := .ptr _ _ _) (av rfl ⟨trivial, trivial⟩) rfl ?_
  refine L_v Tb_ok (v := .ptr _ _ _) (av rfl ⟨trivial, trivial⟩) rfl ?_
  refine L_v Tb_ok (v := .int _ _) (av rfl ⟨trivial, rfl⟩) rfl ?_
  refine L_v Tb_ok (v := .bool _) (av rfl ⟨trivial, trivial⟩) rfl ?_
  refine WL_nil ?_
  refine W_ift (b := _) (M := ⟨[(2, .int .i64 at_), (3, .ptr 0 0 0), (7, .ptr 1 0 0), (9, .ptr 2 0 0), (10, .ptr 3 0 0)], [(0, some ⟨81, 29, 0, [siteC S]⟩), (1, some ⟨56, 1, 0, [[.nils]]⟩), (2, some ⟨3, 1, 0, [[.int .i64 (bif S.Op.Kind == 2 then ((0 : Int), w64 (S.In.C - 1)) else (w64 (ch - 1), w64 (ch - 1))).1]]⟩), (3, some ⟨3, 1, 0, [[.int .i64 (bif S.Op.Kind == 2 then ((0 : Int), w64 (S.In.C - 1)) else (w64 (ch - 1), w64 (ch - 1))).2]]⟩)], [], 4⟩) (p := True) rfl (fun h36 => ?_) (fun h36 => ?_) (fun m36 => ?_)
  · refine W_drawF (fun e => [idOf (get e 9), idOf (get e 10)]) 4 [[4, 5]] Tb_mixed rfl (by decide) (by kernel_rfl) ?_
    refine S_v Tb_ok (v := .ptr _ _ _) (av rfl ⟨trivial, trivial⟩) rfl ?_
    refine S_v Tb_ok (v := .ptr _ _ _) (av rfl ⟨trivial, trivial⟩) rfl ?_
    refine S_v Tb_ok (v := .int _ _) (av rfl ⟨trivial, rfl⟩) rfl ?_
    refine S_v Tb_ok (v := .int _ _) (av rfl ⟨trivial, trivial⟩) rfl ?_
    refine S_nil ?_
    refine TT_one ?_
    refine TT_store Tb_ok (OSub_forget _ _) rfl (v := .int _ _) (cs := [_]) (es' := [[_]]) rfl rfl rfl rfl rfl rfl rfl rfl rfl rfl rfl ⟨trivial, trivial⟩ (fun ht1 => ?_)
    refine TT_store Tb_ok ht1 rfl (v := .int _ _) (cs := [_]) (es' := [[_]]) rfl rfl rfl rfl rfl rfl rfl rfl rfl rfl rfl ⟨trivial, trivial⟩ (fun ht2 => ?_)
    refine TT_nil ?_
    clear ht1 ht2
    exact ⟨trivial, le_t (F := fun X => ⟨[(2, .int .i64 at_), (3, .ptr 0 0 0), (7, .ptr 1 0 0), (9, .ptr 2 0 0), (10, .ptr 3 0 0)], [(0, some ⟨81, 29, 0, [siteC S]⟩), (1, some ⟨56, 1, 0, [[.nils]]⟩), (2, some ⟨3, 1, 0, [[.int .i64 X.1]]⟩), (3, some ⟨3, 1, 0, [[.int .i64 X.2]]⟩)], [], 4⟩) (x := ((0 : Int), w64 (S.In.C - 1))) (y := (w64 (ch - 1), w64 (ch - 1))) h36 (le_fit ⟨rfl, rfl, rfl, rfl, rfl, trivial⟩ ⟨.inr rfl, .inr rfl, .inr rfl, .inr rfl, trivial⟩ trivial rfl rfl rfl rfl rfl)⟩
  · refine W_skip ?_
    exact ⟨trivial, le_f (F := fun X => ⟨[(2, .int .i64 at_), (3, .ptr 0 0 0), (7, .ptr 1 0 0), (9, .ptr 2 0 0), (10, .ptr 3 0 0)], [(0, some ⟨81, 29, 0, [siteC S]⟩), (1, some ⟨56, 1, 0, [[.nils]]⟩), (2, some ⟨3, 1, 0, [[.int .i64 X.1]]⟩), (3, some ⟨3, 1, 0, [[.int .i64 X.2]]⟩)], [], 4⟩) (x := ((0 : Int), w64 (S.In.C - 1))) (y := (w64 (ch - 1), w64 (ch - 1))) h36 (le_fit ⟨rfl, rfl, rfl, rfl, rfl, trivial⟩ ⟨.inr rfl, .inr rfl, .inr rfl, .inr rfl, trivial⟩ trivial rfl rfl rfl rfl rfl)⟩
  refine W_seq ?_
  refine W_seq ?_
  refine W_region rfl ?_
  rw [hX]
  refine L_v Tb_ok (v := .ptr _ _ _) (av rfl ⟨trivial, trivial⟩) rfl ?_
  refine L_v Tb_ok (v := .agg [.int _ _, .int _ _, .int _ _]) (av rfl ⟨trivial, rfl⟩) rfl ?_
  refine L_v Tb_ok (v := .ptr _ _ _) (av rfl ⟨trivial, trivial⟩) rfl ?_
  refine L_v Tb_ok (v := .ptr _ _ _) (av rfl ⟨trivial, trivial⟩) rfl ?_
  refine L_v Tb_ok (v := .agg [.int _ _, .int _ _, .int _ _, .int _ _, .int _ _, .int _ _, .int _ _, .int _ _]) (av rfl ⟨trivial, rfl⟩) rfl ?_
  refine L_v Tb_ok (v := .int _ _) (av rfl ⟨trivial, trivial⟩) rfl ?_
  refine L_call (hr := window_Taps_yes S.In S.Op.Win at_ hbad) rfl rfl trivial rfl rfl ?_
  refine WL_nil ?_
  refine W_block ?_
  refine W_nilO (id := 1) (j := 0) (el := 3) (esz := 1) rfl rfl rfl rfl ?_
  refine W_range (xs := tapList S.In S.Op.Win (tapsTop S.In S.Op.Win at_) (tapsLeft S.In S.Op.Win at_)) rfl trivial rfl rfl (window_Taps2 _ _ _ _ hkw hn (by omega)) rfl (fun x hx => by obtain ⟨k, hk⟩ := List.getElem?_of_mem hx; rw [(tap_inv hk).2]; rfl)
    (fun k => ([(0, some ⟨81, 29, 0, [siteC S]⟩), (1, some ⟨56, 1, 0, [[.app 4 ((plOut S.In S.Op.Win (tapsTop S.In S.Op.Win at_) (tapsLeft S.In S.Op.Win at_) f cnt k).map intC)]]⟩), (2, some ⟨3, 1, 0, [[.int .i64 f]]⟩), (3, some ⟨3, 1, 0, [[.int .i64 l]]⟩)], [(4, some (3, 1, (plOut S.In S.Op.Win (tapsTop S.In S.Op.Win at_) (tapsLeft S.In S.Op.Win at_) f cnt k).length))], 5))
    (le_fit trivial ⟨.inr rfl, .inr rfl, .inr rfl, .inr rfl, trivial⟩ ⟨.inr rfl, trivial⟩ rfl rfl rfl rfl rfl) ?_ ?_
  · intro k x hx
    obtain ⟨hk, rfl⟩ := tap_inv hx
    refine W_region rfl ?_
    refine L_v Tb_ok (v := .int _ _) (av rfl ⟨trivial, trivial⟩) rfl ?_
    refine WL_nil ?_
    refine W_block ?_
    refine W_seq ?_
    refine W_region rfl ?_
    refine L_v Tb_ok (v := .int _ _) (av rfl ⟨trivial, rfl⟩) rfl ?_
    refine L_v Tb_ok (v := .int _ _) (av rfl ⟨trivial, trivial⟩) rfl ?_
    refine WL_nil ?_
    refine W_block ?_
    refine W_for cnt (fun j => ⟨[(3, .ptr 0 0 0), (7, .ptr 1 0 0), (9, .ptr 2 0 0), (10, .ptr 3 0 0), (12, .int .i64 (tapPlace S.In S.Op.Win (tapsTop S.In S.Op.Win at_) (tapsLeft S.In S.Op.Win at_) (k : Int))), (13, .int .i64 (f + (j : Int)))], [(0, some ⟨81, 29, 0, [siteC S]⟩), (1, some ⟨56, 1, 0, [[.app 4 ((plOut S.In S.Op.Win (tapsTop S.In S.Op.Win at_) (tapsLeft S.In S.Op.Win at_) f cnt k ++ (plRow S.In.C f cnt (tapPlace S.In S.Op.Win (tapsTop S.In S.Op.Win at_) (tapsLeft S.In S.Op.Win at_) (k : Int))).take j).map intC)]]⟩), (2, some ⟨3, 1, 0, [[.int .i64 f]]⟩), (3, some ⟨3, 1, 0, [[.int .i64 l]]⟩)], [(4, some (3, 1, (plOut S.In S.Op.Win (tapsTop S.In S.Op.Win at_) (tapsLeft S.In S.Op.Win at_) f cnt k ++ (plRow S.In.C f cnt (tapPlace S.In S.Op.Win (tapsTop S.In S.Op.Win at_) (tapsLeft S.In S.Op.Win at_) (k : Int))).take j).length))], 5⟩)
      (le_fit ⟨rfl, rfl, rfl, rfl, rfl, congrArg _ (show f = f + ((0 : Nat) : Int) by simp), trivial⟩ ⟨.inr rfl, .inr (by simp; rfl), .inr rfl, .inr rfl, trivial⟩ ⟨.inr (by simp; rfl), trivial⟩ rfl rfl rfl rfl rfl) ?_
    intro j hj
    have hlen : (plOut S.In S.Op.Win (tapsTop S.In S.Op.Win at_) (tapsLeft S.In S.Op.Win at_) f cnt k ++ (plRow S.In.C f cnt (tapPlace S.In S.Op.Win (tapsTop S.In S.Op.Win at_) (tapsLeft S.In S.Op.Win at_) (k : Int))).take j).length ≤ 33554432 := by
      have h1 := plOut_len S.In S.Op.Win (tapsTop S.In S.Op.Win at_) (tapsLeft S.In S.Op.Win at_) f cnt k
      have h2 : k * cnt ≤ 4096 * 4096 := Nat.mul_le_mul (by omega) hcnt
      rw [List.length_append, h1, List.length_take]; omega
    refine W_seq ?_
    refine W_seq ?_
    refine W_region rfl ?_
    refine L_v Tb_ok (v := .int _ _) (av rfl ⟨trivial, trivial⟩) rfl ?_
    refine L_v Tb_ok (v := .int _ _) (av rfl ⟨trivial, rfl⟩) rfl ?_
    refine L_v Tb_ok (v := .bool _) (av rfl ⟨trivial, trivial⟩) rfl ?_
    refine WL_nil ?_
    refine W_cond (b := _) rfl (fun h53 => ?_) (fun h53 => ?_)
    · have hlt : j < cnt := by have := of_decide_eq_true h53; omega
      refine W_skip ?_
      refine W_seq ?_
      refine W_block ?_
      refine W_seq ?_
      refine W_region rfl ?_
      refine L_v Tb_ok (v := .int _ _) (av rfl ⟨trivial, trivial⟩) rfl ?_
      refine L_v Tb_ok (v := .bool _) (av rfl ⟨trivial, trivial⟩) rfl ?_
      refine WL_nil ?_
      refine W_cond (b := _) rfl (fun h57 => ?_) (fun h57 => ?_)
      · have hap := plRow_take S.In.C f (tapPlace S.In S.Op.Win (tapsTop S.In S.Op.Win at_) (tapsLeft S.In S.Op.Win at_) (k : Int)) cnt j (plOut S.In S.Op.Win (tapsTop S.In S.Op.Win at_) (tapsLeft S.In S.Op.Win at_) f cnt k) (-1) hlt (by rw [h57]; rfl)
        refine W_region rfl ?_
        first | (refine L_v Tb_ok (v := .ro _) (av rfl ⟨trivial, rfl⟩) rfl ?_) | (refine L_v Tb_ok (v := .app _ _) (av rfl ⟨trivial, rfl⟩) rfl ?_) | (refine L_v Tb_ok (v := .row _ _ _) (av rfl ⟨trivial, rfl⟩) rfl ?_) | (refine L_v Tb_ok (v := .nils) (av rfl ⟨trivial, rfl⟩) rfl ?_)
        refine L_build Tb_ok (t := 56) (len := 1) (el := 3) (sz := 1) (es := [[_]]) (z := [.int .i64 0]) rfl rfl rfl rfl rfl (by decide) trivial rfl rfl rfl rfl rfl ?_
        refine L_app1 Tb_ok (f := intC) (v := -1) (tok := 4) (el := 3) (sz := 1) rfl rfl rfl rfl rfl ⟨trivial, trivial⟩ (fun _ => ⟨rfl, rfl⟩) (by rw [show (Tb.at 3).bytes = 8 from rfl]; omega) rfl ?_
        first | (refine L_store Tb_ok (v := .ro _) (cs := [_]) (es' := [[_]]) rfl rfl rfl rfl rfl rfl rfl rfl rfl rfl ⟨trivial, trivial⟩ ?_) | (refine L_store Tb_ok (v := .app _ _) (cs := [_]) (es' := [[_]]) rfl rfl rfl rfl rfl rfl rfl rfl rfl rfl ⟨trivial, trivial⟩ ?_) | (refine L_store Tb_ok (v := .row _ _ _) (cs := [_]) (es' := [[_]]) rfl rfl rfl rfl rfl rfl rfl rfl rfl rfl ⟨trivial, trivial⟩ ?_) | (refine L_store Tb_ok (v := .nils) (cs := [_]) (es' := [[_]]) rfl rfl rfl rfl rfl rfl rfl rfl rfl rfl ⟨trivial, trivial⟩ ?_)
        refine WL_nil ?_
        refine W_region rfl ?_
        refine L_v Tb_ok (v := .int _ _) (av rfl ⟨trivial, trivial⟩) rfl ?_
        refine L_v Tb_ok (v := .int _ _) (av rfl ⟨trivial, trivial⟩) rfl ?_
        refine L_v Tb_ok (v := .int _ _) (av rfl ⟨trivial, trivial⟩) rfl ?_
        refine WL_nil ?_
        refine for_end hlt (le_fit ⟨rfl, rfl, rfl, rfl, rfl, congrArg (AV.int .i64) (show IntKind.i64.wrap (f + (j : Int) + 1) = f + ((j + 1 : Nat) : Int) by rw [w64_id (by omega)]; omega), trivial⟩ ⟨.inr rfl, .inr ?_, .inr rfl, .inr rfl, trivial⟩ ⟨.inr ?_, trivial⟩ rfl rfl rfl rfl rfl)
        · exact congrArg (fun z => some (Ob.mk 56 1 0 [[.app 4 (List.map intC z)]])) hap
        · exact congrArg (fun z => some (3, 1, List.length z)) hap
      · have hap := plRow_take S.In.C f (tapPlace S.In S.Op.Win (tapsTop S.In S.Op.Win at_) (tapsLeft S.In S.Op.Win at_) (k : Int)) cnt j (plOut S.In S.Op.Win (tapsTop S.In S.Op.Win at_) (tapsLeft S.In S.Op.Win at_) f cnt k) _ hlt (by rw [h57, cond_false])
        refine W_region rfl ?_
        first | (refine L_v Tb_ok (v := .ro _) (av rfl ⟨trivial, rfl⟩) rfl ?_) | (refine L_v Tb_ok (v := .app _ _) (av rfl ⟨trivial, rfl⟩) rfl ?_) | (refine L_v Tb_ok (v := .row _ _ _) (av rfl ⟨trivial, rfl⟩) rfl ?_) | (refine L_v Tb_ok (v := .nils) (av rfl ⟨trivial, rfl⟩) rfl ?_)
        refine L_v Tb_ok (v := .int _ _) (av rfl ⟨trivial, trivial⟩) rfl ?_
        refine L_v Tb_ok (v := .ptr _ _ _) (av rfl ⟨trivial, trivial⟩) rfl ?_
        refine L_v Tb_ok (v := .ptr _ _ _) (av rfl ⟨trivial, trivial⟩) rfl ?_
        refine L_v Tb_ok (v := .int _ _) (av rfl ⟨trivial, rfl⟩) rfl ?_
        refine L_v Tb_ok (v := .int _ _) (av rfl ⟨trivial, trivial⟩) rfl ?_
        refine L_v Tb_ok (v := .int _ _) (av rfl ⟨trivial, trivial⟩) rfl ?_
        refine L_v Tb_ok (v := .int _ _) (av rfl ⟨trivial, trivial⟩) rfl ?_
        refine L_build Tb_ok (t := 56) (len := 1) (el := 3) (sz := 1) (es := [[_]]) (z := [.int .i64 0]) rfl rfl rfl rfl rfl (by decide) trivial rfl rfl rfl rfl rfl ?_
        refine L_app1 Tb_ok (f := intC) (v := w64 (w64 (_ * _) + (f + (j : Int)))) (tok := 4) (el := 3) (sz := 1) rfl rfl rfl rfl rfl ⟨trivial, trivial⟩ (fun _ => ⟨rfl, rfl⟩) (by rw [show (Tb.at 3).bytes = 8 from rfl]; omega) rfl ?_
        first | (refine L_store Tb_ok (v := .ro _) (cs := [_]) (es' := [[_]]) rfl rfl rfl rfl rfl rfl rfl rfl rfl rfl ⟨trivial, trivial⟩ ?_) | (refine L_store Tb_ok (v := .app _ _) (cs := [_]) (es' := [[_]]) rfl rfl rfl rfl rfl rfl rfl rfl rfl rfl ⟨trivial, trivial⟩ ?_) | (refine L_store Tb_ok (v := .row _ _ _) (cs := [_]) (es' := [[_]]) rfl rfl rfl rfl rfl rfl rfl rfl rfl rfl ⟨trivial, trivial⟩ ?_) | (refine L_store Tb_ok (v := .nils) (cs := [_]) (es' := [[_]]) rfl rfl rfl rfl rfl rfl rfl rfl rfl rfl ⟨trivial, trivial⟩ ?_)
        refine WL_nil ?_
        refine W_region rfl ?_
        refine L_v Tb_ok (v := .int _ _) (av rfl ⟨trivial, trivial⟩) rfl ?_
        refine L_v Tb_ok (v := .int _ _) (av rfl ⟨trivial, trivial⟩) rfl ?_
        refine L_v Tb_ok (v := .int _ _) (av rfl ⟨trivial, trivial⟩) rfl ?_
        refine WL_nil ?_
        refine for_end hlt (le_fit ⟨rfl, rfl, rfl, rfl, rfl, congrArg (AV.int .i64) (show IntKind.i64.wrap (f + (j : Int) + 1) = f + ((j + 1 : Nat) : Int) by rw [w64_id (by omega)]; omega), trivial⟩ ⟨.inr rfl, .inr ?_, .inr rfl, .inr rfl, trivial⟩ ⟨.inr ?_, trivial⟩ rfl rfl rfl rfl rfl)
        · exact congrArg (fun z => some (Ob.mk 56 1 0 [[.app 4 (List.map intC z)]])) hap
        · exact congrArg (fun z => some (3, 1, List.length z)) hap
    · have hje : j = cnt := by have := of_decide_eq_false h53; omega
      refine W_exit ?_
      repeat (first | refine pass_then ?_ | refine pass_once ?_ | refine pass_le ?_ | refine pass_round ?_ | refine pass_for ?_ | refine blockQ_miss rfl ?_)
      refine blockQ_hit ?_
      refine le_fit trivial ⟨.inr rfl, .inr ?_, .inr rfl, .inr rfl, trivial⟩ ⟨.inr ?_, trivial⟩ rfl rfl rfl rfl rfl
      · rw [hje, List.take_of_length_le (Nat.le_of_eq (plRow_len _ _ _ _))]; exact congrArg (fun z => some (Ob.mk 56 1 0 [[.app 4 (List.map intC z)]])) (plOut_succ _ _ _ _ _ _ _).symm
      · rw [hje, List.take_of_length_le (Nat.le_of_eq (plRow_len _ _ _ _))]; exact congrArg (fun z => some (3, 1, List.length z)) (plOut_succ _ _ _ _ _ _ _).symm
  refine W_seq ?_
  refine W_region rfl ?_
  first | (refine L_v Tb_ok (v := .ro _) (av rfl ⟨trivial, rfl⟩) rfl ?_) | (refine L_v Tb_ok (v := .app _ _) (av rfl ⟨trivial, rfl⟩) rfl ?_) | (refine L_v Tb_ok (v := .row _ _ _) (av rfl ⟨trivial, rfl⟩) rfl ?_) | (refine L_v Tb_ok (v := .nils) (av rfl ⟨trivial, rfl⟩) rfl ?_)
  first | (refine L_v Tb_ok (v := .ro _) (av rfl ⟨trivial, trivial⟩) rfl ?_) | (refine L_v Tb_ok (v := .app _ _) (av rfl ⟨trivial, trivial⟩) rfl ?_) | (refine L_v Tb_ok (v := .row _ _ _) (av rfl ⟨trivial, trivial⟩) rfl ?_) | (refine L_v Tb_ok (v := .nils) (av rfl ⟨trivial, trivial⟩) rfl ?_)
  refine WL_nil ?_
  refine W_ret ?_
  first | (refine ends (l := [.app _ _]) (q := .ro _) (.inr rfl) rfl ⟨trivial, trivial⟩ rfl rfl ?_) | (refine ends (l := [.nils]) (q := .ro _) (.inr rfl) rfl ⟨trivial, trivial⟩ rfl rfl ?_) | (refine ends (l := [.ro _]) (q := .ro _) (.inr rfl) rfl ⟨trivial, trivial⟩ rfl rfl ?_)
  simp [tapList]
end Go.AM
end
section
open Go Go.AM Go.Proofs
set_option maxRecDepth 10000
set_option linter.unusedVariables false
set_option linter.unusedSimpArgs false
namespace Go.AM
/-- the places of a sum's terms -/
def plOf (S : Site) (ch at_ : Int) : List Int :=
  if S.Op.Kind = 1 then (List.range S.Len.toNat).map fun (k : Nat) => (k : Int)
  else plOut S.In S.Op.Win (tapsTop S.In S.Op.Win at_) (tapsLeft S.In S.Op.Win at_) (if S.Op.Kind = 2 then 0 else ch - 1) (if S.Op.Kind = 2 then S.In.C.toNat else 1) (tapN S.Op.Win)
theorem taps_win {S : Site} (hS : SiteOk S) (hk : S.Op.Kind ≠ 1) : w64 (S.Op.Win.KH * S.Op.Win.KW) = S.Op.Win.KH * S.Op.Win.KW ∧ 1 ≤ S.Op.Win.KH * S.Op.Win.KW ∧ S.Op.Win.KH * S.Op.Win.KW ≤ 1024 := by
  have W := windowB_iff (hS.win hk).1
  have a0 := Int.mul_le_mul W.1.1 W.2.1.1 (by omega) (by omega)
  have a2 : S.Op.Win.KH * S.Op.Win.KW ≤ 32 * 32 := Int.mul_le_mul W.1.2 W.2.1.2 (by omega) (by omega)
  exact ⟨w64_id (by omega), by omega, by omega⟩
theorem out_pos {S : Site} (hS : SiteOk S) : w64 (S.Out.H * S.Out.W) = S.Out.H * S.Out.W ∧ 1 ≤ S.Out.H * S.Out.W ∧ S.Out.H * S.Out.W ≤ 1048576 := by
  have B := shapeB_iff.1 hS.outB
  have a0 := Int.mul_le_mul B.1.1 B.2.1.1 (by omega) (by omega)
  have a2 : S.Out.H * S.Out.W ≤ 1024 * 1024 := Int.mul_le_mul B.1.2 B.2.1.2 (by omega) (by omega)
  exact ⟨w64_id (by omega), by omega, by omega⟩
theorem ofBad_iff {S : Site} {ch at_ : Int} (hS : SiteOk S) : ofBad S ch at_ = false ↔ (1 ≤ ch ∧ ch ≤ S.Out.C) ∧ 0 ≤ at_ ∧ at_ < S.Out.H * S.Out.W := by
  obtain ⟨h1, h2, h3⟩ := out_pos hS
  unfold ofBad; rw [h1]
  by_cases a : ch < 1 <;> by_cases b : ch > S.Out.C <;> by_cases c : at_ < 0 <;> by_cases d : at_ ≥ S.Out.H * S.Out.W <;> simp [a, b, c, d] <;> omega
theorem plOf_len {S : Site} (hS : SiteOk S) (ch at_ : Int) : (plOf S ch at_).length = S.Len.toNat := by
  unfold plOf
  split
  · simp
  · rename_i hk
    obtain ⟨h1, h2, h3⟩ := taps_win hS hk
    rw [plOut_len]
    unfold tapN
    rw [h1]
    split
    · rename_i k2
      have B := shapeB_iff.1 hS.inB
      rw [hS.len2 k2, ← Int.toNat_mul (by omega) (by omega)]
    · rw [hS.len3 (by have := hS.kind; omega)]; omega
theorem taps_good {S : Site} {at_ : Int} (hS : SiteOk S) (hk : S.Op.Kind ≠ 1) (h0 : 0 ≤ at_) (h1 : at_ < S.Out.H * S.Out.W) : tapsBad S.In S.Op.Win at_ = false := by
  obtain ⟨_, w2, w3, w4⟩ := hS.win hk
  obtain ⟨o1, o2, o3⟩ := out_pos hS
  unfold tapsBad
  rw [← w3, ← w4, o1, w2]
  have a : ¬ at_ < 0 := by omega
  have b : ¬ at_ ≥ S.Out.H * S.Out.W := by omega
  simp [a, b]
theorem terms_places {S : Site} {ch at_ : Int} (hS : SiteOk S) (hch : 1 ≤ ch ∧ ch ≤ S.Out.C) (hat : 0 ≤ at_ ∧ at_ < S.Out.H * S.Out.W) : Ok Try.prog 32 [.agg (siteC S), .int .i64 ch, .int .i64 at_] (.ro ((plOf S ch at_).map intC)) := by
  unfold plOf
  have B := shapeB_iff.1 hS.inB
  have O := shapeB_iff.1 hS.outB
  split
  · rename_i k1
    exact terms_places_dense S ch at_ (by simp [k1]) (by have := hS.len; omega) (by have := hS.len; omega)
  · rename_i k1
    obtain ⟨h1, h2, h3⟩ := taps_win hS k1
    have W := windowB_iff (hS.win k1).1
    have e1 : w64 (ch - 1) = ch - 1 := w64_id (by omega)
    have e2 : w64 (S.In.C - 1) = S.In.C - 1 := w64_id (by omega)
    have base := terms_places_taps S ch at_ (by simpa using k1) (taps_good hS k1 hat.1 hat.2) (by omega) (by omega) (by omega)
    by_cases k2 : S.Op.Kind = 2
    · rw [if_pos k2, if_pos k2]
      exact base S.In.C.toNat (by omega) 0 (S.In.C - 1) (by omega) (by omega) (by omega) (by rw [e1, e2, k2]; rfl)
    · rw [if_neg k2, if_neg k2]
      have hk : (S.Op.Kind == 2) = false := by simpa using k2
      exact base 1 (by omega) (ch - 1) (ch - 1) (by omega) (by omega) (by omega) (by rw [e1, e2, hk]; rfl)
/-- what Of answers -/
def termsF (m : Model) (op ch at_ : Int) : List Term :=
  if findE m op = 0 then if ofBad (findS m op) ch at_ then [] else if (findS m op).Op.Kind = 4 then ofP (plOf (findS m op) ch at_) (plOf (findS m op) ch at_).length else ofQ (plOf (findS m op) ch at_) ((ofWs (findS m op) ch).map w64) (plOf (findS m op) ch at_).length else []
def biasF (m : Model) (op ch at_ : Int) : Int :=
  if findE m op = 0 then if ofBad (findS m op) ch at_ then 0 else if (findS m op).Op.Kind = 4 then 0 else w64 ((findS m op).Op.Bias.getD (w64 (ch - 1)).toNat default) else 0
def ofE (m : Model) (op ch at_ : Int) : Int := if findE m op = 0 then if ofBad (findS m op) ch at_ then 3 else 0 else findE m op
theorem of_weights {S : Site} {ch : Int} (hS : SiteOk S) (hk : S.Op.Kind ≠ 4) (hch : 1 ≤ ch ∧ ch ≤ S.Out.C) : w64 (ch - 1) = ch - 1 ∧ w64 ((ch - 1) * S.Len) = (ch - 1) * S.Len ∧ w64 (ch * S.Len) = ch * S.Len ∧ 0 ≤ (ch - 1) * S.Len ∧ ch * S.Len - (ch - 1) * S.Len = S.Len ∧ ch * S.Len ≤ S.Op.Weights.length ∧ ch - 1 < S.Op.Bias.length := by
  have O := shapeB_iff.1 hS.outB
  have hl := hS.len
  have a0 : 0 ≤ (ch - 1) * S.Len := Int.mul_nonneg (by omega) (by omega)
  have a1 : (ch - 1) * S.Len ≤ 1024 * 512 := Int.mul_le_mul (by omega) hl.2 (by omega) (by omega)
  have b0 : 0 ≤ ch * S.Len := Int.mul_nonneg (by omega) (by omega)
  have b1 : ch * S.Len ≤ 1024 * 512 := Int.mul_le_mul (by omega) hl.2 (by omega) (by omega)
  refine ⟨w64_id (by omega), w64_id (by omega), w64_id (by omega), a0, by rw [Int.sub_mul]; omega, ?_, ?_⟩
  · rw [hS.wl hk]; exact Int.mul_le_mul_of_nonneg_right hch.2 (by omega)
  · rw [hS.bl hk]; omega
theorem terms_Of (m : Model) (op ch at_ : Int) : Ok Try.prog 11 [.agg (modelC m), .int .i64 op, .int .i64 ch, .int .i64 at_] (.tup [.ro ((termsF m op ch at_).map termC), .int .i64 (biasF m op ch at_), .int .i64 (ofE m op ch at_)]) := by
  by_cases h0 : findE m op = 0
  · obtain ⟨hS, _⟩ := site_ok h0
    have hf : (findE m op != 0) = false := by simp [h0]
    cases hb : ofBad (findS m op) ch at_ with
    | true =>
      have := terms_Of_bad m op ch at_ (.inr ⟨hf, hb⟩)
      simpa [termsF, biasF, ofE, h0, hb] using this
    | false =>
      obtain ⟨hch, hat⟩ := (ofBad_iff hS).1 hb
      have hl := plOf_len hS ch at_
      have hl2 := hS.len
      by_cases k4 : (findS m op).Op.Kind = 4
      · have := terms_Of_pl m op ch at_ hf hb (by simp [k4]) (plOf (findS m op) ch at_) (terms_places hS hch hat) (by omega) (by omega)
        simpa [termsF, biasF, ofE, h0, hb, k4] using this
      · obtain ⟨w1, w2, w3, w4, w5, w6, w7⟩ := of_weights hS k4 hch
        have := terms_Of_w m op ch at_ hf hb (by simp [k4]) (plOf (findS m op) ch at_) (terms_places hS hch hat) (by omega) (by omega) (by rw [w1]; omega) (by rw [w1]; exact w7) (by rw [w1, w2]; exact w4) (by rw [w3, w1, w2]; exact w5) (by rw [w3]; exact w6)
        simpa [termsF, biasF, ofE, h0, hb, k4] using this
  · have := terms_Of_bad m op ch at_ (.inl (by simp [h0]))
    simpa [termsF, biasF, ofE, h0] using this
end Go.AM
end
section
open Go Go.AM Go.Proofs
set_option maxRecDepth 10000
set_option linter.unusedVariables false
set_option linter.unusedSimpArgs false
namespace Go.AM
/-- the reference's site -/
def rsiteC (s : Site) : List AV := opC s.Op ++ (shapeC s.In ++ shapeC s.Out)
def rfE (m : Model) (op ch : Int) : Int := if findE m op = 0 then if (bif decide (ch < 0) then true else decide (ch > (findS m op).Out.C)) then 3 else 0 else findE m op
def rfS (m : Model) (op ch : Int) : Site := if rfE m op ch = 0 then findS m op else site0
theorem ref10_Find (m : Model) (hm : m.Wf) (op ch : Int) : Ok Try.prog 18 [.agg (modelC m), .int .i64 op, .int .i64 ch] (.tup [.agg (rsiteC (rfS m op ch)), .int .i64 (rfE m op ch)]) := by
  cases h1 : fi1 m with
  | true =>
    have hc21 : ((wholeF m).2.2.Err != 0) = true := h1
    have e : findE m op = (wholeF m).2.2.Err := by simp [findE, h1]
    have n0 : (wholeF m).2.2.Err ≠ 0 := by simpa using hc21
    --@@1
    skip
    refine fn_ok Tb_ok (fn := Try.f18) Try.func18 rfl rfl (e := [(0, _), (1, _), (2, _)]) rfl (by decide) rfl ?_
    refine W_seq ?_
    refine W_region rfl ?_
    refine L_box Tb_ok (cs := [.int _ _, .int _ _, .int _ _, .int _ _, .int _ _, _, .int _ _]) (n := 7) rfl rfl rfl rfl trivial ?_
    refine L_alloc Tb_ok (z := [.int .i64 0, .int .i64 0, .int .i64 0, .int .i64 0, .int .i64 0, .int .i64 0, .int .i64 0, .int .i64 0, .int .i64 0, .int .i64 0, .int .i64 0, .int .i64 0, .nils, .nils, .int .i64 0, .int .i64 0, .int .i64 0, .int .i64 0, .int .i64 0, .int .i64 0, .int .i64 0, .int .i64 0, .int .i64 0, .int .i64 0, .int .i64 0, .int .i64 0, .int .i64 0, .int .i64 0]) (n := 28) rfl rfl rfl rfl rfl ?_
    refine L_v Tb_ok (v := .int _ _) (av rfl ⟨trivial, trivial⟩) rfl ?_
    refine WL_nil ?_
    refine W_seq ?_
    refine W_region rfl ?_
    refine L_v Tb_ok (v := .agg [.int _ _, .int _ _, .int _ _, .int _ _, .int _ _, _, .int _ _]) (av rfl ⟨trivial, rfl⟩) rfl ?_
    refine L_call (hr := ref08_Look m hm) rfl rfl trivial rfl rfl ?_
    refine L_v Tb_ok (v := .tup [_, _, _]) (av rfl ⟨trivial, trivial⟩) rfl ?_
    first | (refine L_v Tb_ok (v := .ro _) (av rfl ⟨trivial, trivial⟩) rfl ?_) | (refine L_v Tb_ok (v := .app _ _) (av rfl ⟨trivial, trivial⟩) rfl ?_) | (refine L_v Tb_ok (v := .row _ _ _) (av rfl ⟨trivial, trivial⟩) rfl ?_) | (refine L_v Tb_ok (v := .nils) (av rfl ⟨trivial, trivial⟩) rfl ?_)
    refine L_v Tb_ok (v := .int _ _) (av rfl ⟨trivial, trivial⟩) rfl ?_
    refine L_v Tb_ok (v := .agg [.int _ _, .int _ _, .int _ _]) (av rfl ⟨trivial, trivial⟩) rfl ?_
    refine L_alloc Tb_ok (z := [.int .i64 0, .int .i64 0, .int .i64 0]) (n := 3) rfl rfl rfl rfl rfl ?_
    first | (refine L_v Tb_ok (v := .ro _) (av rfl ⟨trivial, trivial⟩) rfl ?_) | (refine L_v Tb_ok (v := .app _ _) (av rfl ⟨trivial, trivial⟩) rfl ?_) | (refine L_v Tb_ok (v := .row _ _ _) (av rfl ⟨trivial, trivial⟩) rfl ?_) | (refine L_v Tb_ok (v := .nils) (av rfl ⟨trivial, trivial⟩) rfl ?_)
    refine L_v Tb_ok (v := .int _ _) (av rfl ⟨trivial, trivial⟩) rfl ?_
    refine L_store Tb_ok (v := .agg [.int _ _, .int _ _, .int _ _]) (cs := [_, _, _]) (es' := [[_, _, _]]) rfl rfl rfl rfl rfl rfl rfl rfl rfl rfl ⟨trivial, trivial⟩ ?_
    refine WL_nil ?_
    refine W_seq ?_
    refine W_seq ?_
    refine W_region rfl ?_
    refine L_v Tb_ok (v := .ptr _ _ _) (av rfl ⟨trivial, trivial⟩) rfl ?_
    refine L_v Tb_ok (v := .int _ _) (av rfl ⟨trivial, rfl⟩) rfl ?_
    refine L_v Tb_ok (v := .bool _) (av rfl ⟨trivial, trivial⟩) rfl ?_
    refine WL_nil ?_
    refine W_cond_t (b := _) rfl (by first | exact hc21 | rfl | decide | simp_all) ?_
    refine W_seq ?_
    refine W_drawF (fun e => [idOf (get e 6)]) 3 [[3, 4]] Tb_mixed rfl (by decide) (by kernel_rfl) ?_
    refine S_v Tb_ok (v := .agg [.int _ _, .int _ _, .int _ _, .int _ _, .int _ _, .int _ _, .int _ _, .int _ _, .int _ _, .int _ _, .int _ _, .int _ _, _, _, .int _ _, .int _ _, .int _ _, .int _ _, .int _ _, .int _ _, .int _ _, .int _ _, .int _ _, .int _ _, .int _ _, .int _ _, .int _ _, .int _ _]) (av rfl ⟨trivial, rfl⟩) rfl ?_
    refine S_v Tb_ok (v := .ptr _ _ _) (av rfl ⟨trivial, trivial⟩) rfl ?_
    refine S_v Tb_ok (v := .int _ _) (av rfl ⟨trivial, rfl⟩) rfl ?_
    refine S_nil ?_
    refine TT_one ?_
    refine TT_store Tb_ok (OSub_forget _ _) rfl (v := .agg [.int _ _, .int _ _, .int _ _, .int _ _, .int _ _, .int _ _, .int _ _, .int _ _, .int _ _, .int _ _, .int _ _, .int _ _, _, _, .int _ _, .int _ _, .int _ _, .int _ _, .int _ _, .int _ _, .int _ _, .int _ _, .int _ _, .int _ _, .int _ _, .int _ _, .int _ _, .int _ _]) (cs := [_, _, _, _, _, _, _, _, _, _, _, _, _, _, _, _, _, _, _, _, _, _, _, _, _, _, _, _]) (es' := [[_, _, _, _, _, _, _, _, _, _, _, _, _, _, _, _, _, _, _, _, _, _, _, _, _, _, _, _]]) rfl rfl rfl rfl rfl rfl rfl rfl rfl rfl rfl ⟨trivial, trivial⟩ (fun ht1 => ?_)
    refine TT_v Tb_ok ht1 rfl (v := .int _ _) (av rfl ⟨trivial, trivial⟩) rfl (fun ht2 => ?_)
    refine TT_nil ?_
    clear ht1 ht2
    refine W_ret ?_
    refine ends (l := [.agg [.int _ _, .int _ _, .int _ _, .int _ _, .int _ _, .int _ _, .int _ _, .int _ _, .int _ _, .int _ _, .int _ _, .int _ _, _, _, .int _ _, .int _ _, .int _ _, .int _ _, .int _ _, .int _ _, .int _ _, .int _ _, .int _ _, .int _ _, .int _ _, .int _ _, .int _ _, .int _ _], .int _ _]) (q := .tup [.agg [.int _ _, .int _ _, .int _ _, .int _ _, .int _ _, .int _ _, .int _ _, .int _ _, .int _ _, .int _ _, .int _ _, .int _ _, _, _, .int _ _, .int _ _, .int _ _, .int _ _, .int _ _, .int _ _, .int _ _, .int _ _, .int _ _, .int _ _, .int _ _, .int _ _, .int _ _, .int _ _], .int _ _]) (.inr rfl) rfl ⟨rfl, trivial, trivial⟩ rfl rfl ?_
    simp [rfE, rfS, e, n0, rsiteC, site0, opC, shapeC, demC]
  | false =>
  have hc21 : ((wholeF m).2.2.Err != 0) = false := h1
  cases h2 : fi2 m op with
  | true =>
    have hc33 : (bif decide (op < 1) then true else decide (op > ((m.Ops.map opC).length : Int))) = true := h2
    have e : findE m op = 3 := by simp [findE, h1, h2]
    --@@2
    skip
    refine fn_ok Tb_ok (fn := Try.f18) Try.func18 rfl rfl (e := [(0, _), (1, _), (2, _)]) rfl (by decide) rfl ?_
    refine W_seq ?_
    refine W_region rfl ?_
    refine L_box Tb_ok (cs := [.int _ _, .int _ _, .int _ _, .int _ _, .int _ _, _, .int _ _]) (n := 7) rfl rfl rfl rfl trivial ?_
    refine L_alloc Tb_ok (z := [.int .i64 0, .int .i64 0, .int .i64 0, .int .i64 0, .int .i64 0, .int .i64 0, .int .i64 0, .int .i64 0, .int .i64 0, .int .i64 0, .int .i64 0, .int .i64 0, .nils, .nils, .int .i64 0, .int .i64 0, .int .i64 0, .int .i64 0, .int .i64 0, .int .i64 0, .int .i64 0, .int .i64 0, .int .i64 0, .int .i64 0, .int .i64 0, .int .i64 0, .int .i64 0, .int .i64 0]) (n := 28) rfl rfl rfl rfl rfl ?_
    refine L_v Tb_ok (v := .int _ _) (av rfl ⟨trivial, trivial⟩) rfl ?_
    refine WL_nil ?_
    refine W_seq ?_
    refine W_region rfl ?_
    refine L_v Tb_ok (v := .agg [.int _ _, .int _ _, .int _ _, .int _ _, .int _ _, _, .int _ _]) (av rfl ⟨trivial, rfl⟩) rfl ?_
    refine L_call (hr := ref08_Look m hm) rfl rfl trivial rfl rfl ?_
    refine L_v Tb_ok (v := .tup [_, _, _]) (av rfl ⟨trivial, trivial⟩) rfl ?_
    first | (refine L_v Tb_ok (v := .ro _) (av rfl ⟨trivial, trivial⟩) rfl ?_) | (refine L_v Tb_ok (v := .app _ _) (av rfl ⟨trivial, trivial⟩) rfl ?_) | (refine L_v Tb_ok (v := .row _ _ _) (av rfl ⟨trivial, trivial⟩) rfl ?_) | (refine L_v Tb_ok (v := .nils) (av rfl ⟨trivial, trivial⟩) rfl ?_)
    refine L_v Tb_ok (v := .int _ _) (av rfl ⟨trivial, trivial⟩) rfl ?_
    refine L_v Tb_ok (v := .agg [.int _ _, .int _ _, .int _ _]) (av rfl ⟨trivial, trivial⟩) rfl ?_
    refine L_alloc Tb_ok (z := [.int .i64 0, .int .i64 0, .int .i64 0]) (n := 3) rfl rfl rfl rfl rfl ?_
    first | (refine L_v Tb_ok (v := .ro _) (av rfl ⟨trivial, trivial⟩) rfl ?_) | (refine L_v Tb_ok (v := .app _ _) (av rfl ⟨trivial, trivial⟩) rfl ?_) | (refine L_v Tb_ok (v := .row _ _ _) (av rfl ⟨trivial, trivial⟩) rfl ?_) | (refine L_v Tb_ok (v := .nils) (av rfl ⟨trivial, trivial⟩) rfl ?_)
    refine L_v Tb_ok (v := .int _ _) (av rfl ⟨trivial, trivial⟩) rfl ?_
    refine L_store Tb_ok (v := .agg [.int _ _, .int _ _, .int _ _]) (cs := [_, _, _]) (es' := [[_, _, _]]) rfl rfl rfl rfl rfl rfl rfl rfl rfl rfl ⟨trivial, trivial⟩ ?_
    refine WL_nil ?_
    refine W_seq ?_
    refine W_seq ?_
    refine W_region rfl ?_
    refine L_v Tb_ok (v := .ptr _ _ _) (av rfl ⟨trivial, trivial⟩) rfl ?_
    refine L_v Tb_ok (v := .int _ _) (av rfl ⟨trivial, rfl⟩) rfl ?_
    refine L_v Tb_ok (v := .bool _) (av rfl ⟨trivial, trivial⟩) rfl ?_
    refine WL_nil ?_
    refine W_cond_f (b := _) rfl (by first | exact hc21 | rfl | decide | simp_all) ?_
    refine W_skip ?_
    refine W_seq ?_
    refine W_seq ?_
    refine W_region rfl ?_
    refine L_v Tb_ok (v := .int _ _) (av rfl ⟨trivial, trivial⟩) rfl ?_
    refine L_v Tb_ok (v := .bool _) (av rfl ⟨trivial, trivial⟩) rfl ?_
    refine L_v Tb_ok (v := .bool _) (av rfl ⟨trivial, trivial⟩) rfl ?_
    refine L_g Tb_ok (v := .int _ _) rfl rfl ((fun hg => (av rfl ⟨trivial, trivial⟩))) rfl rfl ?_
    refine L_g Tb_ok (v := .ptr _ _ _) rfl rfl ((fun hg => (av rfl ⟨trivial, trivial⟩))) rfl rfl ?_
    first | (refine L_g Tb_ok (v := .ro _) rfl rfl ((fun hg => (av rfl ⟨⟨⟨(by first | exact hg | (simp_all; done) | (simp at hg ⊢; simp [hg])), True.intro⟩, True.intro⟩, rfl⟩))) rfl rfl ?_) | (refine L_g Tb_ok (v := .app _ _) rfl rfl ((fun hg => (av rfl ⟨⟨⟨(by first | exact hg | (simp_all; done) | (simp at hg ⊢; simp [hg])), True.intro⟩, True.intro⟩, rfl⟩))) rfl rfl ?_) | (refine L_g Tb_ok (v := .row _ _ _) rfl rfl ((fun hg => (av rfl ⟨⟨⟨(by first | exact hg | (simp_all; done) | (simp at hg ⊢; simp [hg])), True.intro⟩, True.intro⟩, rfl⟩))) rfl rfl ?_) | (refine L_g Tb_ok (v := .nils) rfl rfl ((fun hg => (av rfl ⟨⟨⟨(by first | exact hg | (simp_all; done) | (simp at hg ⊢; simp [hg])), True.intro⟩, True.intro⟩, rfl⟩))) rfl rfl ?_)
    refine L_g Tb_ok (v := .int _ _) rfl rfl ((fun hg => (av rfl ⟨⟨⟨(by first | exact hg | (simp_all; done) | (simp at hg ⊢; simp [hg])), True.intro⟩, True.intro⟩, trivial⟩))) rfl rfl ?_
    refine L_g Tb_ok (v := .bool _) rfl rfl ((fun hg => (av rfl ⟨⟨⟨(by first | exact hg | (simp_all; done) | (simp at hg ⊢; simp [hg])), True.intro⟩, ⟨⟨(by first | exact hg | (simp_all; done) | (simp at hg ⊢; simp [hg])), True.intro⟩, True.intro⟩⟩, trivial⟩))) rfl rfl ?_
    refine L_v Tb_ok (v := .bool _) (av rfl (by refine ⟨?_, fun h => ?_, fun h => ?_⟩ <;> first | exact True.intro | exact ⟨h, True.intro⟩ | (refine ⟨?_, True.intro⟩; first | (rw [h]; done) | (rw [h]; rfl) | (simp [h]; done) | (simp at h hg ⊢; simp [h, hg]; done) | (simp_all; done) | (simp_all; omega)))) rfl ?_
    refine WL_nil ?_
    refine W_cond_t (b := _) rfl (by first | exact hc33 | rfl | decide | simp_all) ?_
    refine W_seq ?_
    refine W_region rfl ?_
    refine L_v Tb_ok (v := .agg [.int _ _, .int _ _, .int _ _, .int _ _, .int _ _, .int _ _, .int _ _, .int _ _, .int _ _, .int _ _, .int _ _, .int _ _, _, _, .int _ _, .int _ _, .int _ _, .int _ _, .int _ _, .int _ _, .int _ _, .int _ _, .int _ _, .int _ _, .int _ _, .int _ _, .int _ _, .int _ _]) (av rfl ⟨trivial, rfl⟩) rfl ?_
    refine L_store Tb_ok (v := .agg [.int _ _, .int _ _, .int _ _, .int _ _, .int _ _, .int _ _, .int _ _, .int _ _, .int _ _, .int _ _, .int _ _, .int _ _, _, _, .int _ _, .int _ _, .int _ _, .int _ _, .int _ _, .int _ _, .int _ _, .int _ _, .int _ _, .int _ _, .int _ _, .int _ _, .int _ _, .int _ _]) (cs := [_, _, _, _, _, _, _, _, _, _, _, _, _, _, _, _, _, _, _, _, _, _, _, _, _, _, _, _]) (es' := [[_, _, _, _, _, _, _, _, _, _, _, _, _, _, _, _, _, _, _, _, _, _, _, _, _, _, _, _]]) rfl rfl rfl rfl rfl rfl rfl rfl rfl rfl ⟨trivial, trivial⟩ ?_
    refine L_v Tb_ok (v := .int _ _) (av rfl ⟨trivial, trivial⟩) rfl ?_
    refine WL_nil ?_
    refine W_ret ?_
    refine ends (l := [.agg [.int _ _, .int _ _, .int _ _, .int _ _, .int _ _, .int _ _, .int _ _, .int _ _, .int _ _, .int _ _, .int _ _, .int _ _, _, _, .int _ _, .int _ _, .int _ _, .int _ _, .int _ _, .int _ _, .int _ _, .int _ _, .int _ _, .int _ _, .int _ _, .int _ _, .int _ _, .int _ _], .int _ _]) (q := .tup [.agg [.int _ _, .int _ _, .int _ _, .int _ _, .int _ _, .int _ _, .int _ _, .int _ _, .int _ _, .int _ _, .int _ _, .int _ _, _, _, .int _ _, .int _ _, .int _ _, .int _ _, .int _ _, .int _ _, .int _ _, .int _ _, .int _ _, .int _ _, .int _ _, .int _ _, .int _ _, .int _ _], .int _ _]) (.inr rfl) rfl ⟨rfl, trivial, trivial⟩ rfl rfl ?_
    simp [rfE, rfS, e, rsiteC, site0, opC, shapeC, demC]
  | false =>
  have hc33 : (bif decide (op < 1) then true else decide (op > ((m.Ops.map opC).length : Int))) = false := h2
  obtain ⟨o1, o2, o3, o4, o5, o6⟩ := fi_ok h1 h2
  have p1 : 0 ≤ IntKind.i64.wrap (op - 1) := by rw [o3]; omega
  have p2 : IntKind.i64.wrap (op - 1) < (m.Ops.length : Int) := by rw [o3]; omega
  have eo : m.Ops.getD (IntKind.i64.wrap (op - 1)).toNat default = opAt m op := by rw [o3]; rfl
  cases h3 : fi3 m op with
  | true =>
    have hc44 : (!inB (m.Ops.getD (IntKind.i64.wrap (op - 1)).toNat default).Kind 1 4) = true := by rw [eo]; exact h3
    have e : findE m op = 81 := by simp [findE, h1, h2, h3]
    --@@3
    skip
    refine fn_ok Tb_ok (fn := Try.f18) Try.func18 rfl rfl (e := [(0, _), (1, _), (2, _)]) rfl (by decide) rfl ?_
    refine W_seq ?_
    refine W_region rfl ?_
    refine L_box Tb_ok (cs := [.int _ _, .int _ _, .int _ _, .int _ _, .int _ _, _, .int _ _]) (n := 7) rfl rfl rfl rfl trivial ?_
    refine L_alloc Tb_ok (z := [.int .i64 0, .int .i64 0, .int .i64 0, .int .i64 0, .int .i64 0, .int .i64 0, .int .i64 0, .int .i64 0, .int .i64 0, .int .i64 0, .int .i64 0, .int .i64 0, .nils, .nils, .int .i64 0, .int .i64 0, .int .i64 0, .int .i64 0, .int .i64 0, .int .i64 0, .int .i64 0, .int .i64 0, .int .i64 0, .int .i64 0, .int .i64 0, .int .i64 0, .int .i64 0, .int .i64 0]) (n := 28) rfl rfl rfl rfl rfl ?_
    refine L_v Tb_ok (v := .int _ _) (av rfl ⟨trivial, trivial⟩) rfl ?_
    refine WL_nil ?_
    refine W_seq ?_
    refine W_region rfl ?_
    refine L_v Tb_ok (v := .agg [.int _ _, .int _ _, .int _ _, .int _ _, .int _ _, _, .int _ _]) (av rfl ⟨trivial, rfl⟩) rfl ?_
    refine L_call (hr := ref08_Look m hm) rfl rfl trivial rfl rfl ?_
    refine L_v Tb_ok (v := .tup [_, _, _]) (av rfl ⟨trivial, trivial⟩) rfl ?_
    first | (refine L_v Tb_ok (v := .ro _) (av rfl ⟨trivial, trivial⟩) rfl ?_) | (refine L_v Tb_ok (v := .app _ _) (av rfl ⟨trivial, trivial⟩) rfl ?_) | (refine L_v Tb_ok (v := .row _ _ _) (av rfl ⟨trivial, trivial⟩) rfl ?_) | (refine L_v Tb_ok (v := .nils) (av rfl ⟨trivial, trivial⟩) rfl ?_)
    refine L_v Tb_ok (v := .int _ _) (av rfl ⟨trivial, trivial⟩) rfl ?_
    refine L_v Tb_ok (v := .agg [.int _ _, .int _ _, .int _ _]) (av rfl ⟨trivial, trivial⟩) rfl ?_
    refine L_alloc Tb_ok (z := [.int .i64 0, .int .i64 0, .int .i64 0]) (n := 3) rfl rfl rfl rfl rfl ?_
    first | (refine L_v Tb_ok (v := .ro _) (av rfl ⟨trivial, trivial⟩) rfl ?_) | (refine L_v Tb_ok (v := .app _ _) (av rfl ⟨trivial, trivial⟩) rfl ?_) | (refine L_v Tb_ok (v := .row _ _ _) (av rfl ⟨trivial, trivial⟩) rfl ?_) | (refine L_v Tb_ok (v := .nils) (av rfl ⟨trivial, trivial⟩) rfl ?_)
    refine L_v Tb_ok (v := .int _ _) (av rfl ⟨trivial, trivial⟩) rfl ?_
    refine L_store Tb_ok (v := .agg [.int _ _, .int _ _, .int _ _]) (cs := [_, _, _]) (es' := [[_, _, _]]) rfl rfl rfl rfl rfl rfl rfl rfl rfl rfl ⟨trivial, trivial⟩ ?_
    refine WL_nil ?_
    refine W_seq ?_
    refine W_seq ?_
    refine W_region rfl ?_
    refine L_v Tb_ok (v := .ptr _ _ _) (av rfl ⟨trivial, trivial⟩) rfl ?_
    refine L_v Tb_ok (v := .int _ _) (av rfl ⟨trivial, rfl⟩) rfl ?_
    refine L_v Tb_ok (v := .bool _) (av rfl ⟨trivial, trivial⟩) rfl ?_
    refine WL_nil ?_
    refine W_cond_f (b := _) rfl (by first | exact hc21 | rfl | decide | simp_all) ?_
    refine W_skip ?_
    refine W_seq ?_
    refine W_seq ?_
    refine W_region rfl ?_
    refine L_v Tb_ok (v := .int _ _) (av rfl ⟨trivial, trivial⟩) rfl ?_
    refine L_v Tb_ok (v := .bool _) (av rfl ⟨trivial, trivial⟩) rfl ?_
    refine L_v Tb_ok (v := .bool _) (av rfl ⟨trivial, trivial⟩) rfl ?_
    refine L_g Tb_ok (v := .int _ _) rfl rfl ((fun hg => (av rfl ⟨trivial, trivial⟩))) rfl rfl ?_
    refine L_g Tb_ok (v := .ptr _ _ _) rfl rfl ((fun hg => (av rfl ⟨trivial, trivial⟩))) rfl rfl ?_
    first | (refine L_g Tb_ok (v := .ro _) rfl rfl ((fun hg => (av rfl ⟨⟨⟨(by first | exact hg | (simp_all; done) | (simp at hg ⊢; simp [hg])), True.intro⟩, True.intro⟩, rfl⟩))) rfl rfl ?_) | (refine L_g Tb_ok (v := .app _ _) rfl rfl ((fun hg => (av rfl ⟨⟨⟨(by first | exact hg | (simp_all; done) | (simp at hg ⊢; simp [hg])), True.intro⟩, True.intro⟩, rfl⟩))) rfl rfl ?_) | (refine L_g Tb_ok (v := .row _ _ _) rfl rfl ((fun hg => (av rfl ⟨⟨⟨(by first | exact hg | (simp_all; done) | (simp at hg ⊢; simp [hg])), True.intro⟩, True.intro⟩, rfl⟩))) rfl rfl ?_) | (refine L_g Tb_ok (v := .nils) rfl rfl ((fun hg => (av rfl ⟨⟨⟨(by first | exact hg | (simp_all; done) | (simp at hg ⊢; simp [hg])), True.intro⟩, True.intro⟩, rfl⟩))) rfl rfl ?_)
    refine L_g Tb_ok (v := .int _ _) rfl rfl ((fun hg => (av rfl ⟨⟨⟨(by first | exact hg | (simp_all; done) | (simp at hg ⊢; simp [hg])), True.intro⟩, True.intro⟩, trivial⟩))) rfl rfl ?_
    refine L_g Tb_ok (v := .bool _) rfl rfl ((fun hg => (av rfl ⟨⟨⟨(by first | exact hg | (simp_all; done) | (simp at hg ⊢; simp [hg])), True.intro⟩, ⟨⟨(by first | exact hg | (simp_all; done) | (simp at hg ⊢; simp [hg])), True.intro⟩, True.intro⟩⟩, trivial⟩))) rfl rfl ?_
    refine L_v Tb_ok (v := .bool _) (av rfl (by refine ⟨?_, fun h => ?_, fun h => ?_⟩ <;> first | exact True.intro | exact ⟨h, True.intro⟩ | (refine ⟨?_, True.intro⟩; first | (rw [h]; done) | (rw [h]; rfl) | (simp [h]; done) | (simp at h hg ⊢; simp [h, hg]; done) | (simp_all; done) | (simp_all; omega)))) rfl ?_
    refine WL_nil ?_
    refine W_cond_f (b := _) rfl (by first | exact hc33 | rfl | decide | simp_all) ?_
    refine W_skip ?_
    refine W_seq ?_
    refine W_region rfl ?_
    refine L_v Tb_ok (v := .ptr _ _ _) (av rfl ⟨trivial, trivial⟩) rfl ?_
    first | (refine L_v Tb_ok (v := .ro _) (av rfl ⟨trivial, rfl⟩) rfl ?_) | (refine L_v Tb_ok (v := .app _ _) (av rfl ⟨trivial, rfl⟩) rfl ?_) | (refine L_v Tb_ok (v := .row _ _ _) (av rfl ⟨trivial, rfl⟩) rfl ?_) | (refine L_v Tb_ok (v := .nils) (av rfl ⟨trivial, rfl⟩) rfl ?_)
    refine L_v Tb_ok (v := .int _ _) (av rfl ⟨trivial, trivial⟩) rfl ?_
    refine L_v Tb_ok (v := .int _ _) (av rfl ⟨trivial, trivial⟩) rfl ?_
    first | (refine L_v Tb_ok (v := _) (ave_index_ro rfl rfl rfl (fun _ => rfl) rfl (by first | exact p1 | exact p2) (by first | exact p1 | exact p2) trivial) rfl ?_) | (refine L_v Tb_ok (v := _) (ave_index_app rfl rfl rfl (fun _ => rfl) rfl (by first | exact p1 | exact p2) (by first | exact p1 | exact p2) trivial) rfl ?_) | (refine L_v Tb_ok (v := _) (ave_index_row rfl rfl rfl rfl rfl rfl (by first | exact p1 | exact p2) (by first | exact p1 | exact p2) trivial) rfl ?_) | (refine L_v Tb_ok (v := .rptr _) (av rfl ⟨trivial, ⟨(by first | exact p1 | exact p2), (by first | exact p1 | exact p2)⟩, rfl⟩) rfl ?_) | (refine L_v Tb_ok (v := .ptr _ _ _) (av rfl ⟨trivial, ⟨(by first | exact p1 | exact p2), (by first | exact p1 | exact p2)⟩, rfl⟩) rfl ?_)
    refine L_v Tb_ok (v := .agg [.int _ _, .int _ _, .int _ _, .int _ _, .int _ _, .int _ _, .int _ _, .int _ _, .int _ _, .int _ _, .int _ _, .int _ _, _, _, .int _ _, .int _ _, .int _ _, .int _ _, .int _ _, .int _ _, .int _ _, .int _ _]) (av rfl ⟨trivial, rfl⟩) rfl ?_
    refine L_alloc Tb_ok (z := [.int .i64 0, .int .i64 0, .int .i64 0, .int .i64 0, .int .i64 0, .int .i64 0, .int .i64 0, .int .i64 0, .int .i64 0, .int .i64 0, .int .i64 0, .int .i64 0, .nils, .nils, .int .i64 0, .int .i64 0, .int .i64 0, .int .i64 0, .int .i64 0, .int .i64 0, .int .i64 0, .int .i64 0]) (n := 22) rfl rfl rfl rfl rfl ?_
    refine L_store Tb_ok (v := .agg [.int _ _, .int _ _, .int _ _, .int _ _, .int _ _, .int _ _, .int _ _, .int _ _, .int _ _, .int _ _, .int _ _, .int _ _, _, _, .int _ _, .int _ _, .int _ _, .int _ _, .int _ _, .int _ _, .int _ _, .int _ _]) (cs := [_, _, _, _, _, _, _, _, _, _, _, _, _, _, _, _, _, _, _, _, _, _]) (es' := [[_, _, _, _, _, _, _, _, _, _, _, _, _, _, _, _, _, _, _, _, _, _]]) rfl rfl rfl rfl rfl rfl rfl rfl rfl rfl ⟨trivial, trivial⟩ ?_
    refine WL_nil ?_
    refine W_seq ?_
    refine W_seq ?_
    refine W_region rfl ?_
    refine L_v Tb_ok (v := .ptr _ _ _) (av rfl ⟨trivial, trivial⟩) rfl ?_
    refine L_v Tb_ok (v := .int _ _) (av rfl ⟨trivial, rfl⟩) rfl ?_
    refine L_call (hr := ref08_Reduces _) rfl rfl trivial rfl rfl ?_
    refine L_v Tb_ok (v := .bool _) (av rfl ⟨trivial, trivial⟩) rfl ?_
    refine WL_nil ?_
    refine W_cond_t (b := _) rfl (by first | exact hc44 | rfl | decide | simp_all) ?_
    refine W_seq ?_
    refine W_region rfl ?_
    refine L_v Tb_ok (v := .agg [.int _ _, .int _ _, .int _ _, .int _ _, .int _ _, .int _ _, .int _ _, .int _ _, .int _ _, .int _ _, .int _ _, .int _ _, _, _, .int _ _, .int _ _, .int _ _, .int _ _, .int _ _, .int _ _, .int _ _, .int _ _, .int _ _, .int _ _, .int _ _, .int _ _, .int _ _, .int _ _]) (av rfl ⟨trivial, rfl⟩) rfl ?_
    refine L_store Tb_ok (v := .agg [.int _ _, .int _ _, .int _ _, .int _ _, .int _ _, .int _ _, .int _ _, .int _ _, .int _ _, .int _ _, .int _ _, .int _ _, _, _, .int _ _, .int _ _, .int _ _, .int _ _, .int _ _, .int _ _, .int _ _, .int _ _, .int _ _, .int _ _, .int _ _, .int _ _, .int _ _, .int _ _]) (cs := [_, _, _, _, _, _, _, _, _, _, _, _, _, _, _, _, _, _, _, _, _, _, _, _, _, _, _, _]) (es' := [[_, _, _, _, _, _, _, _, _, _, _, _, _, _, _, _, _, _, _, _, _, _, _, _, _, _, _, _]]) rfl rfl rfl rfl rfl rfl rfl rfl rfl rfl ⟨trivial, trivial⟩ ?_
    refine L_v Tb_ok (v := .int _ _) (av rfl ⟨trivial, trivial⟩) rfl ?_
    refine WL_nil ?_
    refine W_ret ?_
    refine ends (l := [.agg [.int _ _, .int _ _, .int _ _, .int _ _, .int _ _, .int _ _, .int _ _, .int _ _, .int _ _, .int _ _, .int _ _, .int _ _, _, _, .int _ _, .int _ _, .int _ _, .int _ _, .int _ _, .int _ _, .int _ _, .int _ _, .int _ _, .int _ _, .int _ _, .int _ _, .int _ _, .int _ _], .int _ _]) (q := .tup [.agg [.int _ _, .int _ _, .int _ _, .int _ _, .int _ _, .int _ _, .int _ _, .int _ _, .int _ _, .int _ _, .int _ _, .int _ _, _, _, .int _ _, .int _ _, .int _ _, .int _ _, .int _ _, .int _ _, .int _ _, .int _ _, .int _ _, .int _ _, .int _ _, .int _ _, .int _ _, .int _ _], .int _ _]) (.inr rfl) rfl ⟨rfl, trivial, trivial⟩ rfl rfl ?_
    simp [rfE, rfS, e, rsiteC, site0, opC, shapeC, demC]
  | false =>
  have hc44 : (!inB (m.Ops.getD (IntKind.i64.wrap (op - 1)).toNat default).Kind 1 4) = false := by rw [eo]; exact h3
  have e : findE m op = 0 := by simp [findE, h1, h2, h3]
  have eS : findS m op = ⟨opAt m op, aAt m op, (wholeF m).1.getD op.toNat default, lenAt m op⟩ := by simp [findS, h1, h2, h3]
  have q1 : 0 ≤ (m.Ops.getD (IntKind.i64.wrap (op - 1)).toNat default).A := by rw [eo]; exact o5
  have q2 : (m.Ops.getD (IntKind.i64.wrap (op - 1)).toNat default).A < ((wholeF m).1.length : Int) := by rw [eo]; exact o6
  have q3 : 0 ≤ op := by omega
  --@@4
  skip
  refine fn_ok Tb_ok (fn := Try.f18) Try.func18 rfl rfl (e := [(0, _), (1, _), (2, _)]) rfl (by decide) rfl ?_
  refine W_seq ?_
  refine W_region rfl ?_
  refine L_box Tb_ok (cs := [.int _ _, .int _ _, .int _ _, .int _ _, .int _ _, _, .int _ _]) (n := 7) rfl rfl rfl rfl trivial ?_
  refine L_alloc Tb_ok (z := [.int .i64 0, .int .i64 0, .int .i64 0, .int .i64 0, .int .i64 0, .int .i64 0, .int .i64 0, .int .i64 0, .int .i64 0, .int .i64 0, .int .i64 0, .int .i64 0, .nils, .nils, .int .i64 0, .int .i64 0, .int .i64 0, .int .i64 0, .int .i64 0, .int .i64 0, .int .i64 0, .int .i64 0, .int .i64 0, .int .i64 0, .int .i64 0, .int .i64 0, .int .i64 0, .int .i64 0]) (n := 28) rfl rfl rfl rfl rfl ?_
  refine L_v Tb_ok (v := .int _ _) (av rfl ⟨trivial, trivial⟩) rfl ?_
  refine WL_nil ?_
  refine W_seq ?_
  refine W_region rfl ?_
  refine L_v Tb_ok (v := .agg [.int _ _, .int _ _, .int _ _, .int _ _, .int _ _, _, .int _ _]) (av rfl ⟨trivial, rfl⟩) rfl ?_
  refine L_call (hr := ref08_Look m hm) rfl rfl trivial rfl rfl ?_
  refine L_v Tb_ok (v := .tup [_, _, _]) (av rfl ⟨trivial, trivial⟩) rfl ?_
  first | (refine L_v Tb_ok (v := .ro _) (av rfl ⟨trivial, trivial⟩) rfl ?_) | (refine L_v Tb_ok (v := .app _ _) (av rfl ⟨trivial, trivial⟩) rfl ?_) | (refine L_v Tb_ok (v := .row _ _ _) (av rfl ⟨trivial, trivial⟩) rfl ?_) | (refine L_v Tb_ok (v := .nils) (av rfl ⟨trivial, trivial⟩) rfl ?_)
  refine L_v Tb_ok (v := .int _ _) (av rfl ⟨trivial, trivial⟩) rfl ?_
  refine L_v Tb_ok (v := .agg [.int _ _, .int _ _, .int _ _]) (av rfl ⟨trivial, trivial⟩) rfl ?_
  refine L_alloc Tb_ok (z := [.int .i64 0, .int .i64 0, .int .i64 0]) (n := 3) rfl rfl rfl rfl rfl ?_
  first | (refine L_v Tb_ok (v := .ro _) (av rfl ⟨trivial, trivial⟩) rfl ?_) | (refine L_v Tb_ok (v := .app _ _) (av rfl ⟨trivial, trivial⟩) rfl ?_) | (refine L_v Tb_ok (v := .row _ _ _) (av rfl ⟨trivial, trivial⟩) rfl ?_) | (refine L_v Tb_ok (v := .nils) (av rfl ⟨trivial, trivial⟩) rfl ?_)
  refine L_v Tb_ok (v := .int _ _) (av rfl ⟨trivial, trivial⟩) rfl ?_
  refine L_store Tb_ok (v := .agg [.int _ _, .int _ _, .int _ _]) (cs := [_, _, _]) (es' := [[_, _, _]]) rfl rfl rfl rfl rfl rfl rfl rfl rfl rfl ⟨trivial, trivial⟩ ?_
  refine WL_nil ?_
  refine W_seq ?_
  refine W_seq ?_
  refine W_region rfl ?_
  refine L_v Tb_ok (v := .ptr _ _ _) (av rfl ⟨trivial, trivial⟩) rfl ?_
  refine L_v Tb_ok (v := .int _ _) (av rfl ⟨trivial, rfl⟩) rfl ?_
  refine L_v Tb_ok (v := .bool _) (av rfl ⟨trivial, trivial⟩) rfl ?_
  refine WL_nil ?_
  refine W_cond_f (b := _) rfl (by first | exact hc21 | rfl | decide | simp_all) ?_
  refine W_skip ?_
  refine W_seq ?_
  refine W_seq ?_
  refine W_region rfl ?_
  refine L_v Tb_ok (v := .int _ _) (av rfl ⟨trivial, trivial⟩) rfl ?_
  refine L_v Tb_ok (v := .bool _) (av rfl ⟨trivial, trivial⟩) rfl ?_
  refine L_v Tb_ok (v := .bool _) (av rfl ⟨trivial, trivial⟩) rfl ?_
  refine L_g Tb_ok (v := .int _ _) rfl rfl ((fun hg => (av rfl ⟨trivial, trivial⟩))) rfl rfl ?_
  refine L_g Tb_ok (v := .ptr _ _ _) rfl rfl ((fun hg => (av rfl ⟨trivial, trivial⟩))) rfl rfl ?_
  first | (refine L_g Tb_ok (v := .ro _) rfl rfl ((fun hg => (av rfl ⟨⟨⟨(by first | exact hg | (simp_all; done) | (simp at hg ⊢; simp [hg])), True.intro⟩, True.intro⟩, rfl⟩))) rfl rfl ?_) | (refine L_g Tb_ok (v := .app _ _) rfl rfl ((fun hg => (av rfl ⟨⟨⟨(by first | exact hg | (simp_all; done) | (simp at hg ⊢; simp [hg])), True.intro⟩, True.intro⟩, rfl⟩))) rfl rfl ?_) | (refine L_g Tb_ok (v := .row _ _ _) rfl rfl ((fun hg => (av rfl ⟨⟨⟨(by first | exact hg | (simp_all; done) | (simp at hg ⊢; simp [hg])), True.intro⟩, True.intro⟩, rfl⟩))) rfl rfl ?_) | (refine L_g Tb_ok (v := .nils) rfl rfl ((fun hg => (av rfl ⟨⟨⟨(by first | exact hg | (simp_all; done) | (simp at hg ⊢; simp [hg])), True.intro⟩, True.intro⟩, rfl⟩))) rfl rfl ?_)
  refine L_g Tb_ok (v := .int _ _) rfl rfl ((fun hg => (av rfl ⟨⟨⟨(by first | exact hg | (simp_all; done) | (simp at hg ⊢; simp [hg])), True.intro⟩, True.intro⟩, trivial⟩))) rfl rfl ?_
  refine L_g Tb_ok (v := .bool _) rfl rfl ((fun hg => (av rfl ⟨⟨⟨(by first | exact hg | (simp_all; done) | (simp at hg ⊢; simp [hg])), True.intro⟩, ⟨⟨(by first | exact hg | (simp_all; done) | (simp at hg ⊢; simp [hg])), True.intro⟩, True.intro⟩⟩, trivial⟩))) rfl rfl ?_
  refine L_v Tb_ok (v := .bool _) (av rfl (by refine ⟨?_, fun h => ?_, fun h => ?_⟩ <;> first | exact True.intro | exact ⟨h, True.intro⟩ | (refine ⟨?_, True.intro⟩; first | (rw [h]; done) | (rw [h]; rfl) | (simp [h]; done) | (simp at h hg ⊢; simp [h, hg]; done) | (simp_all; done) | (simp_all; omega)))) rfl ?_
  refine WL_nil ?_
  refine W_cond_f (b := _) rfl (by first | exact hc33 | rfl | decide | simp_all) ?_
  refine W_skip ?_
  refine W_seq ?_
  refine W_region rfl ?_
  refine L_v Tb_ok (v := .ptr _ _ _) (av rfl ⟨trivial, trivial⟩) rfl ?_
  first | (refine L_v Tb_ok (v := .ro _) (av rfl ⟨trivial, rfl⟩) rfl ?_) | (refine L_v Tb_ok (v := .app _ _) (av rfl ⟨trivial, rfl⟩) rfl ?_) | (refine L_v Tb_ok (v := .row _ _ _) (av rfl ⟨trivial, rfl⟩) rfl ?_) | (refine L_v Tb_ok (v := .nils) (av rfl ⟨trivial, rfl⟩) rfl ?_)
  refine L_v Tb_ok (v := .int _ _) (av rfl ⟨trivial, trivial⟩) rfl ?_
  refine L_v Tb_ok (v := .int _ _) (av rfl ⟨trivial, trivial⟩) rfl ?_
  first | (refine L_v Tb_ok (v := _) (ave_index_ro rfl rfl rfl (fun _ => rfl) rfl (by first | exact p1 | exact p2) (by first | exact p1 | exact p2) trivial) rfl ?_) | (refine L_v Tb_ok (v := _) (ave_index_app rfl rfl rfl (fun _ => rfl) rfl (by first | exact p1 | exact p2) (by first | exact p1 | exact p2) trivial) rfl ?_) | (refine L_v Tb_ok (v := _) (ave_index_row rfl rfl rfl rfl rfl rfl (by first | exact p1 | exact p2) (by first | exact p1 | exact p2) trivial) rfl ?_) | (refine L_v Tb_ok (v := .rptr _) (av rfl ⟨trivial, ⟨(by first | exact p1 | exact p2), (by first | exact p1 | exact p2)⟩, rfl⟩) rfl ?_) | (refine L_v Tb_ok (v := .ptr _ _ _) (av rfl ⟨trivial, ⟨(by first | exact p1 | exact p2), (by first | exact p1 | exact p2)⟩, rfl⟩) rfl ?_)
  refine L_v Tb_ok (v := .agg [.int _ _, .int _ _, .int _ _, .int _ _, .int _ _, .int _ _, .int _ _, .int _ _, .int _ _, .int _ _, .int _ _, .int _ _, _, _, .int _ _, .int _ _, .int _ _, .int _ _, .int _ _, .int _ _, .int _ _, .int _ _]) (av rfl ⟨trivial, rfl⟩) rfl ?_
  refine L_alloc Tb_ok (z := [.int .i64 0, .int .i64 0, .int .i64 0, .int .i64 0, .int .i64 0, .int .i64 0, .int .i64 0, .int .i64 0, .int .i64 0, .int .i64 0, .int .i64 0, .int .i64 0, .nils, .nils, .int .i64 0, .int .i64 0, .int .i64 0, .int .i64 0, .int .i64 0, .int .i64 0, .int .i64 0, .int .i64 0]) (n := 22) rfl rfl rfl rfl rfl ?_
  refine L_store Tb_ok (v := .agg [.int _ _, .int _ _, .int _ _, .int _ _, .int _ _, .int _ _, .int _ _, .int _ _, .int _ _, .int _ _, .int _ _, .int _ _, _, _, .int _ _, .int _ _, .int _ _, .int _ _, .int _ _, .int _ _, .int _ _, .int _ _]) (cs := [_, _, _, _, _, _, _, _, _, _, _, _, _, _, _, _, _, _, _, _, _, _]) (es' := [[_, _, _, _, _, _, _, _, _, _, _, _, _, _, _, _, _, _, _, _, _, _]]) rfl rfl rfl rfl rfl rfl rfl rfl rfl rfl ⟨trivial, trivial⟩ ?_
  refine WL_nil ?_
  refine W_seq ?_
  refine W_seq ?_
  refine W_region rfl ?_
  refine L_v Tb_ok (v := .ptr _ _ _) (av rfl ⟨trivial, trivial⟩) rfl ?_
  refine L_v Tb_ok (v := .int _ _) (av rfl ⟨trivial, rfl⟩) rfl ?_
  refine L_call (hr := ref08_Reduces _) rfl rfl trivial rfl rfl ?_
  refine L_v Tb_ok (v := .bool _) (av rfl ⟨trivial, trivial⟩) rfl ?_
  refine WL_nil ?_
  refine W_cond_f (b := _) rfl (by first | exact hc44 | rfl | decide | simp_all) ?_
  refine W_skip ?_
  refine W_seq ?_
  refine W_drawF (fun e => []) 11 [[11, 12]] Tb_mixed rfl (by decide) (by kernel_rfl) ?_
  refine S_v Tb_ok (v := .agg [.int _ _, .int _ _, .int _ _, .int _ _, .int _ _, .int _ _, .int _ _, .int _ _, .int _ _, .int _ _, .int _ _, .int _ _, _, _, .int _ _, .int _ _, .int _ _, .int _ _, .int _ _, .int _ _, .int _ _, .int _ _]) (av rfl ⟨trivial, rfl⟩) rfl ?_
  first | (refine S_v Tb_ok (v := .ro _) (av rfl ⟨trivial, trivial⟩) rfl ?_) | (refine S_v Tb_ok (v := .app _ _) (av rfl ⟨trivial, trivial⟩) rfl ?_) | (refine S_v Tb_ok (v := .row _ _ _) (av rfl ⟨trivial, trivial⟩) rfl ?_) | (refine S_v Tb_ok (v := .nils) (av rfl ⟨trivial, trivial⟩) rfl ?_)
  refine S_v Tb_ok (v := .ptr _ _ _) (av rfl ⟨trivial, trivial⟩) rfl ?_
  refine S_v Tb_ok (v := .int _ _) (av rfl ⟨trivial, rfl⟩) rfl ?_
  first | (refine S_v Tb_ok (v := _) (ave_index_ro rfl rfl rfl (fun _ => rfl) rfl (by first | exact q1 | exact q2) (by first | exact q1 | exact q2) trivial) rfl ?_) | (refine S_v Tb_ok (v := _) (ave_index_app rfl rfl rfl (fun _ => rfl) rfl (by first | exact q1 | exact q2) (by first | exact q1 | exact q2) trivial) rfl ?_) | (refine S_v Tb_ok (v := _) (ave_index_row rfl rfl rfl rfl rfl rfl (by first | exact q1 | exact q2) (by first | exact q1 | exact q2) trivial) rfl ?_) | (refine S_v Tb_ok (v := .rptr _) (av rfl ⟨trivial, ⟨(by first | exact q1 | exact q2), (by first | exact q1 | exact q2)⟩, rfl⟩) rfl ?_) | (refine S_v Tb_ok (v := .ptr _ _ _) (av rfl ⟨trivial, ⟨(by first | exact q1 | exact q2), (by first | exact q1 | exact q2)⟩, rfl⟩) rfl ?_)
  refine S_v Tb_ok (v := .agg [.int _ _, .int _ _, .int _ _]) (av rfl ⟨trivial, rfl⟩) rfl ?_
  first | (refine S_v Tb_ok (v := .ro _) (av rfl ⟨trivial, trivial⟩) rfl ?_) | (refine S_v Tb_ok (v := .app _ _) (av rfl ⟨trivial, trivial⟩) rfl ?_) | (refine S_v Tb_ok (v := .row _ _ _) (av rfl ⟨trivial, trivial⟩) rfl ?_) | (refine S_v Tb_ok (v := .nils) (av rfl ⟨trivial, trivial⟩) rfl ?_)
  refine S_v Tb_ok (v := .int _ _) (av rfl ⟨trivial, trivial⟩) rfl ?_
  first | (refine S_v Tb_ok (v := _) (ave_index_ro rfl rfl rfl (fun _ => rfl) rfl (by first | exact q3 | exact o4) (by first | exact q3 | exact o4) trivial) rfl ?_) | (refine S_v Tb_ok (v := _) (ave_index_app rfl rfl rfl (fun _ => rfl) rfl (by first | exact q3 | exact o4) (by first | exact q3 | exact o4) trivial) rfl ?_) | (refine S_v Tb_ok (v := _) (ave_index_row rfl rfl rfl rfl rfl rfl (by first | exact q3 | exact o4) (by first | exact q3 | exact o4) trivial) rfl ?_) | (refine S_v Tb_ok (v := .rptr _) (av rfl ⟨trivial, ⟨(by first | exact q3 | exact o4), (by first | exact q3 | exact o4)⟩, rfl⟩) rfl ?_) | (refine S_v Tb_ok (v := .ptr _ _ _) (av rfl ⟨trivial, ⟨(by first | exact q3 | exact o4), (by first | exact q3 | exact o4)⟩, rfl⟩) rfl ?_)
  refine S_v Tb_ok (v := .agg [.int _ _, .int _ _, .int _ _]) (av rfl ⟨trivial, rfl⟩) rfl ?_
  refine S_v Tb_ok (v := .agg [.int _ _, .int _ _, .int _ _, .int _ _, .int _ _, .int _ _, .int _ _, .int _ _, .int _ _, .int _ _, .int _ _, .int _ _, _, _, .int _ _, .int _ _, .int _ _, .int _ _, .int _ _, .int _ _, .int _ _, .int _ _, .int _ _, .int _ _, .int _ _, .int _ _, .int _ _, .int _ _]) (av rfl ⟨trivial, rfl⟩) rfl ?_
  refine S_nil ?_
  refine TT_one ?_
  refine TT_alloc Tb_ok (OSub_forget _ _) rfl (z := [.int .i64 0, .int .i64 0, .int .i64 0, .int .i64 0, .int .i64 0, .int .i64 0, .int .i64 0, .int .i64 0, .int .i64 0, .int .i64 0, .int .i64 0, .int .i64 0, .nils, .nils, .int .i64 0, .int .i64 0, .int .i64 0, .int .i64 0, .int .i64 0, .int .i64 0, .int .i64 0, .int .i64 0, .int .i64 0, .int .i64 0, .int .i64 0, .int .i64 0, .int .i64 0, .int .i64 0]) (n := 28) rfl rfl rfl rfl rfl rfl (fun ht1 => ?_)
  refine TT_store Tb_ok ht1 rfl (v := .agg [.int _ _, .int _ _, .int _ _, .int _ _, .int _ _, .int _ _, .int _ _, .int _ _, .int _ _, .int _ _, .int _ _, .int _ _, _, _, .int _ _, .int _ _, .int _ _, .int _ _, .int _ _, .int _ _, .int _ _, .int _ _, .int _ _, .int _ _, .int _ _, .int _ _, .int _ _, .int _ _]) (cs := [_, _, _, _, _, _, _, _, _, _, _, _, _, _, _, _, _, _, _, _, _, _, _, _, _, _, _, _]) (es' := [[_, _, _, _, _, _, _, _, _, _, _, _, _, _, _, _, _, _, _, _, _, _, _, _, _, _, _, _]]) rfl rfl rfl rfl rfl rfl rfl rfl rfl rfl rfl ⟨trivial, trivial⟩ (fun ht2 => ?_)
  refine TT_nil ?_
  clear ht1 ht2
  refine W_seq ?_
  refine W_seq ?_
  refine W_region rfl ?_
  refine L_v Tb_ok (v := .int _ _) (av rfl ⟨trivial, trivial⟩) rfl ?_
  refine L_v Tb_ok (v := .bool _) (av rfl ⟨trivial, trivial⟩) rfl ?_
  refine L_v Tb_ok (v := .bool _) (av rfl ⟨trivial, trivial⟩) rfl ?_
  refine L_g Tb_ok (v := .int _ _) rfl rfl ((fun hg => (av rfl ⟨trivial, trivial⟩))) rfl rfl ?_
  refine L_g Tb_ok (v := .ptr _ _ _) rfl rfl ((fun hg => (av rfl ⟨trivial, trivial⟩))) rfl rfl ?_
  refine L_g Tb_ok (v := .ptr _ _ _) rfl rfl ((fun hg => (av rfl ⟨⟨⟨(by first | exact hg | (simp_all; done) | (simp at hg ⊢; simp [hg])), True.intro⟩, True.intro⟩, trivial⟩))) rfl rfl ?_
  refine L_g Tb_ok (v := .int _ _) rfl rfl ((fun hg => (av rfl ⟨⟨⟨(by first | exact hg | (simp_all; done) | (simp at hg ⊢; simp [hg])), True.intro⟩, True.intro⟩, rfl⟩))) rfl rfl ?_
  refine L_g Tb_ok (v := .bool _) rfl rfl ((fun hg => (av rfl ⟨⟨⟨(by first | exact hg | (simp_all; done) | (simp at hg ⊢; simp [hg])), True.intro⟩, ⟨⟨(by first | exact hg | (simp_all; done) | (simp at hg ⊢; simp [hg])), True.intro⟩, True.intro⟩⟩, trivial⟩))) rfl rfl ?_
  refine L_v Tb_ok (v := .bool _) (av rfl (by refine ⟨?_, fun h => ?_, fun h => ?_⟩ <;> first | exact True.intro | exact ⟨h, True.intro⟩ | (refine ⟨?_, True.intro⟩; first | (rw [h]; done) | (rw [h]; rfl) | (simp [h]; done) | (simp at h hg ⊢; simp [h, hg]; done) | (simp_all; done) | (simp_all; omega)))) rfl ?_
  refine WL_nil ?_
  refine W_cond (b := _) rfl (fun h65 => ?_) (fun h65 => ?_)
  · have hb : (bif decide (ch < 0) then true else decide (ch > (findS m op).Out.C)) = true := by rw [eS]; exact h65
    refine W_seq ?_
    refine W_region rfl ?_
    refine L_v Tb_ok (v := .agg [.int _ _, .int _ _, .int _ _, .int _ _, .int _ _, .int _ _, .int _ _, .int _ _, .int _ _, .int _ _, .int _ _, .int _ _, _, _, .int _ _, .int _ _, .int _ _, .int _ _, .int _ _, .int _ _, .int _ _, .int _ _, .int _ _, .int _ _, .int _ _, .int _ _, .int _ _, .int _ _]) (av rfl ⟨trivial, rfl⟩) rfl ?_
    refine L_store Tb_ok (v := .agg [.int _ _, .int _ _, .int _ _, .int _ _, .int _ _, .int _ _, .int _ _, .int _ _, .int _ _, .int _ _, .int _ _, .int _ _, _, _, .int _ _, .int _ _, .int _ _, .int _ _, .int _ _, .int _ _, .int _ _, .int _ _, .int _ _, .int _ _, .int _ _, .int _ _, .int _ _, .int _ _]) (cs := [_, _, _, _, _, _, _, _, _, _, _, _, _, _, _, _, _, _, _, _, _, _, _, _, _, _, _, _]) (es' := [[_, _, _, _, _, _, _, _, _, _, _, _, _, _, _, _, _, _, _, _, _, _, _, _, _, _, _, _]]) rfl rfl rfl rfl rfl rfl rfl rfl rfl rfl ⟨trivial, trivial⟩ ?_
    refine L_v Tb_ok (v := .int _ _) (av rfl ⟨trivial, trivial⟩) rfl ?_
    refine WL_nil ?_
    refine W_ret ?_
    refine ends (l := [.agg [.int _ _, .int _ _, .int _ _, .int _ _, .int _ _, .int _ _, .int _ _, .int _ _, .int _ _, .int _ _, .int _ _, .int _ _, _, _, .int _ _, .int _ _, .int _ _, .int _ _, .int _ _, .int _ _, .int _ _, .int _ _, .int _ _, .int _ _, .int _ _, .int _ _, .int _ _, .int _ _], .int _ _]) (q := .tup [.agg [.int _ _, .int _ _, .int _ _, .int _ _, .int _ _, .int _ _, .int _ _, .int _ _, .int _ _, .int _ _, .int _ _, .int _ _, _, _, .int _ _, .int _ _, .int _ _, .int _ _, .int _ _, .int _ _, .int _ _, .int _ _, .int _ _, .int _ _, .int _ _, .int _ _, .int _ _, .int _ _], .int _ _]) (.inr rfl) rfl ⟨rfl, trivial, trivial⟩ rfl rfl ?_
    have r : rfE m op ch = 3 := by simp only [rfE, e, hb, if_true]
    simp [rfS, r, rsiteC, site0, opC, shapeC, demC]
  · have hb : (bif decide (ch < 0) then true else decide (ch > (findS m op).Out.C)) = false := by rw [eS]; exact h65
    refine W_skip ?_
    refine W_seq ?_
    refine W_region rfl ?_
    refine L_v Tb_ok (v := .agg [.int _ _, .int _ _, .int _ _, .int _ _, .int _ _, .int _ _, .int _ _, .int _ _, .int _ _, .int _ _, .int _ _, .int _ _, _, _, .int _ _, .int _ _, .int _ _, .int _ _, .int _ _, .int _ _, .int _ _, .int _ _, .int _ _, .int _ _, .int _ _, .int _ _, .int _ _, .int _ _]) (av rfl ⟨trivial, rfl⟩) rfl ?_
    refine L_store Tb_ok (v := .agg [.int _ _, .int _ _, .int _ _, .int _ _, .int _ _, .int _ _, .int _ _, .int _ _, .int _ _, .int _ _, .int _ _, .int _ _, _, _, .int _ _, .int _ _, .int _ _, .int _ _, .int _ _, .int _ _, .int _ _, .int _ _, .int _ _, .int _ _, .int _ _, .int _ _, .int _ _, .int _ _]) (cs := [_, _, _, _, _, _, _, _, _, _, _, _, _, _, _, _, _, _, _, _, _, _, _, _, _, _, _, _]) (es' := [[_, _, _, _, _, _, _, _, _, _, _, _, _, _, _, _, _, _, _, _, _, _, _, _, _, _, _, _]]) rfl rfl rfl rfl rfl rfl rfl rfl rfl rfl ⟨trivial, trivial⟩ ?_
    refine L_v Tb_ok (v := .int _ _) (av rfl ⟨trivial, trivial⟩) rfl ?_
    refine WL_nil ?_
    refine W_ret ?_
    refine ends (l := [.agg [.int _ _, .int _ _, .int _ _, .int _ _, .int _ _, .int _ _, .int _ _, .int _ _, .int _ _, .int _ _, .int _ _, .int _ _, _, _, .int _ _, .int _ _, .int _ _, .int _ _, .int _ _, .int _ _, .int _ _, .int _ _, .int _ _, .int _ _, .int _ _, .int _ _, .int _ _, .int _ _], .int _ _]) (q := .tup [.agg [.int _ _, .int _ _, .int _ _, .int _ _, .int _ _, .int _ _, .int _ _, .int _ _, .int _ _, .int _ _, .int _ _, .int _ _, _, _, .int _ _, .int _ _, .int _ _, .int _ _, .int _ _, .int _ _, .int _ _, .int _ _, .int _ _, .int _ _, .int _ _, .int _ _, .int _ _, .int _ _], .int _ _]) (.inr rfl) rfl ⟨rfl, trivial, trivial⟩ rfl rfl ?_
    have r : rfE m op ch = 0 := by simp [rfE, e, hb]
    have eS2 : findS m op = ⟨m.Ops.getD (IntKind.i64.wrap (op - 1)).toNat default, (wholeF m).1.getD (m.Ops.getD (IntKind.i64.wrap (op - 1)).toNat default).A.toNat default, (wholeF m).1.getD op.toNat default, lenAt m op⟩ := by rw [eS, eo]; rfl
    simp only [rfS, r, if_true, eS2]; rfl
def rcE (m : Model) (op ch : Int) : Int := if (rfE m op ch == 0 && ch == 0) then 3 else rfE m op ch
def rcS (m : Model) (op ch : Int) : Site := if (rfE m op ch == 0 && ch == 0) then site0 else rfS m op ch
theorem ref10_FindChan (m : Model) (hm : m.Wf) (op ch : Int) : Ok Try.prog 12 [.agg (modelC m), .int .i64 op, .int .i64 ch] (.tup [.agg (rsiteC (rcS m op ch)), .int .i64 (rcE m op ch)]) := by
  refine fn_ok Tb_ok (fn := Try.f12) Try.func12 rfl rfl (e := [(0, _), (1, _), (2, _)]) rfl (by decide) rfl ?_
  refine W_seq ?_
  refine W_region rfl ?_
  refine L_box Tb_ok (cs := [.int _ _, .int _ _, .int _ _, .int _ _, .int _ _, _, .int _ _]) (n := 7) rfl rfl rfl rfl trivial ?_
  refine L_alloc Tb_ok (z := [.int .i64 0, .int .i64 0, .int .i64 0, .int .i64 0, .int .i64 0, .int .i64 0, .int .i64 0, .int .i64 0, .int .i64 0, .int .i64 0, .int .i64 0, .int .i64 0, .nils, .nils, .int .i64 0, .int .i64 0, .int .i64 0, .int .i64 0, .int .i64 0, .int .i64 0, .int .i64 0, .int .i64 0, .int .i64 0, .int .i64 0, .int .i64 0, .int .i64 0, .int .i64 0, .int .i64 0]) (n := 28) rfl rfl rfl rfl rfl ?_
  refine L_v Tb_ok (v := .int _ _) (av rfl ⟨trivial, trivial⟩) rfl ?_
  refine WL_nil ?_
  refine W_seq ?_
  refine W_region rfl ?_
  refine L_v Tb_ok (v := .agg [.int _ _, .int _ _, .int _ _, .int _ _, .int _ _, _, .int _ _]) (av rfl ⟨trivial, rfl⟩) rfl ?_
  refine L_v Tb_ok (v := .int _ _) (av rfl ⟨trivial, trivial⟩) rfl ?_
  refine L_v Tb_ok (v := .int _ _) (av rfl ⟨trivial, trivial⟩) rfl ?_
  refine L_call (hr := ref10_Find m hm op ch) rfl rfl trivial rfl rfl ?_
  refine L_v Tb_ok (v := .tup [_, _]) (av rfl ⟨trivial, trivial⟩) rfl ?_
  refine L_v Tb_ok (v := .agg [.int _ _, .int _ _, .int _ _, .int _ _, .int _ _, .int _ _, .int _ _, .int _ _, .int _ _, .int _ _, .int _ _, .int _ _, _, _, .int _ _, .int _ _, .int _ _, .int _ _, .int _ _, .int _ _, .int _ _, .int _ _, .int _ _, .int _ _, .int _ _, .int _ _, .int _ _, .int _ _]) (av rfl ⟨trivial, trivial⟩) rfl ?_
  refine L_v Tb_ok (v := .int _ _) (av rfl ⟨trivial, trivial⟩) rfl ?_
  refine L_alloc Tb_ok (z := [.int .i64 0, .int .i64 0, .int .i64 0, .int .i64 0, .int .i64 0, .int .i64 0, .int .i64 0, .int .i64 0, .int .i64 0, .int .i64 0, .int .i64 0, .int .i64 0, .nils, .nils, .int .i64 0, .int .i64 0, .int .i64 0, .int .i64 0, .int .i64 0, .int .i64 0, .int .i64 0, .int .i64 0, .int .i64 0, .int .i64 0, .int .i64 0, .int .i64 0, .int .i64 0, .int .i64 0]) (n := 28) rfl rfl rfl rfl rfl ?_
  refine L_store Tb_ok (v := .agg [.int _ _, .int _ _, .int _ _, .int _ _, .int _ _, .int _ _, .int _ _, .int _ _, .int _ _, .int _ _, .int _ _, .int _ _, _, _, .int _ _, .int _ _, .int _ _, .int _ _, .int _ _, .int _ _, .int _ _, .int _ _, .int _ _, .int _ _, .int _ _, .int _ _, .int _ _, .int _ _]) (cs := [_, _, _, _, _, _, _, _, _, _, _, _, _, _, _, _, _, _, _, _, _, _, _, _, _, _, _, _]) (es' := [[_, _, _, _, _, _, _, _, _, _, _, _, _, _, _, _, _, _, _, _, _, _, _, _, _, _, _, _]]) rfl rfl rfl rfl rfl rfl rfl rfl rfl rfl ⟨trivial, trivial⟩ ?_
  refine L_v Tb_ok (v := .int _ _) (av rfl ⟨trivial, trivial⟩) rfl ?_
  refine WL_nil ?_
  refine W_seq ?_
  refine W_seq ?_
  refine W_region rfl ?_
  refine L_v Tb_ok (v := .int _ _) (av rfl ⟨trivial, trivial⟩) rfl ?_
  refine L_v Tb_ok (v := .bool _) (av rfl ⟨trivial, trivial⟩) rfl ?_
  refine L_v Tb_ok (v := .bool _) (av rfl ⟨trivial, trivial⟩) rfl ?_
  refine L_g Tb_ok (v := .int _ _) rfl rfl ((fun hg => (av rfl ⟨trivial, trivial⟩))) rfl rfl ?_
  refine L_g Tb_ok (v := .bool _) rfl rfl ((fun hg => (av rfl ⟨⟨⟨(by first | exact hg | (simp_all; done) | (simp at hg ⊢; simp [hg])), True.intro⟩, True.intro⟩, trivial⟩))) rfl rfl ?_
  refine L_v Tb_ok (v := .bool _) (av rfl (by refine ⟨?_, fun h => ?_, fun h => ?_⟩ <;> first | exact True.intro | exact ⟨h, True.intro⟩ | (refine ⟨?_, True.intro⟩; first | (rw [h]; done) | (rw [h]; rfl) | (simp [h]; done) | (simp at h hg ⊢; simp [h, hg]; done) | (simp_all; done) | (simp_all; omega)))) rfl ?_
  refine WL_nil ?_
  refine W_cond (b := _) rfl (fun h22 => ?_) (fun h22 => ?_)
  · have hb : (rfE m op ch == 0 && ch == 0) = true := by rw [← cond_x]; exact h22
    refine W_seq ?_
    refine W_region rfl ?_
    refine L_v Tb_ok (v := .agg [.int _ _, .int _ _, .int _ _, .int _ _, .int _ _, .int _ _, .int _ _, .int _ _, .int _ _, .int _ _, .int _ _, .int _ _, _, _, .int _ _, .int _ _, .int _ _, .int _ _, .int _ _, .int _ _, .int _ _, .int _ _, .int _ _, .int _ _, .int _ _, .int _ _, .int _ _, .int _ _]) (av rfl ⟨trivial, rfl⟩) rfl ?_
    refine L_store Tb_ok (v := .agg [.int _ _, .int _ _, .int _ _, .int _ _, .int _ _, .int _ _, .int _ _, .int _ _, .int _ _, .int _ _, .int _ _, .int _ _, _, _, .int _ _, .int _ _, .int _ _, .int _ _, .int _ _, .int _ _, .int _ _, .int _ _, .int _ _, .int _ _, .int _ _, .int _ _, .int _ _, .int _ _]) (cs := [_, _, _, _, _, _, _, _, _, _, _, _, _, _, _, _, _, _, _, _, _, _, _, _, _, _, _, _]) (es' := [[_, _, _, _, _, _, _, _, _, _, _, _, _, _, _, _, _, _, _, _, _, _, _, _, _, _, _, _]]) rfl rfl rfl rfl rfl rfl rfl rfl rfl rfl ⟨trivial, trivial⟩ ?_
    refine L_v Tb_ok (v := .int _ _) (av rfl ⟨trivial, trivial⟩) rfl ?_
    refine WL_nil ?_
    refine W_ret ?_
    refine ends (l := [.agg [.int _ _, .int _ _, .int _ _, .int _ _, .int _ _, .int _ _, .int _ _, .int _ _, .int _ _, .int _ _, .int _ _, .int _ _, _, _, .int _ _, .int _ _, .int _ _, .int _ _, .int _ _, .int _ _, .int _ _, .int _ _, .int _ _, .int _ _, .int _ _, .int _ _, .int _ _, .int _ _], .int _ _]) (q := .tup [.agg [.int _ _, .int _ _, .int _ _, .int _ _, .int _ _, .int _ _, .int _ _, .int _ _, .int _ _, .int _ _, .int _ _, .int _ _, _, _, .int _ _, .int _ _, .int _ _, .int _ _, .int _ _, .int _ _, .int _ _, .int _ _, .int _ _, .int _ _, .int _ _, .int _ _, .int _ _, .int _ _], .int _ _]) (.inr rfl) rfl ⟨rfl, trivial, trivial⟩ rfl rfl ?_
    simp only [rcE, rcS, hb, if_true]; rfl
  · have hb : (rfE m op ch == 0 && ch == 0) = false := by rw [← cond_x]; exact h22
    refine W_skip ?_
    refine W_seq ?_
    refine W_region rfl ?_
    refine L_v Tb_ok (v := .agg [.int _ _, .int _ _, .int _ _, .int _ _, .int _ _, .int _ _, .int _ _, .int _ _, .int _ _, .int _ _, .int _ _, .int _ _, _, _, .int _ _, .int _ _, .int _ _, .int _ _, .int _ _, .int _ _, .int _ _, .int _ _, .int _ _, .int _ _, .int _ _, .int _ _, .int _ _, .int _ _]) (av rfl ⟨trivial, rfl⟩) rfl ?_
    refine L_v Tb_ok (v := .int _ _) (av rfl ⟨trivial, trivial⟩) rfl ?_
    refine L_store Tb_ok (v := .agg [.int _ _, .int _ _, .int _ _, .int _ _, .int _ _, .int _ _, .int _ _, .int _ _, .int _ _, .int _ _, .int _ _, .int _ _, _, _, .int _ _, .int _ _, .int _ _, .int _ _, .int _ _, .int _ _, .int _ _, .int _ _, .int _ _, .int _ _, .int _ _, .int _ _, .int _ _, .int _ _]) (cs := [_, _, _, _, _, _, _, _, _, _, _, _, _, _, _, _, _, _, _, _, _, _, _, _, _, _, _, _]) (es' := [[_, _, _, _, _, _, _, _, _, _, _, _, _, _, _, _, _, _, _, _, _, _, _, _, _, _, _, _]]) rfl rfl rfl rfl rfl rfl rfl rfl rfl rfl ⟨trivial, trivial⟩ ?_
    refine L_v Tb_ok (v := .int _ _) (av rfl ⟨trivial, trivial⟩) rfl ?_
    refine WL_nil ?_
    refine W_ret ?_
    refine ends (l := [.agg [.int _ _, .int _ _, .int _ _, .int _ _, .int _ _, .int _ _, .int _ _, .int _ _, .int _ _, .int _ _, .int _ _, .int _ _, _, _, .int _ _, .int _ _, .int _ _, .int _ _, .int _ _, .int _ _, .int _ _, .int _ _, .int _ _, .int _ _, .int _ _, .int _ _, .int _ _, .int _ _], .int _ _]) (q := .tup [.agg [.int _ _, .int _ _, .int _ _, .int _ _, .int _ _, .int _ _, .int _ _, .int _ _, .int _ _, .int _ _, .int _ _, .int _ _, _, _, .int _ _, .int _ _, .int _ _, .int _ _, .int _ _, .int _ _, .int _ _, .int _ _, .int _ _, .int _ _, .int _ _, .int _ _, .int _ _, .int _ _], .int _ _]) (.inr rfl) rfl ⟨rfl, trivial, trivial⟩ rfl rfl ?_
    simp only [rcE, rcS, hb, Bool.false_eq_true, if_false]; rfl
theorem ref10_Positions (s : Site) : Ok Try.prog 13 [.agg (rsiteC s)] (.int .i64 (w64 (s.Out.H * s.Out.W))) := by
  refine fn_ok Tb_ok (fn := Try.f13) Try.func13 rfl rfl (e := [(0, _)]) rfl (by decide) rfl ?_
  refine W_seq ?_
  refine W_region rfl ?_
  refine L_box Tb_ok (cs := [.int _ _, .int _ _, .int _ _, .int _ _, .int _ _, .int _ _, .int _ _, .int _ _, .int _ _, .int _ _, .int _ _, .int _ _, _, _, .int _ _, .int _ _, .int _ _, .int _ _, .int _ _, .int _ _, .int _ _, .int _ _, .int _ _, .int _ _, .int _ _, .int _ _, .int _ _, .int _ _]) (n := 28) rfl rfl rfl rfl trivial ?_
  refine L_v Tb_ok (v := .int _ _) (av rfl ⟨trivial, trivial⟩) rfl ?_
  refine WL_nil ?_
  refine W_seq ?_
  refine W_region rfl ?_
  refine L_v Tb_ok (v := .ptr _ _ _) (av rfl ⟨trivial, trivial⟩) rfl ?_
  refine L_v Tb_ok (v := .ptr _ _ _) (av rfl ⟨trivial, trivial⟩) rfl ?_
  refine L_v Tb_ok (v := .int _ _) (av rfl ⟨trivial, rfl⟩) rfl ?_
  refine L_v Tb_ok (v := .ptr _ _ _) (av rfl ⟨trivial, trivial⟩) rfl ?_
  refine L_v Tb_ok (v := .ptr _ _ _) (av rfl ⟨trivial, trivial⟩) rfl ?_
  refine L_v Tb_ok (v := .int _ _) (av rfl ⟨trivial, rfl⟩) rfl ?_
  refine L_v Tb_ok (v := .int _ _) (av rfl ⟨trivial, trivial⟩) rfl ?_
  refine L_v Tb_ok (v := .int _ _) (av rfl ⟨trivial, trivial⟩) rfl ?_
  refine WL_nil ?_
  refine W_ret ?_
  refine ends (l := [.int _ _]) (q := .int _ _) (.inr rfl) rfl ⟨trivial, trivial⟩ rfl rfl ?_
  rfl
theorem ref10_Length (s : Site) : Ok Try.prog 22 [.agg (rsiteC s)] (.int .i64 (lenF s.Op s.In)) := by
  refine fn_ok Tb_ok (fn := Try.f22) Try.func22 rfl rfl (e := [(0, _)]) rfl (by decide) rfl ?_
  refine W_seq ?_
  refine W_region rfl ?_
  refine L_box Tb_ok (cs := [.int _ _, .int _ _, .int _ _, .int _ _, .int _ _, .int _ _, .int _ _, .int _ _, .int _ _, .int _ _, .int _ _, .int _ _, _, _, .int _ _, .int _ _, .int _ _, .int _ _, .int _ _, .int _ _, .int _ _, .int _ _, .int _ _, .int _ _, .int _ _, .int _ _, .int _ _, .int _ _]) (n := 28) rfl rfl rfl rfl trivial ?_
  refine L_v Tb_ok (v := .int _ _) (av rfl ⟨trivial, trivial⟩) rfl ?_
  refine WL_nil ?_
  refine W_seq ?_
  refine W_region rfl ?_
  refine L_v Tb_ok (v := .ptr _ _ _) (av rfl ⟨trivial, trivial⟩) rfl ?_
  refine L_v Tb_ok (v := .agg [.int _ _, .int _ _, .int _ _, .int _ _, .int _ _, .int _ _, .int _ _, .int _ _, .int _ _, .int _ _, .int _ _, .int _ _, _, _, .int _ _, .int _ _, .int _ _, .int _ _, .int _ _, .int _ _, .int _ _, .int _ _]) (av rfl ⟨trivial, rfl⟩) rfl ?_
  refine L_v Tb_ok (v := .ptr _ _ _) (av rfl ⟨trivial, trivial⟩) rfl ?_
  refine L_v Tb_ok (v := .agg [.int _ _, .int _ _, .int _ _]) (av rfl ⟨trivial, rfl⟩) rfl ?_
  refine L_call (hr := ref08_Length s.Op s.In) rfl rfl trivial rfl rfl ?_
  refine L_v Tb_ok (v := .int _ _) (av rfl ⟨trivial, trivial⟩) rfl ?_
  refine WL_nil ?_
  refine W_ret ?_
  refine ends (l := [.int _ _]) (q := .int _ _) (.inr rfl) rfl ⟨trivial, trivial⟩ rfl rfl ?_
  rfl
theorem ref10_Bias (s : Site) (ch : Int) (h : s.Op.Kind ≠ 4 → 0 ≤ w64 (ch - 1) ∧ w64 (ch - 1) < s.Op.Bias.length) : Ok Try.prog 17 [.agg (rsiteC s), .int .i64 ch] (.int .i64 (if s.Op.Kind = 4 then 0 else w64 (s.Op.Bias.getD (w64 (ch - 1)).toNat default))) := by
  refine fn_ok Tb_ok (fn := Try.f17) Try.func17 rfl rfl (e := [(0, _), (1, _)]) rfl (by decide) rfl ?_
  refine W_seq ?_
  refine W_region rfl ?_
  refine L_box Tb_ok (cs := [.int _ _, .int _ _, .int _ _, .int _ _, .int _ _, .int _ _, .int _ _, .int _ _, .int _ _, .int _ _, .int _ _, .int _ _, _, _, .int _ _, .int _ _, .int _ _, .int _ _, .int _ _, .int _ _, .int _ _, .int _ _, .int _ _, .int _ _, .int _ _, .int _ _, .int _ _, .int _ _]) (n := 28) rfl rfl rfl rfl trivial ?_
  refine L_v Tb_ok (v := .int _ _) (av rfl ⟨trivial, trivial⟩) rfl ?_
  refine WL_nil ?_
  refine W_seq ?_
  refine W_seq ?_
  refine W_region rfl ?_
  refine L_v Tb_ok (v := .ptr _ _ _) (av rfl ⟨trivial, trivial⟩) rfl ?_
  refine L_v Tb_ok (v := .ptr _ _ _) (av rfl ⟨trivial, trivial⟩) rfl ?_
  refine L_v Tb_ok (v := .int _ _) (av rfl ⟨trivial, rfl⟩) rfl ?_
  refine L_v Tb_ok (v := .bool _) (av rfl ⟨trivial, trivial⟩) rfl ?_
  refine WL_nil ?_
  refine W_cond (b := _) rfl (fun h8 => ?_) (fun h8 => ?_)
  · refine W_seq ?_
    refine W_region rfl ?_
    refine L_v Tb_ok (v := .int _ _) (av rfl ⟨trivial, trivial⟩) rfl ?_
    refine WL_nil ?_
    refine W_ret ?_
    refine ends (l := [.int _ _]) (q := .int _ _) (.inr rfl) rfl ⟨trivial, trivial⟩ rfl rfl ?_
    have hk : s.Op.Kind = 4 := by simpa using h8
    simp [hk]
  · have hk : s.Op.Kind ≠ 4 := by simpa using h8
    obtain ⟨b0, b1⟩ := h hk
    refine W_skip ?_
    refine W_seq ?_
    refine W_region rfl ?_
    refine L_v Tb_ok (v := .ptr _ _ _) (av rfl ⟨trivial, trivial⟩) rfl ?_
    refine L_v Tb_ok (v := .ptr _ _ _) (av rfl ⟨trivial, trivial⟩) rfl ?_
    first | (refine L_v Tb_ok (v := .ro _) (av rfl ⟨trivial, rfl⟩) rfl ?_) | (refine L_v Tb_ok (v := .app _ _) (av rfl ⟨trivial, rfl⟩) rfl ?_) | (refine L_v Tb_ok (v := .row _ _ _) (av rfl ⟨trivial, rfl⟩) rfl ?_) | (refine L_v Tb_ok (v := .nils) (av rfl ⟨trivial, rfl⟩) rfl ?_)
    refine L_v Tb_ok (v := .int _ _) (av rfl ⟨trivial, trivial⟩) rfl ?_
    refine L_v Tb_ok (v := .int _ _) (av rfl ⟨trivial, trivial⟩) rfl ?_
    first | (refine L_v Tb_ok (v := _) (ave_index_ro rfl rfl rfl (fun _ => rfl) rfl (by first | exact b0 | exact b1) (by first | exact b0 | exact b1) trivial) rfl ?_) | (refine L_v Tb_ok (v := _) (ave_index_app rfl rfl rfl (fun _ => rfl) rfl (by first | exact b0 | exact b1) (by first | exact b0 | exact b1) trivial) rfl ?_) | (refine L_v Tb_ok (v := _) (ave_index_row rfl rfl rfl rfl rfl rfl (by first | exact b0 | exact b1) (by first | exact b0 | exact b1) trivial) rfl ?_) | (refine L_v Tb_ok (v := .rptr _) (av rfl ⟨trivial, ⟨(by first | exact b0 | exact b1), (by first | exact b0 | exact b1)⟩, rfl⟩) rfl ?_) | (refine L_v Tb_ok (v := .ptr _ _ _) (av rfl ⟨trivial, ⟨(by first | exact b0 | exact b1), (by first | exact b0 | exact b1)⟩, rfl⟩) rfl ?_)
    refine L_v Tb_ok (v := .int _ _) (av rfl ⟨trivial, rfl⟩) rfl ?_
    refine L_v Tb_ok (v := .int _ _) (av rfl ⟨trivial, trivial⟩) rfl ?_
    refine L_v Tb_ok (v := .int _ _) (av rfl ⟨trivial, trivial⟩) rfl ?_
    refine WL_nil ?_
    refine W_ret ?_
    refine ends (l := [.int _ _]) (q := .int _ _) (.inr rfl) rfl ⟨trivial, trivial⟩ rfl rfl ?_
    rw [if_neg hk]; rfl
theorem lenF_site {m : Model} {op : Int} (h : findE m op = 0) : lenF (findS m op).Op (findS m op).In = (findS m op).Len := by
  obtain ⟨hS, _, _, _, e⟩ := site_ok h
  have hk := hS.kind
  rw [e] at hk ⊢
  dsimp only at hk ⊢
  unfold lenF lenAt
  by_cases k1 : (opAt m op).Kind = 1
  · simp [k1]
  · have z1 : ((opAt m op).Kind == 1) = false := by simpa using k1
    by_cases k2 : (opAt m op).Kind = 2
    · simp [k2]
    · have z2 : ((opAt m op).Kind == 2) = false := by simpa using k2
      rw [z1, z2, if_neg k1, if_neg k2]; rfl
end Go.AM
end
section
open Go Go.AM Go.Proofs
set_option maxRecDepth 10000
set_option linter.unusedVariables false
set_option linter.unusedSimpArgs false
namespace Go.AM
theorem law10_fixed : Ok Try.prog 14 [] (.bool true) := by
  have h1 := terms_Of mPlain 1 1 0
  have h2 := terms_Of mPlain 1 2 0
  have h3 := terms_Length mPlain 1
  have h4 := law10_same [⟨3, 0⟩, ⟨-2, 1⟩] [⟨3, 0⟩, ⟨-2, 1⟩] (by decide)
  rw [show termsF mPlain 1 1 0 = [⟨3, 0⟩, ⟨-2, 1⟩] by decide +kernel, show biasF mPlain 1 1 0 = 1 by decide +kernel, show ofE mPlain 1 1 0 = 0 by decide +kernel] at h1
  rw [show termsF mPlain 1 2 0 = [] by decide +kernel, show biasF mPlain 1 2 0 = 0 by decide +kernel, show ofE mPlain 1 2 0 = 3 by decide +kernel] at h2
  rw [show (findS mPlain 1).Len = 2 by decide +kernel, show findE mPlain 1 = 0 by decide +kernel] at h3
  rw [show decide (([⟨3, 0⟩, ⟨-2, 1⟩] : List Term) = [⟨3, 0⟩, ⟨-2, 1⟩]) = true by decide +kernel] at h4
  refine fn_ok Tb_ok (fn := Try.f14) Try.func14 rfl rfl (e := []) rfl (by decide) rfl ?_
  refine W_seq ?_
  refine W_region rfl ?_
  refine L_v Tb_ok (v := .bool _) (av rfl ⟨trivial, trivial⟩) rfl ?_
  refine WL_nil ?_
  refine W_seq ?_
  refine W_region rfl ?_
  refine L_call (hr := law10_plain) rfl rfl trivial rfl rfl ?_
  refine L_call (hr := h1) rfl rfl trivial rfl rfl ?_
  refine L_v Tb_ok (v := .tup [_, _, _]) (av rfl ⟨trivial, trivial⟩) rfl ?_
  first | (refine L_v Tb_ok (v := .ro _) (av rfl ⟨trivial, trivial⟩) rfl ?_) | (refine L_v Tb_ok (v := .app _ _) (av rfl ⟨trivial, trivial⟩) rfl ?_) | (refine L_v Tb_ok (v := .row _ _ _) (av rfl ⟨trivial, trivial⟩) rfl ?_) | (refine L_v Tb_ok (v := .nils) (av rfl ⟨trivial, trivial⟩) rfl ?_)
  refine L_v Tb_ok (v := .int _ _) (av rfl ⟨trivial, trivial⟩) rfl ?_
  refine L_v Tb_ok (v := .int _ _) (av rfl ⟨trivial, trivial⟩) rfl ?_
  first | (refine L_v Tb_ok (v := .ro _) (av rfl ⟨trivial, trivial⟩) rfl ?_) | (refine L_v Tb_ok (v := .app _ _) (av rfl ⟨trivial, trivial⟩) rfl ?_) | (refine L_v Tb_ok (v := .row _ _ _) (av rfl ⟨trivial, trivial⟩) rfl ?_) | (refine L_v Tb_ok (v := .nils) (av rfl ⟨trivial, trivial⟩) rfl ?_)
  refine L_v Tb_ok (v := .int _ _) (av rfl ⟨trivial, trivial⟩) rfl ?_
  refine L_v Tb_ok (v := .int _ _) (av rfl ⟨trivial, trivial⟩) rfl ?_
  refine WL_nil ?_
  refine W_seq ?_
  refine W_region rfl ?_
  refine L_call (hr := law10_plain) rfl rfl trivial rfl rfl ?_
  refine L_call (hr := h3) rfl rfl trivial rfl rfl ?_
  refine L_v Tb_ok (v := .tup [_, _]) (av rfl ⟨trivial, trivial⟩) rfl ?_
  refine L_v Tb_ok (v := .int _ _) (av rfl ⟨trivial, trivial⟩) rfl ?_
  refine L_v Tb_ok (v := .int _ _) (av rfl ⟨trivial, trivial⟩) rfl ?_
  refine L_v Tb_ok (v := .int _ _) (av rfl ⟨trivial, trivial⟩) rfl ?_
  refine L_v Tb_ok (v := .int _ _) (av rfl ⟨trivial, trivial⟩) rfl ?_
  refine WL_nil ?_
  refine W_seq ?_
  refine W_region rfl ?_
  refine L_call (hr := law10_plain) rfl rfl trivial rfl rfl ?_
  refine L_call (hr := h2) rfl rfl trivial rfl rfl ?_
  refine L_v Tb_ok (v := .tup [_, _, _]) (av rfl ⟨trivial, trivial⟩) rfl ?_
  first | (refine L_v Tb_ok (v := .ro _) (av rfl ⟨trivial, trivial⟩) rfl ?_) | (refine L_v Tb_ok (v := .app _ _) (av rfl ⟨trivial, trivial⟩) rfl ?_) | (refine L_v Tb_ok (v := .row _ _ _) (av rfl ⟨trivial, trivial⟩) rfl ?_) | (refine L_v Tb_ok (v := .nils) (av rfl ⟨trivial, trivial⟩) rfl ?_)
  refine L_v Tb_ok (v := .int _ _) (av rfl ⟨trivial, trivial⟩) rfl ?_
  refine L_v Tb_ok (v := .int _ _) (av rfl ⟨trivial, trivial⟩) rfl ?_
  first | (refine L_v Tb_ok (v := .ro _) (av rfl ⟨trivial, trivial⟩) rfl ?_) | (refine L_v Tb_ok (v := .app _ _) (av rfl ⟨trivial, trivial⟩) rfl ?_) | (refine L_v Tb_ok (v := .row _ _ _) (av rfl ⟨trivial, trivial⟩) rfl ?_) | (refine L_v Tb_ok (v := .nils) (av rfl ⟨trivial, trivial⟩) rfl ?_)
  refine L_v Tb_ok (v := .int _ _) (av rfl ⟨trivial, trivial⟩) rfl ?_
  refine L_v Tb_ok (v := .int _ _) (av rfl ⟨trivial, trivial⟩) rfl ?_
  refine WL_nil ?_
  refine W_seq ?_
  refine W_region rfl ?_
  first | (refine L_v Tb_ok (v := .ro _) (av rfl ⟨trivial, trivial⟩) rfl ?_) | (refine L_v Tb_ok (v := .app _ _) (av rfl ⟨trivial, trivial⟩) rfl ?_) | (refine L_v Tb_ok (v := .row _ _ _) (av rfl ⟨trivial, trivial⟩) rfl ?_) | (refine L_v Tb_ok (v := .nils) (av rfl ⟨trivial, trivial⟩) rfl ?_)
  refine L_v Tb_ok (v := .agg [.int _ _, .int _ _]) (av rfl ⟨trivial, rfl⟩) rfl ?_
  refine L_v Tb_ok (v := .agg [.int _ _, .int _ _]) (av rfl ⟨trivial, rfl⟩) rfl ?_
  refine L_build Tb_ok (t := 29) (len := 2) (el := 52) (sz := 2) (es := [[_, _], [_, _]]) (z := [.int .i64 0, .int .i64 0]) rfl rfl rfl rfl rfl (by decide) trivial rfl rfl rfl rfl rfl ?_
  refine L_freeze (t := 29) (l := _) rfl rfl rfl rfl rfl rfl rfl ?_
  refine L_call (hr := h4) rfl rfl trivial rfl rfl ?_
  refine L_v Tb_ok (v := .bool _) (av rfl ⟨trivial, trivial⟩) rfl ?_
  refine L_g Tb_ok (v := .int _ _) rfl rfl ((fun hg => (av rfl ⟨trivial, trivial⟩))) rfl rfl ?_
  refine L_g Tb_ok (v := .bool _) rfl rfl ((fun hg => (av rfl ⟨⟨⟨(by first | exact hg | (simp_all; done) | (simp at hg ⊢; simp [hg])), True.intro⟩, True.intro⟩, trivial⟩))) rfl rfl ?_
  refine L_v Tb_ok (v := .bool _) (av rfl (by refine ⟨?_, fun h => ?_, fun h => ?_⟩ <;> first | exact True.intro | exact ⟨h, True.intro⟩ | (refine ⟨?_, True.intro⟩; first | (rw [h]; done) | (rw [h]; rfl) | (simp [h]; done) | (simp at h hg ⊢; simp [h, hg]; done) | (simp_all; done) | (simp_all; omega)))) rfl ?_
  refine L_v Tb_ok (v := .bool _) (av rfl ⟨trivial, trivial⟩) rfl ?_
  refine L_g Tb_ok (v := .int _ _) rfl rfl ((fun hg => (av rfl ⟨trivial, trivial⟩))) rfl rfl ?_
  refine L_g Tb_ok (v := .bool _) rfl rfl ((fun hg => (av rfl ⟨⟨⟨(by first | exact hg | (simp_all; done) | (simp at hg ⊢; simp [hg])), True.intro⟩, True.intro⟩, trivial⟩))) rfl rfl ?_
  refine L_v Tb_ok (v := .bool _) (av rfl (by refine ⟨?_, fun h => ?_, fun h => ?_⟩ <;> first | exact True.intro | exact ⟨h, True.intro⟩ | (refine ⟨?_, True.intro⟩; first | (rw [h]; done) | (rw [h]; rfl) | (simp [h]; done) | (simp at h hg ⊢; simp [h, hg]; done) | (simp_all; done) | (simp_all; omega)))) rfl ?_
  refine L_v Tb_ok (v := .bool _) (av rfl ⟨trivial, trivial⟩) rfl ?_
  refine L_g Tb_ok (v := .int _ _) rfl rfl ((fun hg => (av rfl ⟨trivial, trivial⟩))) rfl rfl ?_
  refine L_g Tb_ok (v := .bool _) rfl rfl ((fun hg => (av rfl ⟨⟨⟨(by first | exact hg | (simp_all; done) | (simp at hg ⊢; simp [hg])), True.intro⟩, True.intro⟩, trivial⟩))) rfl rfl ?_
  refine L_v Tb_ok (v := .bool _) (av rfl (by refine ⟨?_, fun h => ?_, fun h => ?_⟩ <;> first | exact True.intro | exact ⟨h, True.intro⟩ | (refine ⟨?_, True.intro⟩; first | (rw [h]; done) | (rw [h]; rfl) | (simp [h]; done) | (simp at h hg ⊢; simp [h, hg]; done) | (simp_all; done) | (simp_all; omega)))) rfl ?_
  refine L_v Tb_ok (v := .bool _) (av rfl ⟨trivial, trivial⟩) rfl ?_
  refine L_g Tb_ok (v := .int _ _) rfl rfl ((fun hg => (av rfl ⟨trivial, trivial⟩))) rfl rfl ?_
  refine L_g Tb_ok (v := .bool _) rfl rfl ((fun hg => (av rfl ⟨⟨⟨(by first | exact hg | (simp_all; done) | (simp at hg ⊢; simp [hg])), True.intro⟩, True.intro⟩, trivial⟩))) rfl rfl ?_
  refine L_v Tb_ok (v := .bool _) (av rfl (by refine ⟨?_, fun h => ?_, fun h => ?_⟩ <;> first | exact True.intro | exact ⟨h, True.intro⟩ | (refine ⟨?_, True.intro⟩; first | (rw [h]; done) | (rw [h]; rfl) | (simp [h]; done) | (simp at h hg ⊢; simp [h, hg]; done) | (simp_all; done) | (simp_all; omega)))) rfl ?_
  refine L_v Tb_ok (v := .bool _) (av rfl ⟨trivial, trivial⟩) rfl ?_
  refine L_g Tb_ok (v := .int _ _) rfl rfl ((fun hg => (av rfl ⟨trivial, trivial⟩))) rfl rfl ?_
  refine L_g Tb_ok (v := .bool _) rfl rfl ((fun hg => (av rfl ⟨⟨⟨(by first | exact hg | (simp_all; done) | (simp at hg ⊢; simp [hg])), True.intro⟩, True.intro⟩, trivial⟩))) rfl rfl ?_
  refine L_v Tb_ok (v := .bool _) (av rfl (by refine ⟨?_, fun h => ?_, fun h => ?_⟩ <;> first | exact True.intro | exact ⟨h, True.intro⟩ | (refine ⟨?_, True.intro⟩; first | (rw [h]; done) | (rw [h]; rfl) | (simp [h]; done) | (simp at h hg ⊢; simp [h, hg]; done) | (simp_all; done) | (simp_all; omega)))) rfl ?_
  refine L_v Tb_ok (v := .bool _) (av rfl ⟨trivial, trivial⟩) rfl ?_
  refine WL_nil ?_
  refine W_ret ?_
  refine ends (l := [.bool _]) (q := .bool _) (.inr rfl) rfl ⟨trivial, trivial⟩ rfl rfl ?_
  rfl
end Go.AM
end
section
open Go Go.AM Go.Proofs
set_option maxRecDepth 10000
set_option linter.unusedVariables false
set_option linter.unusedSimpArgs false
namespace Go.AM
theorem termsCounts (m : Model) (hm : m.Wf) (op : Int) (ho : (Lit.int .i64 op).wf = true) : Ok Try.prog 5 [.agg (modelC m), .int .i64 op] (.bool true) := by
  have hF := ref10_Find m hm op 0
  have hE : rfE m op 0 = findE m op := by
    unfold rfE
    split
    · rename_i h0
      obtain ⟨hS, _⟩ := site_ok h0
      have B := shapeB_iff.1 hS.outB
      have c1 : ¬ (0 : Int) > (findS m op).Out.C := by omega
      simp [c1, h0]
    · rfl
  have hS : rfS m op 0 = findS m op := by
    unfold rfS
    rw [hE]
    split
    · rfl
    · rename_i h0
      have : fi1 m = true ∨ (fi1 m = false ∧ fi2 m op = true) ∨ (fi1 m = false ∧ fi2 m op = false ∧ fi3 m op = true) := by
        cases h1 : fi1 m <;> cases h2 : fi2 m op <;> cases h3 : fi3 m op <;> simp [findE, h1, h2, h3] at h0 ⊢
      rcases this with h1 | ⟨h1, h2⟩ | ⟨h1, h2, h3⟩ <;> simp [findS, *]
  rw [hE, hS] at hF
  have z : findE m op ≠ 0 → findS m op = site0 := fun h => by rw [← hS]; unfold rfS; rw [hE, if_neg h]
  refine fn_ok Tb_ok (fn := Try.f5) Try.func5 rfl rfl (e := [(0, _), (1, _)]) rfl (by decide) rfl ?_
  refine W_seq ?_
  refine W_region rfl ?_
  refine L_box Tb_ok (cs := [.int _ _, .int _ _, .int _ _, .int _ _, .int _ _, _, .int _ _]) (n := 7) rfl rfl rfl rfl trivial ?_
  refine L_v Tb_ok (v := .bool _) (av rfl ⟨trivial, trivial⟩) rfl ?_
  refine WL_nil ?_
  refine W_seq ?_
  refine W_region rfl ?_
  refine L_v Tb_ok (v := .agg [.int _ _, .int _ _, .int _ _, .int _ _, .int _ _, _, .int _ _]) (av rfl ⟨trivial, rfl⟩) rfl ?_
  refine L_v Tb_ok (v := .int _ _) (av rfl ⟨trivial, trivial⟩) rfl ?_
  refine L_call (hr := hF) rfl rfl trivial rfl rfl ?_
  refine L_v Tb_ok (v := .tup [_, _]) (av rfl ⟨trivial, trivial⟩) rfl ?_
  refine L_v Tb_ok (v := .agg [.int _ _, .int _ _, .int _ _, .int _ _, .int _ _, .int _ _, .int _ _, .int _ _, .int _ _, .int _ _, .int _ _, .int _ _, _, _, .int _ _, .int _ _, .int _ _, .int _ _, .int _ _, .int _ _, .int _ _, .int _ _, .int _ _, .int _ _, .int _ _, .int _ _, .int _ _, .int _ _]) (av rfl ⟨trivial, trivial⟩) rfl ?_
  refine L_v Tb_ok (v := .int _ _) (av rfl ⟨trivial, trivial⟩) rfl ?_
  refine L_alloc Tb_ok (z := [.int .i64 0, .int .i64 0, .int .i64 0, .int .i64 0, .int .i64 0, .int .i64 0, .int .i64 0, .int .i64 0, .int .i64 0, .int .i64 0, .int .i64 0, .int .i64 0, .nils, .nils, .int .i64 0, .int .i64 0, .int .i64 0, .int .i64 0, .int .i64 0, .int .i64 0, .int .i64 0, .int .i64 0, .int .i64 0, .int .i64 0, .int .i64 0, .int .i64 0, .int .i64 0, .int .i64 0]) (n := 28) rfl rfl rfl rfl rfl ?_
  refine L_store Tb_ok (v := .agg [.int _ _, .int _ _, .int _ _, .int _ _, .int _ _, .int _ _, .int _ _, .int _ _, .int _ _, .int _ _, .int _ _, .int _ _, _, _, .int _ _, .int _ _, .int _ _, .int _ _, .int _ _, .int _ _, .int _ _, .int _ _, .int _ _, .int _ _, .int _ _, .int _ _, .int _ _, .int _ _]) (cs := [_, _, _, _, _, _, _, _, _, _, _, _, _, _, _, _, _, _, _, _, _, _, _, _, _, _, _, _]) (es' := [[_, _, _, _, _, _, _, _, _, _, _, _, _, _, _, _, _, _, _, _, _, _, _, _, _, _, _, _]]) rfl rfl rfl rfl rfl rfl rfl rfl rfl rfl ⟨trivial, trivial⟩ ?_
  refine L_v Tb_ok (v := .int _ _) (av rfl ⟨trivial, trivial⟩) rfl ?_
  refine WL_nil ?_
  refine W_seq ?_
  refine W_region rfl ?_
  refine L_v Tb_ok (v := .agg [.int _ _, .int _ _, .int _ _, .int _ _, .int _ _, _, .int _ _]) (av rfl ⟨trivial, rfl⟩) rfl ?_
  refine L_v Tb_ok (v := .int _ _) (av rfl ⟨trivial, trivial⟩) rfl ?_
  refine L_call (hr := terms_Length m op) rfl rfl trivial rfl rfl ?_
  refine L_v Tb_ok (v := .tup [_, _]) (av rfl ⟨trivial, trivial⟩) rfl ?_
  refine L_v Tb_ok (v := .int _ _) (av rfl ⟨trivial, trivial⟩) rfl ?_
  refine L_v Tb_ok (v := .int _ _) (av rfl ⟨trivial, trivial⟩) rfl ?_
  refine L_v Tb_ok (v := .int _ _) (av rfl ⟨trivial, trivial⟩) rfl ?_
  refine L_v Tb_ok (v := .int _ _) (av rfl ⟨trivial, trivial⟩) rfl ?_
  refine WL_nil ?_
  refine W_seq ?_
  refine W_region rfl ?_
  refine L_v Tb_ok (v := .agg [.int _ _, .int _ _, .int _ _, .int _ _, .int _ _, _, .int _ _]) (av rfl ⟨trivial, rfl⟩) rfl ?_
  refine L_v Tb_ok (v := .int _ _) (av rfl ⟨trivial, trivial⟩) rfl ?_
  refine L_call (hr := terms_Channels m op) rfl rfl trivial rfl rfl ?_
  refine L_v Tb_ok (v := .tup [_, _]) (av rfl ⟨trivial, trivial⟩) rfl ?_
  refine L_v Tb_ok (v := .int _ _) (av rfl ⟨trivial, trivial⟩) rfl ?_
  refine L_v Tb_ok (v := .int _ _) (av rfl ⟨trivial, trivial⟩) rfl ?_
  refine L_v Tb_ok (v := .int _ _) (av rfl ⟨trivial, trivial⟩) rfl ?_
  refine L_v Tb_ok (v := .int _ _) (av rfl ⟨trivial, trivial⟩) rfl ?_
  refine WL_nil ?_
  refine W_seq ?_
  refine W_region rfl ?_
  refine L_v Tb_ok (v := .agg [.int _ _, .int _ _, .int _ _, .int _ _, .int _ _, _, .int _ _]) (av rfl ⟨trivial, rfl⟩) rfl ?_
  refine L_v Tb_ok (v := .int _ _) (av rfl ⟨trivial, trivial⟩) rfl ?_
  refine L_call (hr := terms_Positions m op) rfl rfl trivial rfl rfl ?_
  refine L_v Tb_ok (v := .tup [_, _]) (av rfl ⟨trivial, trivial⟩) rfl ?_
  refine L_v Tb_ok (v := .int _ _) (av rfl ⟨trivial, trivial⟩) rfl ?_
  refine L_v Tb_ok (v := .int _ _) (av rfl ⟨trivial, trivial⟩) rfl ?_
  refine L_v Tb_ok (v := .int _ _) (av rfl ⟨trivial, trivial⟩) rfl ?_
  refine L_v Tb_ok (v := .int _ _) (av rfl ⟨trivial, trivial⟩) rfl ?_
  refine WL_nil ?_
  refine W_seq ?_
  refine W_seq ?_
  refine W_region rfl ?_
  refine L_call (hr := law10_fixed) rfl rfl trivial rfl rfl ?_
  refine L_v Tb_ok (v := .bool _) (av rfl ⟨trivial, trivial⟩) rfl ?_
  refine L_v Tb_ok (v := .bool _) (av rfl ⟨trivial, trivial⟩) rfl ?_
  refine L_g Tb_ok (v := .int _ _) rfl rfl ((fun hg => (av rfl ⟨trivial, trivial⟩))) rfl rfl ?_
  refine L_g Tb_ok (v := .int _ _) rfl rfl ((fun hg => (av rfl ⟨trivial, trivial⟩))) rfl rfl ?_
  refine L_g Tb_ok (v := .bool _) rfl rfl ((fun hg => (av rfl ⟨⟨⟨(by first | exact hg | (simp_all; done) | (simp at hg ⊢; simp [hg])), True.intro⟩, ⟨⟨(by first | exact hg | (simp_all; done) | (simp at hg ⊢; simp [hg])), True.intro⟩, True.intro⟩⟩, trivial⟩))) rfl rfl ?_
  refine L_v Tb_ok (v := .bool _) (av rfl (by refine ⟨?_, fun h => ?_, fun h => ?_⟩ <;> first | exact True.intro | exact ⟨h, True.intro⟩ | (refine ⟨?_, True.intro⟩; first | (rw [h]; done) | (rw [h]; rfl) | (simp [h]; done) | (simp at h hg ⊢; simp [h, hg]; done) | (simp_all; done) | (simp_all; omega)))) rfl ?_
  refine L_v Tb_ok (v := .bool _) (av rfl ⟨trivial, trivial⟩) rfl ?_
  refine L_g Tb_ok (v := .int _ _) rfl rfl ((fun hg => (av rfl ⟨trivial, trivial⟩))) rfl rfl ?_
  refine L_g Tb_ok (v := .int _ _) rfl rfl ((fun hg => (av rfl ⟨trivial, trivial⟩))) rfl rfl ?_
  refine L_g Tb_ok (v := .bool _) rfl rfl ((fun hg => (av rfl ⟨⟨⟨(by first | exact hg | (simp_all; done) | (simp at hg ⊢; simp [hg])), True.intro⟩, ⟨⟨(by first | exact hg | (simp_all; done) | (simp at hg ⊢; simp [hg])), True.intro⟩, True.intro⟩⟩, trivial⟩))) rfl rfl ?_
  refine L_v Tb_ok (v := .bool _) (av rfl (by refine ⟨?_, fun h => ?_, fun h => ?_⟩ <;> first | exact True.intro | exact ⟨h, True.intro⟩ | (refine ⟨?_, True.intro⟩; first | (rw [h]; done) | (rw [h]; rfl) | (simp [h]; done) | (simp at h hg ⊢; simp [h, hg]; done) | (simp_all; done) | (simp_all; omega)))) rfl ?_
  refine L_v Tb_ok (v := .bool _) (av rfl ⟨trivial, trivial⟩) rfl ?_
  refine L_g Tb_ok (v := .int _ _) rfl rfl ((fun hg => (av rfl ⟨trivial, trivial⟩))) rfl rfl ?_
  refine L_g Tb_ok (v := .int _ _) rfl rfl ((fun hg => (av rfl ⟨trivial, trivial⟩))) rfl rfl ?_
  refine L_g Tb_ok (v := .bool _) rfl rfl ((fun hg => (av rfl ⟨⟨⟨(by first | exact hg | (simp_all; done) | (simp at hg ⊢; simp [hg])), True.intro⟩, ⟨⟨(by first | exact hg | (simp_all; done) | (simp at hg ⊢; simp [hg])), True.intro⟩, True.intro⟩⟩, trivial⟩))) rfl rfl ?_
  refine L_v Tb_ok (v := .bool _) (av rfl (by refine ⟨?_, fun h => ?_, fun h => ?_⟩ <;> first | exact True.intro | exact ⟨h, True.intro⟩ | (refine ⟨?_, True.intro⟩; first | (rw [h]; done) | (rw [h]; rfl) | (simp [h]; done) | (simp at h hg ⊢; simp [h, hg]; done) | (simp_all; done) | (simp_all; omega)))) rfl ?_
  refine WL_nil ?_
  refine W_cond (b := _) rfl (fun h53 => ?_) (fun h53 => ?_)
  · exfalso
    simp at h53
  · refine W_skip ?_
    refine W_seq ?_
    refine W_seq ?_
    refine W_region rfl ?_
    refine L_v Tb_ok (v := .int _ _) (av rfl ⟨trivial, trivial⟩) rfl ?_
    refine L_v Tb_ok (v := .bool _) (av rfl ⟨trivial, trivial⟩) rfl ?_
    refine WL_nil ?_
    refine W_cond (b := _) rfl (fun h55 => ?_) (fun h55 => ?_)
    · refine W_seq ?_
      refine W_region rfl ?_
      refine L_v Tb_ok (v := .int _ _) (av rfl ⟨trivial, trivial⟩) rfl ?_
      refine L_v Tb_ok (v := .bool _) (av rfl ⟨trivial, trivial⟩) rfl ?_
      refine L_v Tb_ok (v := .bool _) (av rfl ⟨trivial, trivial⟩) rfl ?_
      refine L_g Tb_ok (v := .int _ _) rfl rfl ((fun hg => (av rfl ⟨trivial, trivial⟩))) rfl rfl ?_
      refine L_g Tb_ok (v := .bool _) rfl rfl ((fun hg => (av rfl ⟨⟨⟨(by first | exact hg | (simp_all; done) | (simp at hg ⊢; simp [hg])), True.intro⟩, True.intro⟩, trivial⟩))) rfl rfl ?_
      refine L_v Tb_ok (v := .bool _) (av rfl (by refine ⟨?_, fun h => ?_, fun h => ?_⟩ <;> first | exact True.intro | exact ⟨h, True.intro⟩ | (refine ⟨?_, True.intro⟩; first | (rw [h]; done) | (rw [h]; rfl) | (simp [h]; done) | (simp at h hg ⊢; simp [h, hg]; done) | (simp_all; done) | (simp_all; omega)))) rfl ?_
      refine L_v Tb_ok (v := .bool _) (av rfl ⟨trivial, trivial⟩) rfl ?_
      refine L_g Tb_ok (v := .int _ _) rfl rfl ((fun hg => (av rfl ⟨trivial, trivial⟩))) rfl rfl ?_
      refine L_g Tb_ok (v := .bool _) rfl rfl ((fun hg => (av rfl ⟨⟨⟨(by first | exact hg | (simp_all; done) | (simp at hg ⊢; simp [hg])), True.intro⟩, True.intro⟩, trivial⟩))) rfl rfl ?_
      refine L_v Tb_ok (v := .bool _) (av rfl (by refine ⟨?_, fun h => ?_, fun h => ?_⟩ <;> first | exact True.intro | exact ⟨h, True.intro⟩ | (refine ⟨?_, True.intro⟩; first | (rw [h]; done) | (rw [h]; rfl) | (simp [h]; done) | (simp at h hg ⊢; simp [h, hg]; done) | (simp_all; done) | (simp_all; omega)))) rfl ?_
      refine L_v Tb_ok (v := .bool _) (av rfl ⟨trivial, trivial⟩) rfl ?_
      refine WL_nil ?_
      refine W_ret ?_
      refine ends (l := [.bool _]) (q := .bool _) (.inr rfl) rfl ⟨trivial, trivial⟩ rfl rfl ?_
      have h0 : findE m op ≠ 0 := by simpa using h55
      rw [z h0]; rfl
    · refine W_skip ?_
      refine W_seq ?_
      refine W_region rfl ?_
      refine L_v Tb_ok (v := .int _ _) (av rfl ⟨trivial, trivial⟩) rfl ?_
      refine L_v Tb_ok (v := .agg [.int _ _, .int _ _, .int _ _, .int _ _, .int _ _, .int _ _, .int _ _, .int _ _, .int _ _, .int _ _, .int _ _, .int _ _, _, _, .int _ _, .int _ _, .int _ _, .int _ _, .int _ _, .int _ _, .int _ _, .int _ _, .int _ _, .int _ _, .int _ _, .int _ _, .int _ _, .int _ _]) (av rfl ⟨trivial, rfl⟩) rfl ?_
      refine L_call (hr := ref10_Length (findS m op)) rfl rfl trivial rfl rfl ?_
      refine L_v Tb_ok (v := .bool _) (av rfl ⟨trivial, trivial⟩) rfl ?_
      refine L_v Tb_ok (v := .bool _) (av rfl ⟨trivial, trivial⟩) rfl ?_
      refine L_g Tb_ok (v := .int _ _) rfl rfl ((fun hg => (av rfl ⟨trivial, trivial⟩))) rfl rfl ?_
      refine L_g Tb_ok (v := .ptr _ _ _) rfl rfl ((fun hg => (av rfl ⟨trivial, trivial⟩))) rfl rfl ?_
      refine L_g Tb_ok (v := .ptr _ _ _) rfl rfl ((fun hg => (av rfl ⟨⟨⟨(by first | exact hg | (simp_all; done) | (simp at hg ⊢; simp [hg])), True.intro⟩, True.intro⟩, trivial⟩))) rfl rfl ?_
      refine L_g Tb_ok (v := .int _ _) rfl rfl ((fun hg => (av rfl ⟨⟨⟨(by first | exact hg | (simp_all; done) | (simp at hg ⊢; simp [hg])), True.intro⟩, True.intro⟩, rfl⟩))) rfl rfl ?_
      refine L_g Tb_ok (v := .bool _) rfl rfl ((fun hg => (av rfl ⟨⟨⟨(by first | exact hg | (simp_all; done) | (simp at hg ⊢; simp [hg])), True.intro⟩, ⟨⟨(by first | exact hg | (simp_all; done) | (simp at hg ⊢; simp [hg])), True.intro⟩, True.intro⟩⟩, trivial⟩))) rfl rfl ?_
      refine L_v Tb_ok (v := .bool _) (av rfl (by refine ⟨?_, fun h => ?_, fun h => ?_⟩ <;> first | exact True.intro | exact ⟨h, True.intro⟩ | (refine ⟨?_, True.intro⟩; first | (rw [h]; done) | (rw [h]; rfl) | (simp [h]; done) | (simp at h hg ⊢; simp [h, hg]; done) | (simp_all; done) | (simp_all; omega)))) rfl ?_
      refine L_v Tb_ok (v := .bool _) (av rfl ⟨trivial, trivial⟩) rfl ?_
      refine L_g Tb_ok (v := .int _ _) rfl rfl ((fun hg => (av rfl ⟨trivial, trivial⟩))) rfl rfl ?_
      refine L_g Tb_ok (v := .agg [.int _ _, .int _ _, .int _ _, .int _ _, .int _ _, .int _ _, .int _ _, .int _ _, .int _ _, .int _ _, .int _ _, .int _ _, _, _, .int _ _, .int _ _, .int _ _, .int _ _, .int _ _, .int _ _, .int _ _, .int _ _, .int _ _, .int _ _, .int _ _, .int _ _, .int _ _, .int _ _]) rfl rfl ((fun hg => (av rfl ⟨trivial, rfl⟩))) rfl rfl ?_
      refine L_callg (hr := fun hg => ref10_Positions (findS m op)) rfl rfl rfl rfl rfl (fun hg => ⟨⟨(by first | exact hg | (simp_all; done) | (simp at hg ⊢; simp [hg])), True.intro⟩, True.intro⟩) rfl rfl ?_
      refine L_g Tb_ok (v := .bool _) rfl rfl ((fun hg => (av rfl ⟨⟨⟨(by first | exact hg | (simp_all; done) | (simp at hg ⊢; simp [hg])), True.intro⟩, ⟨⟨(by first | exact hg | (simp_all; done) | (simp at hg ⊢; simp [hg])), True.intro⟩, True.intro⟩⟩, trivial⟩))) rfl rfl ?_
      refine L_v Tb_ok (v := .bool _) (av rfl (by refine ⟨?_, fun h => ?_, fun h => ?_⟩ <;> first | exact True.intro | exact ⟨h, True.intro⟩ | (refine ⟨?_, True.intro⟩; first | (rw [h]; done) | (rw [h]; rfl) | (simp [h]; done) | (simp at h hg ⊢; simp [h, hg]; done) | (simp_all; done) | (simp_all; omega)))) rfl ?_
      refine L_v Tb_ok (v := .bool _) (av rfl ⟨trivial, trivial⟩) rfl ?_
      refine WL_nil ?_
      refine W_ret ?_
      refine ends (l := [.bool _]) (q := .bool _) (.inr rfl) rfl ⟨trivial, trivial⟩ rfl rfl ?_
      have h0 : findE m op = 0 := by simpa using h55
      have e := lenF_site h0
      simp [e, w64]
end Go.AM
end
section
namespace Go.Proofs.Ytheclbekghjecaa.termsCounts
open Go.ChangeShapes Go.WideShapes Go.ChangeAt Go.RowKit
open Go.ChangeMaps (open_string shut_string)
set_option linter.unusedVariables false
theorem own : ownKnob Try.prog.godebug = none := by kernel_rfl
theorem laidOut : laidOutB Try.prog = true := by kernel_rfl
set_option maxRecDepth 100000 in
theorem lifted (os : Os) (started : os.Started) (H : Type) (enc : TypeId × Value → H) :
    ReturnsInHanded {} Try.checked os 5 .any (Rows.termsCountsSpec.pre6 enc Try.prog Try.f5 Rows.termsCountsRow.domain false) (Rows.termsCountsSpec.post enc Try.prog Try.f5 false true false false) := by
  refine returnsInHanded_of_change_sized (C := Try.checked) own started (by kernel_rfl) Try.func5
    (ChangeSpec.witness6 (enc := enc) (C := Try.checked) false ⟨#[], #[.agg #[.int .i64 0, .int .i64 0, .int .i64 0, .int .i64 0, .int .i64 0, .slice none 0 0, .int .i64 0], .int .i64 0], []⟩ 8 (by kernel_rfl) (by kernel_rfl) (by kernel_rfl) (by kernel_rfl)) ?_
  intro W base args ds gs before hval0 hW hcnd hsz0 _
  have hsz : (DataW.weightsEach Try.prog (Try.f5.params.toList ++ Rows.termsCountsSpec.plain.varTypes Try.prog) (ds ++ gs)).all (· ≤ reachBytes) = true := hsz0
  have hval : ∀ (j : Nat) t v, Try.f5.params[j]? = some t → args[j]? = some v → Value.okWide Try.prog W .any base t v := hval0
  have hW' := hW
  obtain ⟨p, q, hA0, hV, rfl, hfz, hnd⟩ := hW
  have hA : DataW.TrodAll enc Try.prog W 0 (fun _ => true) true Try.f5.params.toList args.toList ds p := hA0
  rw [Try.params5] at hA hval hsz
  obtain ⟨v0, vs0, d0, ds0, p0, q0, hargs, rfl, rfl, h0, r0⟩ := trodAll_cons hA
  obtain ⟨v1, vs1, d1, ds1, p1, q1, rfl, rfl, rfl, h1, r1⟩ := trodAll_cons r0
  obtain ⟨rfl, rfl, rfl⟩ := trodAll_nil r1
  obtain rfl : args = #[v0, v1] := by cases args; simp_all
  obtain ⟨rfl, rfl⟩ := trodVars_none hV
  have k0 := h0
  have lt0 : ∀ x ∈ p0, x.block < W.heap.size := by obtain ⟨m, hm⟩ := k0; exact DataW.trod_lt m _ _ _ hm
  obtain ⟨y0, K0, w0⟩ := Go.AM.Opn.arg Go.AM.arg0 h0 (j := 0) (t := 26) hsz rfl rfl
  have R0 := Go.AM.arg_agg Try.underlying26 (hval 0 26 v0 rfl rfl) K0
  obtain ⟨a1, rfl, rfl, rfl, w1⟩ := open_int Try.underlying3 (hval 1 3 v1 rfl rfl) h1
  clear hA0 hval0 hsz0 hsz
  refine (Go.AM.Ok.law (Go.AM.termsCounts y0 w0 a1 w1) (Go.AM.rel2 R0 (.int _ a1))).mono fun e W' ⟨he, bel⟩ => ?_
  subst he
  exact ⟨_, rfl, _, _, _, [], _, [], hW', trodAll_mk1 (shut_bool Try.underlying4 _), (trodAll_cons_mk (Below.trod laidOut (by kernel_rfl) (of_decide_eq_true (by kernel_rfl)) k0 bel lt0) (trodAll_cons_mk (shut_int Try.underlying3 w1) trodAll_mk0)), rfl, bel.frame _, fun h => by cases h⟩
theorem over : Rows.termsCountsRow.holds Try.pinned (OpenSpec.ofChange Rows.termsCountsSpec) :=
  OpenClaim.holds_of_wide 5 Try.f5 rfl rfl rfl rfl rfl rfl rfl ⟨rfl, rfl, rfl, rfl, rfl⟩ rfl rfl rfl rfl rfl (by kernel_rfl) Try.func5 (by kernel_rfl)
    (of_decide_eq_true (by kernel_rfl)) (by unfold Func.isWrapper; first | (rw [if_pos (by decide +kernel)]; kernel_rfl) | (rw [if_neg (by decide +kernel)]; exact ⟨rfl, rfl⟩))
    (fun os started H enc _ => lifted os started H enc)
theorem proved : Rows.TermsCountsSaid := over
end Go.Proofs.Ytheclbekghjecaa.termsCounts
namespace Go.Proofs.Ytheclbekghjecaa
/-- The row, under a short name, for the claim. -/
theorem termsCounts_holds : Rows.TermsCountsSaid := termsCounts.proved
end Go.Proofs.Ytheclbekghjecaa
end
