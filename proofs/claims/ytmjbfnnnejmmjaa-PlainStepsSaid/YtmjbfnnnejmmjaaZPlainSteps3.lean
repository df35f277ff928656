/- The law PlainSteps answers true, whatever its arguments: part 4 of 6 of its proof (the machine on trees, the functions' contracts). -/
import Derived.Laws.MathBits
import Derived.Test.YtmjbfnnnejmmjaaZPlainSteps2
section
open Go Go.AM Go.Proofs
set_option maxRecDepth 10000
set_option linter.unusedVariables false
set_option linter.unusedSimpArgs false
namespace Go.AM
/-- the place doesn't lie in the site -/
def ofBad (S : Site) (ch at_ : Int) : Bool := bif bif bif decide (ch < 1) then true else decide (ch > S.Out.C) then true else decide (at_ < 0) then true else decide (at_ ≥ w64 (S.Out.H * S.Out.W))
theorem terms_Of_bad (m : Model) (op ch at_ : Int) (h : (findE m op != 0) = true ∨ ((findE m op != 0) = false ∧ ofBad (findS m op) ch at_ = true)) :
    Ok Try.prog 13 [.agg (modelC m), .int .i64 op, .int .i64 ch, .int .i64 at_] (.tup [.ro [], .int .i64 0, .int .i64 (if findE m op = 0 then 3 else findE m op)]) := by
  rcases h with hc26 | ⟨hc26, hc51⟩
  · --@@1
    skip
    refine fn_ok Tb_ok (fn := Try.f13) Try.func13 rfl rfl (e := [(0, _), (1, _), (2, _), (3, _)]) rfl (by decide) rfl ?_
    refine zs ?_
    refine zR ?_
    refine zbx [.int _ _, .int _ _, .int _ _, .int _ _, .int _ _, _, .int _ _] 7 ?_
    refine zLN ?_
    refine zLI ?_
    refine zLI ?_
    refine zn ?_
    refine zs ?_
    refine zR ?_
    refine zLG [.int _ _, .int _ _, .int _ _, .int _ _, .int _ _, _, .int _ _] ?_
    refine zLI ?_
    refine zLc (terms_find m op) ?_
    refine zLT [_, _] ?_
    refine zLG [.int _ _, .int _ _, .int _ _, .int _ _, .int _ _, .int _ _, .int _ _, .int _ _, .int _ _, .int _ _, .int _ _, .int _ _, _, _, .int _ _, .int _ _, .int _ _, .int _ _, .int _ _, .int _ _, .int _ _, .int _ _, .int _ _, .int _ _, .int _ _, .int _ _, .int _ _, .int _ _, .int _ _] ?_
    refine zLI ?_
    refine zal [.int .i64 0, .int .i64 0, .int .i64 0, .int .i64 0, .int .i64 0, .int .i64 0, .int .i64 0, .int .i64 0, .int .i64 0, .int .i64 0, .int .i64 0, .int .i64 0, .nils, .nils, .int .i64 0, .int .i64 0, .int .i64 0, .int .i64 0, .int .i64 0, .int .i64 0, .int .i64 0, .int .i64 0, .int .i64 0, .int .i64 0, .int .i64 0, .int .i64 0, .int .i64 0, .int .i64 0, .int .i64 0] 29 ?_
    refine zst (.agg [.int _ _, .int _ _, .int _ _, .int _ _, .int _ _, .int _ _, .int _ _, .int _ _, .int _ _, .int _ _, .int _ _, .int _ _, _, _, .int _ _, .int _ _, .int _ _, .int _ _, .int _ _, .int _ _, .int _ _, .int _ _, .int _ _, .int _ _, .int _ _, .int _ _, .int _ _, .int _ _, .int _ _]) [_, _, _, _, _, _, _, _, _, _, _, _, _, _, _, _, _, _, _, _, _, _, _, _, _, _, _, _, _] [[_, _, _, _, _, _, _, _, _, _, _, _, _, _, _, _, _, _, _, _, _, _, _, _, _, _, _, _, _]] ?_
    refine zLI ?_
    refine zn ?_
    refine zs ?_
    refine zs ?_
    refine zR ?_
    refine zLI ?_
    refine zLB ?_
    refine zn ?_
    refine W_cond_t (b := _) rfl (by exact hc26) ?_
    refine zs ?_
    refine zR ?_
    refine zLI ?_
    refine zLN ?_
    refine zLI ?_
    refine zLI ?_
    refine zn ?_
    refine zt ?_
    (refine ends (l := [.nils, .int _ _, .int _ _]) (q := .tup [.ro _, .int _ _, .int _ _]) (.inr rfl) rfl ⟨trivial, trivial, trivial, trivial⟩ rfl rfl ?_)
    (have h0 : findE m op ≠ 0 := by simpa using hc26); simp [h0]
  · --@@2
    skip
    refine fn_ok Tb_ok (fn := Try.f13) Try.func13 rfl rfl (e := [(0, _), (1, _), (2, _), (3, _)]) rfl (by decide) rfl ?_
    refine zs ?_
    refine zR ?_
    refine zbx [.int _ _, .int _ _, .int _ _, .int _ _, .int _ _, _, .int _ _] 7 ?_
    refine zLN ?_
    refine zLI ?_
    refine zLI ?_
    refine zn ?_
    refine zs ?_
    refine zR ?_
    refine zLG [.int _ _, .int _ _, .int _ _, .int _ _, .int _ _, _, .int _ _] ?_
    refine zLI ?_
    refine zLc (terms_find m op) ?_
    refine zLT [_, _] ?_
    refine zLG [.int _ _, .int _ _, .int _ _, .int _ _, .int _ _, .int _ _, .int _ _, .int _ _, .int _ _, .int _ _, .int _ _, .int _ _, _, _, .int _ _, .int _ _, .int _ _, .int _ _, .int _ _, .int _ _, .int _ _, .int _ _, .int _ _, .int _ _, .int _ _, .int _ _, .int _ _, .int _ _, .int _ _] ?_
    refine zLI ?_
    refine zal [.int .i64 0, .int .i64 0, .int .i64 0, .int .i64 0, .int .i64 0, .int .i64 0, .int .i64 0, .int .i64 0, .int .i64 0, .int .i64 0, .int .i64 0, .int .i64 0, .nils, .nils, .int .i64 0, .int .i64 0, .int .i64 0, .int .i64 0, .int .i64 0, .int .i64 0, .int .i64 0, .int .i64 0, .int .i64 0, .int .i64 0, .int .i64 0, .int .i64 0, .int .i64 0, .int .i64 0, .int .i64 0] 29 ?_
    refine zst (.agg [.int _ _, .int _ _, .int _ _, .int _ _, .int _ _, .int _ _, .int _ _, .int _ _, .int _ _, .int _ _, .int _ _, .int _ _, _, _, .int _ _, .int _ _, .int _ _, .int _ _, .int _ _, .int _ _, .int _ _, .int _ _, .int _ _, .int _ _, .int _ _, .int _ _, .int _ _, .int _ _, .int _ _]) [_, _, _, _, _, _, _, _, _, _, _, _, _, _, _, _, _, _, _, _, _, _, _, _, _, _, _, _, _] [[_, _, _, _, _, _, _, _, _, _, _, _, _, _, _, _, _, _, _, _, _, _, _, _, _, _, _, _, _]] ?_
    refine zLI ?_
    refine zn ?_
    refine zs ?_
    refine zs ?_
    refine zR ?_
    refine zLI ?_
    refine zLB ?_
    refine zn ?_
    refine W_cond_f (b := _) rfl (by exact hc26) ?_
    refine zk ?_
    refine zs ?_
    refine zs ?_
    refine zR ?_
    refine zLI ?_
    refine zLB ?_
    refine zLB ?_
    refine zgLI ?_
    refine zgLP ?_
    refine zgLP ?_
    refine zgLI ?_
    refine zgLB ?_
    refine zpLB ?_
    refine zLB ?_
    refine zgLI ?_
    refine zgLB ?_
    refine zpLB ?_
    refine zLB ?_
    refine zgLI ?_
    refine zgLP ?_
    refine zgLP ?_
    refine zgLI ?_
    refine zgLP ?_
    refine zgLP ?_
    refine zgLI ?_
    refine zgLI ?_
    refine zgLB ?_
    refine zpLB ?_
    refine zn ?_
    refine W_cond_t (b := _) rfl (by exact hc51) ?_
    refine zs ?_
    refine zR ?_
    refine zLN ?_
    refine zLI ?_
    refine zLI ?_
    refine zn ?_
    refine zt ?_
    (refine ends (l := [.nils, .int _ _, .int _ _]) (q := .tup [.ro _, .int _ _, .int _ _]) (.inr rfl) rfl ⟨trivial, trivial, trivial, trivial⟩ rfl rfl ?_)
    (have h0 : findE m op = 0 := by simpa using hc26); simp [h0]
end Go.AM
end
section
open Go Go.AM Go.Proofs
set_option maxRecDepth 10000
set_option linter.unusedVariables false
set_option linter.unusedSimpArgs false
namespace Go.AM
/-- the list, k of its places told -/
def ofP (pl : List Int) (k : Nat) : List Term := (pl.take k).map (fun p => ⟨1, p⟩) ++ List.replicate (pl.length - k) ⟨0, 0⟩
theorem ofP_len (pl : List Int) (k : Nat) (h : k ≤ pl.length) : (ofP pl k).length = pl.length := by simp [ofP]; omega
theorem ofP_set (pl : List Int) (k : Nat) (h : k < pl.length) : (ofP pl k).set k ⟨1, pl.getD k 0⟩ = ofP pl (k + 1) := by
  have e : pl.length - k = (pl.length - (k + 1)) + 1 := by omega
  have hl : ((pl.take k).map (fun p => (⟨1, p⟩ : Term))).length = k := by simp; omega
  rw [ofP, ofP, e, List.replicate_succ, List.set_append_right _ _ (by omega), hl, Nat.sub_self, List.set_cons_zero, List.take_add_one, List.map_append, List.append_assoc]
  simp [h]
theorem terms_Of_pl (m : Model) (op ch at_ : Int) (hc26 : (findE m op != 0) = false) (hc51 : ofBad (findS m op) ch at_ = false) (hc74 : ((findS m op).Op.Kind != 4) = false) (pl : List Int)
    (hpl : Ok Try.prog 34 [.agg (siteC (findS m op)), .int .i64 ch, .int .i64 at_] (.ro (pl.map intC))) (hpn : (findS m op).Len = (pl.length : Int)) (hps : pl.length ≤ 1048576) :
    Ok Try.prog 13 [.agg (modelC m), .int .i64 op, .int .i64 ch, .int .i64 at_] (.tup [.ro ((ofP pl pl.length).map termC), .int .i64 0, .int .i64 0]) := by
  refine fn_ok Tb_ok (fn := Try.f13) Try.func13 rfl rfl (e := [(0, _), (1, _), (2, _), (3, _)]) rfl (by decide) rfl ?_
  refine zs ?_
  refine zR ?_
  refine zbx [.int _ _, .int _ _, .int _ _, .int _ _, .int _ _, _, .int _ _] 7 ?_
  refine zLN ?_
  refine zLI ?_
  refine zLI ?_
  refine zn ?_
  refine zs ?_
  refine zR ?_
  refine zLG [.int _ _, .int _ _, .int _ _, .int _ _, .int _ _, _, .int _ _] ?_
  refine zLI ?_
  refine zLc (terms_find m op) ?_
  refine zLT [_, _] ?_
  refine zLG [.int _ _, .int _ _, .int _ _, .int _ _, .int _ _, .int _ _, .int _ _, .int _ _, .int _ _, .int _ _, .int _ _, .int _ _, _, _, .int _ _, .int _ _, .int _ _, .int _ _, .int _ _, .int _ _, .int _ _, .int _ _, .int _ _, .int _ _, .int _ _, .int _ _, .int _ _, .int _ _, .int _ _] ?_
  refine zLI ?_
  refine zal [.int .i64 0, .int .i64 0, .int .i64 0, .int .i64 0, .int .i64 0, .int .i64 0, .int .i64 0, .int .i64 0, .int .i64 0, .int .i64 0, .int .i64 0, .int .i64 0, .nils, .nils, .int .i64 0, .int .i64 0, .int .i64 0, .int .i64 0, .int .i64 0, .int .i64 0, .int .i64 0, .int .i64 0, .int .i64 0, .int .i64 0, .int .i64 0, .int .i64 0, .int .i64 0, .int .i64 0, .int .i64 0] 29 ?_
  refine zst (.agg [.int _ _, .int _ _, .int _ _, .int _ _, .int _ _, .int _ _, .int _ _, .int _ _, .int _ _, .int _ _, .int _ _, .int _ _, _, _, .int _ _, .int _ _, .int _ _, .int _ _, .int _ _, .int _ _, .int _ _, .int _ _, .int _ _, .int _ _, .int _ _, .int _ _, .int _ _, .int _ _, .int _ _]) [_, _, _, _, _, _, _, _, _, _, _, _, _, _, _, _, _, _, _, _, _, _, _, _, _, _, _, _, _] [[_, _, _, _, _, _, _, _, _, _, _, _, _, _, _, _, _, _, _, _, _, _, _, _, _, _, _, _, _]] ?_
  refine zLI ?_
  refine zn ?_
  refine zs ?_
  refine zs ?_
  refine zR ?_
  refine zLI ?_
  refine zLB ?_
  refine zn ?_
  refine W_cond_f (b := _) rfl (by exact hc26) ?_
  refine zk ?_
  refine zs ?_
  refine zs ?_
  refine zR ?_
  refine zLI ?_
  refine zLB ?_
  refine zLB ?_
  refine zgLI ?_
  refine zgLP ?_
  refine zgLP ?_
  refine zgLI ?_
  refine zgLB ?_
  refine zpLB ?_
  refine zLB ?_
  refine zgLI ?_
  refine zgLB ?_
  refine zpLB ?_
  refine zLB ?_
  refine zgLI ?_
  refine zgLP ?_
  refine zgLP ?_
  refine zgLI ?_
  refine zgLP ?_
  refine zgLP ?_
  refine zgLI ?_
  refine zgLI ?_
  refine zgLB ?_
  refine zpLB ?_
  refine zn ?_
  refine W_cond_f (b := _) rfl (by exact hc51) ?_
  refine zk ?_
  refine zs ?_
  refine zR ?_
  refine zLI ?_
  refine zn ?_
  refine zs ?_
  refine zR ?_
  refine zLP ?_
  refine zLI ?_
  refine L_make Tb_ok (el := 61) (sz := 2) (z := [.int .i64 0, .int .i64 0]) rfl rfl rfl rfl rfl rfl rfl rfl ⟨trivial, trivial⟩ (by (rw [hpn]; omega)) (by (rw [hpn, show (Tb.at 61).bytes = 16 from rfl]; omega)) rfl ?_
  refine zLW ?_
  refine zn ?_
  refine zs ?_
  refine zs ?_
  refine zR ?_
  refine zLG [.int _ _, .int _ _, .int _ _, .int _ _, .int _ _, .int _ _, .int _ _, .int _ _, .int _ _, .int _ _, .int _ _, .int _ _, _, _, .int _ _, .int _ _, .int _ _, .int _ _, .int _ _, .int _ _, .int _ _, .int _ _, .int _ _, .int _ _, .int _ _, .int _ _, .int _ _, .int _ _, .int _ _] ?_
  refine zLI ?_
  refine zLI ?_
  refine zLc (hpl) ?_
  refine zLI ?_
  refine zLI ?_
  refine zn ?_
  refine W_block ?_
  refine W_inv (ι := {k : Nat // k ≤ pl.length}) (fun k => ⟨[(2, .int .i64 ch), (11, .ptr 1 0 0), (13, .int .i64 0), (14, .row 2 0 (findS m op).Len.toNat), (58, .ro (pl.map intC)), (59, .int .i64 ((pl.map intC).length : Int)), (60, .int .i64 (k.1 : Int))], [(1, some ⟨89, 29, 0, [siteC (findS m op)]⟩), (2, some ⟨61, 2, 0, (ofP pl k.1).map termC⟩)], [], 3⟩) (fun k => pl.length - k.1) ⟨0, Nat.zero_le _⟩ (le_fit ⟨rfl, rfl, rfl, rfl, rfl, rfl, rfl, trivial⟩ ⟨.inr rfl, .inr ?_, trivial⟩ trivial rfl rfl rfl ?_ rfl) ?_
  · show some (Ob.mk _ _ _ (List.replicate (findS m op).Len.toNat _)) = _
    simp [ofP, hpn, termC]
  · simp [ltOB, termC, siteC, opC, shapeC, AV.lt]
  rintro ⟨k, hk⟩
  refine zs ?_
  refine zR ?_
  refine zLB ?_
  refine zn ?_
  refine zs ?_
  refine W_cond (b := _) rfl (fun h61 => ?_) (fun h61 => ?_)
  · have hlt : k < pl.length := by simpa using h61
    refine zk ?_
    refine zs ?_
    refine W_block ?_
    refine zs ?_
    refine zR ?_
    refine zLI ?_
    (refine L_v Tb_ok (v := _) (ave_index_ro rfl rfl rfl (fun _ => rfl) rfl (by first | omega | assumption | decide | (simp_all; done) | (simp_all; omega)) (by first | omega | assumption | decide | (simp_all; done) | (simp_all; omega)) trivial) rfl ?_)
    refine zLI ?_
    refine zLI ?_
    refine zLI ?_
    refine zn ?_
    refine zR ?_
    refine zLW ?_
    refine zLI ?_
    refine zLI ?_
    refine zLG [.int _ _, .int _ _] ?_
    (refine L_v Tb_ok (v := _) (ave_index_row rfl rfl rfl rfl rfl rfl (by first | omega | assumption | decide | (simp_all; done) | (simp_all; omega)) (by first | omega | assumption | decide | (simp_all; done) | (simp_all; omega)) trivial) rfl ?_)
    refine L_store_row Tb_ok (f := termC) (xs := ofP pl k) (v' := ⟨1, pl.getD k 0⟩) rfl rfl rfl rfl rfl rfl rfl rfl (by rw [ofP_len _ _ hk]; simp; omega) rfl ⟨trivial, trivial⟩ ?_
    refine zn ?_
    refine zR ?_
    refine zLI ?_
    refine zLI ?_
    refine zn ?_
    refine round_end ⟨k + 1, hlt⟩ (by dsimp only; omega) (le_fit ⟨rfl, rfl, rfl, rfl, rfl, rfl, congrArg _ (w_succ hlt (by omega)), trivial⟩ ⟨.inr rfl, .inr ?_, trivial⟩ trivial rfl rfl rfl ?_ rfl)
    · show some (Ob.mk 61 2 0 (((ofP pl k).set (0 + ((k : Nat) : Int).toNat) ⟨1, pl.getD k 0⟩).map termC)) = _
      rw [Nat.zero_add, Int.toNat_natCast, ofP_set pl k hlt]
    · simp [ltOB, termC, siteC, opC, shapeC, AV.lt]
  · refine W_exit ?_
    repeat (first | refine pass_then ?_ | refine pass_round ?_)
    refine blockQ_hit ?_
    refine zs ?_
    refine zs ?_
    refine zR ?_
    refine zLP ?_
    refine zLP ?_
    refine zLI ?_
    refine zLB ?_
    refine zn ?_
    refine W_cond_f (b := _) rfl (by exact hc74) ?_
    refine zk ?_
    refine zs ?_
    refine zR ?_
    have hke : k = pl.length := by simp at h61; omega
    refine L_freeze (t := 14) (id := 2) (n := (findS m op).Len.toNat) (l := (ofP pl k).map termC) rfl rfl ?_ rfl rfl ?_ ?_ ?_
    · show _ = ((ofP pl k).map termC).length
      rw [List.length_map, ofP_len pl k hk, hpn]; rfl
    · show ((ofP pl k).map termC).map (·.map demC) = _
      simp [termC, demC]
    · simp [termC, grC]
    refine zLO ?_
    refine zLI ?_
    refine zLO ?_
    refine zLI ?_
    refine zLI ?_
    refine zn ?_
    refine zt ?_
    (refine ends (l := [.ro _, .int _ _, .int _ _]) (q := .tup [.ro _, .int _ _, .int _ _]) (.inr rfl) rfl ⟨trivial, trivial, trivial, trivial⟩ rfl rfl ?_)
    rw [hke]
/-- the channel's weights -/
def ofWs (S : Site) (ch : Int) : List Int := (S.Op.Weights.drop (w64 (w64 (ch - 1) * S.Len)).toNat).take ((w64 (ch * S.Len)).toNat - (w64 (w64 (ch - 1) * S.Len)).toNat)
def ofQ (pl ws : List Int) (k : Nat) : List Term := (List.range pl.length).map fun i => ⟨if i < k then ws.getD i 0 else 1, pl.getD i 0⟩
theorem ofQ_len (pl ws : List Int) (k : Nat) : (ofQ pl ws k).length = pl.length := by simp [ofQ]
theorem ofQ_zero (pl ws : List Int) : ofQ pl ws 0 = ofP pl pl.length := by
  apply List.ext_getElem
  · simp [ofQ, ofP]
  · intro i h1 h2
    simp [ofQ] at h1
    simp [ofQ, ofP, List.getElem_append, h1]
theorem ofQ_set (pl ws : List Int) (k : Nat) (h : k < pl.length) : (ofQ pl ws k).set k ⟨ws.getD k 0, ((ofQ pl ws k).getD k default).At⟩ = ofQ pl ws (k + 1) := by
  apply List.ext_getElem
  · simp [ofQ]
  · intro i h1 h2
    have hi : i < pl.length := by simpa [ofQ] using h2
    by_cases e : k = i
    · subst e; simp [ofQ, h]
    · rw [List.getElem_set_ne e]
      have e2 : (i < k) = (i < k + 1) := by simp; omega
      simp [ofQ, e2]
end Go.AM
end
section
open Go Go.AM Go.Proofs
set_option maxRecDepth 10000
set_option linter.unusedVariables false
set_option linter.unusedSimpArgs false
namespace Go.AM
theorem terms_Of_w (m : Model) (op ch at_ : Int) (hc26 : (findE m op != 0) = false) (hc51 : ofBad (findS m op) ch at_ = false) (hc74 : ((findS m op).Op.Kind != 4) = true) (pl : List Int)
    (hpl : Ok Try.prog 34 [.agg (siteC (findS m op)), .int .i64 ch, .int .i64 at_] (.ro (pl.map intC))) (hpn : (findS m op).Len = (pl.length : Int)) (hps : pl.length ≤ 1048576)
    (hb0 : 0 ≤ w64 (ch - 1)) (hb1 : w64 (ch - 1) < (findS m op).Op.Bias.length) (hw0 : 0 ≤ w64 (w64 (ch - 1) * (findS m op).Len)) (hw1 : w64 (ch * (findS m op).Len) - w64 (w64 (ch - 1) * (findS m op).Len) = (findS m op).Len) (hw2 : w64 (ch * (findS m op).Len) ≤ (findS m op).Op.Weights.length) :
    Ok Try.prog 13 [.agg (modelC m), .int .i64 op, .int .i64 ch, .int .i64 at_] (.tup [.ro ((ofQ pl ((ofWs (findS m op) ch).map w64) pl.length).map termC), .int .i64 (w64 ((findS m op).Op.Bias.getD (w64 (ch - 1)).toNat default)), .int .i64 0]) := by
  have hwl : (ofWs (findS m op) ch).length = pl.length := by simp [ofWs]; omega
  refine fn_ok Tb_ok (fn := Try.f13) Try.func13 rfl rfl (e := [(0, _), (1, _), (2, _), (3, _)]) rfl (by decide) rfl ?_
  refine zs ?_
  refine zR ?_
  refine zbx [.int _ _, .int _ _, .int _ _, .int _ _, .int _ _, _, .int _ _] 7 ?_
  refine zLN ?_
  refine zLI ?_
  refine zLI ?_
  refine zn ?_
  refine zs ?_
  refine zR ?_
  refine zLG [.int _ _, .int _ _, .int _ _, .int _ _, .int _ _, _, .int _ _] ?_
  refine zLI ?_
  refine zLc (terms_find m op) ?_
  refine zLT [_, _] ?_
  refine zLG [.int _ _, .int _ _, .int _ _, .int _ _, .int _ _, .int _ _, .int _ _, .int _ _, .int _ _, .int _ _, .int _ _, .int _ _, _, _, .int _ _, .int _ _, .int _ _, .int _ _, .int _ _, .int _ _, .int _ _, .int _ _, .int _ _, .int _ _, .int _ _, .int _ _, .int _ _, .int _ _, .int _ _] ?_
  refine zLI ?_
  refine zal [.int .i64 0, .int .i64 0, .int .i64 0, .int .i64 0, .int .i64 0, .int .i64 0, .int .i64 0, .int .i64 0, .int .i64 0, .int .i64 0, .int .i64 0, .int .i64 0, .nils, .nils, .int .i64 0, .int .i64 0, .int .i64 0, .int .i64 0, .int .i64 0, .int .i64 0, .int .i64 0, .int .i64 0, .int .i64 0, .int .i64 0, .int .i64 0, .int .i64 0, .int .i64 0, .int .i64 0, .int .i64 0] 29 ?_
  refine zst (.agg [.int _ _, .int _ _, .int _ _, .int _ _, .int _ _, .int _ _, .int _ _, .int _ _, .int _ _, .int _ _, .int _ _, .int _ _, _, _, .int _ _, .int _ _, .int _ _, .int _ _, .int _ _, .int _ _, .int _ _, .int _ _, .int _ _, .int _ _, .int _ _, .int _ _, .int _ _, .int _ _, .int _ _]) [_, _, _, _, _, _, _, _, _, _, _, _, _, _, _, _, _, _, _, _, _, _, _, _, _, _, _, _, _] [[_, _, _, _, _, _, _, _, _, _, _, _, _, _, _, _, _, _, _, _, _, _, _, _, _, _, _, _, _]] ?_
  refine zLI ?_
  refine zn ?_
  refine zs ?_
  refine zs ?_
  refine zR ?_
  refine zLI ?_
  refine zLB ?_
  refine zn ?_
  refine W_cond_f (b := _) rfl (by exact hc26) ?_
  refine zk ?_
  refine zs ?_
  refine zs ?_
  refine zR ?_
  refine zLI ?_
  refine zLB ?_
  refine zLB ?_
  refine zgLI ?_
  refine zgLP ?_
  refine zgLP ?_
  refine zgLI ?_
  refine zgLB ?_
  refine zpLB ?_
  refine zLB ?_
  refine zgLI ?_
  refine zgLB ?_
  refine zpLB ?_
  refine zLB ?_
  refine zgLI ?_
  refine zgLP ?_
  refine zgLP ?_
  refine zgLI ?_
  refine zgLP ?_
  refine zgLP ?_
  refine zgLI ?_
  refine zgLI ?_
  refine zgLB ?_
  refine zpLB ?_
  refine zn ?_
  refine W_cond_f (b := _) rfl (by exact hc51) ?_
  refine zk ?_
  refine zs ?_
  refine zR ?_
  refine zLI ?_
  refine zn ?_
  refine zs ?_
  refine zR ?_
  refine zLP ?_
  refine zLI ?_
  refine L_make Tb_ok (el := 61) (sz := 2) (z := [.int .i64 0, .int .i64 0]) rfl rfl rfl rfl rfl rfl rfl rfl ⟨trivial, trivial⟩ (by (rw [hpn]; omega)) (by (rw [hpn, show (Tb.at 61).bytes = 16 from rfl]; omega)) rfl ?_
  refine zLW ?_
  refine zn ?_
  refine zs ?_
  refine zs ?_
  refine zR ?_
  refine zLG [.int _ _, .int _ _, .int _ _, .int _ _, .int _ _, .int _ _, .int _ _, .int _ _, .int _ _, .int _ _, .int _ _, .int _ _, _, _, .int _ _, .int _ _, .int _ _, .int _ _, .int _ _, .int _ _, .int _ _, .int _ _, .int _ _, .int _ _, .int _ _, .int _ _, .int _ _, .int _ _, .int _ _] ?_
  refine zLI ?_
  refine zLI ?_
  refine zLc (hpl) ?_
  refine zLI ?_
  refine zLI ?_
  refine zn ?_
  refine W_block ?_
  refine W_inv (ι := {k : Nat // k ≤ pl.length}) (fun k => ⟨[(2, .int .i64 ch), (11, .ptr 1 0 0), (13, .int .i64 0), (14, .row 2 0 (findS m op).Len.toNat), (58, .ro (pl.map intC)), (59, .int .i64 ((pl.map intC).length : Int)), (60, .int .i64 (k.1 : Int))], [(1, some ⟨89, 29, 0, [siteC (findS m op)]⟩), (2, some ⟨61, 2, 0, (ofP pl k.1).map termC⟩)], [], 3⟩) (fun k => pl.length - k.1) ⟨0, Nat.zero_le _⟩ (le_fit ⟨rfl, rfl, rfl, rfl, rfl, rfl, rfl, trivial⟩ ⟨.inr rfl, .inr ?_, trivial⟩ trivial rfl rfl rfl ?_ rfl) ?_
  · show some (Ob.mk _ _ _ (List.replicate (findS m op).Len.toNat _)) = _
    simp [ofP, hpn, termC]
  · simp [ltOB, termC, siteC, opC, shapeC, AV.lt]
  rintro ⟨k, hk⟩
  refine zs ?_
  refine zR ?_
  refine zLB ?_
  refine zn ?_
  refine zs ?_
  refine W_cond (b := _) rfl (fun h61 => ?_) (fun h61 => ?_)
  · have hlt : k < pl.length := by simpa using h61
    refine zk ?_
    refine zs ?_
    refine W_block ?_
    refine zs ?_
    refine zR ?_
    refine zLI ?_
    (refine L_v Tb_ok (v := _) (ave_index_ro rfl rfl rfl (fun _ => rfl) rfl (by first | omega | assumption | decide | (simp_all; done) | (simp_all; omega)) (by first | omega | assumption | decide | (simp_all; done) | (simp_all; omega)) trivial) rfl ?_)
    refine zLI ?_
    refine zLI ?_
    refine zLI ?_
    refine zn ?_
    refine zR ?_
    refine zLW ?_
    refine zLI ?_
    refine zLI ?_
    refine zLG [.int _ _, .int _ _] ?_
    (refine L_v Tb_ok (v := _) (ave_index_row rfl rfl rfl rfl rfl rfl (by first | omega | assumption | decide | (simp_all; done) | (simp_all; omega)) (by first | omega | assumption | decide | (simp_all; done) | (simp_all; omega)) trivial) rfl ?_)
    refine L_store_row Tb_ok (f := termC) (xs := ofP pl k) (v' := ⟨1, pl.getD k 0⟩) rfl rfl rfl rfl rfl rfl rfl rfl (by rw [ofP_len _ _ hk]; simp; omega) rfl ⟨trivial, trivial⟩ ?_
    refine zn ?_
    refine zR ?_
    refine zLI ?_
    refine zLI ?_
    refine zn ?_
    refine round_end ⟨k + 1, hlt⟩ (by dsimp only; omega) (le_fit ⟨rfl, rfl, rfl, rfl, rfl, rfl, congrArg _ (w_succ hlt (by omega)), trivial⟩ ⟨.inr rfl, .inr ?_, trivial⟩ trivial rfl rfl rfl ?_ rfl)
    · show some (Ob.mk 61 2 0 (((ofP pl k).set (0 + ((k : Nat) : Int).toNat) ⟨1, pl.getD k 0⟩).map termC)) = _
      rw [Nat.zero_add, Int.toNat_natCast, ofP_set pl k hlt]
    · simp [ltOB, termC, siteC, opC, shapeC, AV.lt]
  · have hke : k = pl.length := by simp at h61; omega
    subst hke
    refine W_exit ?_
    repeat (first | refine pass_then ?_ | refine pass_round ?_)
    refine blockQ_hit ?_
    refine zs ?_
    refine zs ?_
    refine zR ?_
    refine zLP ?_
    refine zLP ?_
    refine zLI ?_
    refine zLB ?_
    refine zn ?_
    refine W_cond_t (b := _) rfl (by exact hc74) ?_
    refine zs ?_
    refine zR ?_
    refine zLP ?_
    refine zLP ?_
    refine zLO ?_
    refine zLI ?_
    refine zLI ?_
    (refine L_v Tb_ok (v := _) (ave_index_ro rfl rfl rfl (fun _ => rfl) rfl (by first | exact hb0 | exact hb1) (by first | exact hb0 | exact hb1) trivial) rfl ?_)
    refine zLI ?_
    refine zLI ?_
    refine zLI ?_
    refine zn ?_
    refine zs ?_
    refine zR ?_
    refine zLP ?_
    refine zLP ?_
    refine zLO ?_
    refine zLI ?_
    refine zLI ?_
    refine zLP ?_
    refine zLI ?_
    refine zLI ?_
    refine zLI ?_
    refine zLP ?_
    refine zLI ?_
    refine zLI ?_
    refine L_slice Tb_ok (el := 94) (sz := 1) rfl rfl rfl rfl rfl rfl (fun c hc => by obtain ⟨x, _, rfl⟩ := List.mem_map.1 hc; rfl) (by exact hw0) (by (show w64 (w64 (ch - 1) * (findS m op).Len) ≤ w64 (ch * (findS m op).Len); omega)) (by (show w64 (ch * (findS m op).Len) ≤ ((((findS m op).Op.Weights.map i16C).length : Nat) : Int); rw [List.length_map]; exact hw2)) ⟨trivial, trivial, trivial⟩ rfl ?_
    refine zLI ?_
    refine zLI ?_
    refine zn ?_
    refine W_block ?_
    refine W_inv (ι := {k : Nat // k ≤ pl.length}) (fun k => ⟨[(13, .int .i64 (w64 ((findS m op).Op.Bias.getD (w64 (ch - 1)).toNat default))), (14, .row 2 0 (findS m op).Len.toNat), (95, .ro ((ofWs (findS m op) ch).map i16C)), (96, .int .i64 (pl.length : Int)), (97, .int .i64 (k.1 : Int))], [(2, some ⟨61, 2, 0, (ofQ pl ((ofWs (findS m op) ch).map w64) k.1).map termC⟩)], [], 3⟩) (fun k => pl.length - k.1) ⟨0, Nat.zero_le _⟩ (le_fit ⟨rfl, rfl, congrArg AV.ro ?_, congrArg (AV.int .i64) ?_, rfl, trivial⟩ ⟨.inr ?_, trivial⟩ trivial rfl rfl rfl ?_ rfl) ?_
    · simp only [ofWs, List.map_take, List.map_drop]; rfl
    · rw [← hwl]; simp only [ofWs, List.length_take, List.length_drop, List.length_map]; rfl
    · rw [ofQ_zero]; rfl
    · simp [ltOB, termC, AV.lt]
    rintro ⟨j, hj⟩
    refine zs ?_
    refine zR ?_
    refine zLB ?_
    refine zn ?_
    refine zs ?_
    refine W_cond (b := _) rfl (fun h98 => ?_) (fun h98 => ?_)
    · have hlj : j < pl.length := by simpa using h98
      refine zk ?_
      refine zs ?_
      refine W_block ?_
      refine zs ?_
      refine zR ?_
      refine zLI ?_
      (refine L_v Tb_ok (v := _) (ave_index_ro rfl rfl rfl (fun _ => rfl) rfl (by first | omega | assumption | decide | (simp_all; done) | (simp_all; omega)) (by first | omega | assumption | decide | (simp_all; done) | (simp_all; omega)) trivial) rfl ?_)
      refine zLI ?_
      refine zLI ?_
      refine zLI ?_
      refine zn ?_
      refine zR ?_
      refine zLW ?_
      refine zLI ?_
      refine zLI ?_
      refine zLI ?_
      (refine L_v Tb_ok (v := _) (ave_index_row rfl rfl rfl rfl rfl rfl (by first | omega | assumption | decide | (simp_all; done) | (simp_all; omega)) (by first | omega | assumption | decide | (simp_all; done) | (simp_all; omega)) trivial) rfl ?_)
      refine zLP ?_
      refine L_store_row Tb_ok (f := termC) (xs := ofQ pl ((ofWs (findS m op) ch).map w64) j) (v := .int _ _) (cs := [_]) (v' := ⟨((ofWs (findS m op) ch).map w64).getD j 0, ((ofQ pl ((ofWs (findS m op) ch).map w64) j).getD j default).At⟩) rfl rfl rfl rfl rfl rfl ?_ rfl ?_ rfl ⟨trivial, trivial⟩ ?_
      · have hlw : j < (ofWs (findS m op) ch).length := by omega
        simp [termC, w64, List.getD_eq_getElem?_getD, hlw]
      · rw [ofQ_len]; simp; omega
      refine zn ?_
      refine zR ?_
      refine zLI ?_
      refine zLI ?_
      refine zn ?_
      refine round_end ⟨j + 1, hlj⟩ (by dsimp only; omega) (le_fit ⟨rfl, rfl, rfl, rfl, congrArg _ (w_succ hlj (by omega)), trivial⟩ ⟨.inr ?_, trivial⟩ trivial rfl rfl rfl ?_ rfl)
      · show some (Ob.mk 61 2 0 (((ofQ pl ((ofWs (findS m op) ch).map w64) j).set (0 + ((j : Nat) : Int).toNat) ⟨((ofWs (findS m op) ch).map w64).getD j 0, ((ofQ pl ((ofWs (findS m op) ch).map w64) j).getD j default).At⟩).map termC)) = _
        rw [Nat.zero_add, Int.toNat_natCast, ofQ_set pl _ j hlj]
      · simp [ltOB, termC, AV.lt]
    · refine W_exit ?_
      repeat (first | refine pass_then ?_ | refine pass_round ?_)
      refine blockQ_hit ?_
      refine zs ?_
      refine zR ?_
      have hke : j = pl.length := by simp at h98; omega
      refine L_freeze (t := 14) (id := 2) (n := (findS m op).Len.toNat) (l := (ofQ pl ((ofWs (findS m op) ch).map w64) j).map termC) rfl rfl ?_ rfl rfl ?_ ?_ ?_
      · show _ = ((ofQ pl ((ofWs (findS m op) ch).map w64) j).map termC).length
        rw [List.length_map, ofQ_len, hpn]; rfl
      · show ((ofQ pl ((ofWs (findS m op) ch).map w64) j).map termC).map (·.map demC) = _
        simp [termC, demC]
      · simp [termC, grC]
      refine zLO ?_
      refine zLI ?_
      refine zLO ?_
      refine zLI ?_
      refine zLI ?_
      refine zn ?_
      refine zt ?_
      (refine ends (l := [.ro _, .int _ _, .int _ _]) (q := .tup [.ro _, .int _ _, .int _ _]) (.inr rfl) rfl ⟨trivial, trivial, trivial, trivial⟩ rfl rfl ?_)
      rw [hke]
end Go.AM
end
section
open Go Go.AM Go.Proofs
set_option maxRecDepth 10000
set_option linter.unusedVariables false
set_option linter.unusedSimpArgs false
namespace Go.AM
/-- nothing is given -/
theorem window_Taps1 : ItOk Try.prog 76 [] [] := by
  refine it_ok (fn := Try.f76) Try.func76 rfl (n := 2) rfl rfl rfl rfl ?_
  intro ic cc hok hxs hpin
  simp only [pinEnv, Nat.reduceAdd]
  refine V_skip ?_
  exact ⟨by first | exact .inl rfl | exact .inr rfl, .inr rfl⟩
/-- the place that a tap covers -/
def tapPlace (s : Shape) (w : Window) (top left : Int) (k : Int) : Int :=
  let y := w64 (top + w64 (k.tdiv w.KW)); let x := w64 (left + k.tmod w.KW)
  bif bif inB y 0 (w64 (s.H - 1)) then inB x 0 (w64 (s.W - 1)) else false then w64 (w64 (y * s.W) + x) else -1
def tapN (w : Window) : Nat := (w64 (w.KH * w.KW)).toNat
def tapList (s : Shape) (w : Window) (top left : Int) : List (List AV) := (List.range (tapN w)).map fun (k : Nat) => [.int .i64 (k : Int), .int .i64 (tapPlace s w top left k)]
theorem tap_get {s : Shape} {w : Window} {top left : Int} {k : Nat} {v : Int} (h : k < tapN w) (hv : tapPlace s w top left k = v) : (tapList s w top left)[k]? = some [.int .i64 (k : Int), .int .i64 v] := by
  subst hv; simp [tapList, h]
theorem window_Taps2 (s : Shape) (w : Window) (top left : Int) (h0 : w.KW ≠ 0) (h1 : 0 ≤ w64 (w.KH * w.KW)) (hB : w64 (w.KH * w.KW) ≤ 4611686018427387904) : ItOk Try.prog 77 [.rptr (windowC w), .rptr [.int .i64 top], .rptr [.int .i64 left], .rptr (shapeC s)] (tapList s w top left) := by
  have hN : w64 (w.KH * w.KW) = (tapN w : Int) := by simp only [tapN]; omega
  refine it_ok (fn := Try.f77) Try.func77 rfl (n := 54) rfl rfl rfl rfl ?_
  intro ic cc hok hxs hpin
  simp only [pinEnv, Nat.reduceAdd]
  refine V_seq ?_
  refine V_of_W ?_
  refine zR ?_
  first | (refine L_v Tb_ok (v := .ptr _ _ _) (av rfl ⟨trivial, trivial⟩) rfl ?_) | (refine L_v Tb_ok (v := .rptr _) (av rfl ⟨trivial, trivial⟩) rfl ?_)
  refine zLI ?_
  first | (refine L_v Tb_ok (v := .ptr _ _ _) (av rfl ⟨trivial, trivial⟩) rfl ?_) | (refine L_v Tb_ok (v := .rptr _) (av rfl ⟨trivial, trivial⟩) rfl ?_)
  refine zLI ?_
  refine zLI ?_
  refine zLI ?_
  refine zn ?_
  refine V_block ?_
  refine V_for (tapN w) (fun k => ⟨[(0, .yl ic.l), (1, .pin (cc 0) (.rptr (windowC w))), (2, .pin (cc 1) (.rptr [.int .i64 top])), (3, .pin (cc 2) (.rptr [.int .i64 left])), (4, .pin (cc 3) (.rptr (shapeC s))), (14, .int .i64 (w64 (w.KH * w.KW))), (15, .int .i64 (k : Int))], [], [], 100⟩) (le_env ⟨rfl, rfl, rfl, rfl, rfl, rfl, rfl, trivial⟩) ?_
  intro k hk
  refine V_seq ?_
  refine V_of_W ?_
  refine zR ?_
  refine zLB ?_
  refine zn ?_
  refine V_seq ?_
  refine V_cond (b := _) rfl (fun h16 => ?_) (fun h16 => ?_)
  · have hlt : k < tapN w := by rw [hN] at h16; simpa using h16
    refine V_skip ?_
    refine V_seq ?_
    refine V_block ?_
    refine V_seq ?_
    refine V_of_W ?_
    refine zR ?_
    refine zLI ?_
    refine zLI ?_
    refine zn ?_
    refine V_seq ?_
    refine V_of_W ?_
    refine W_draw 14 Tb_mixed rfl (by decide) (by kernel_rfl) (by kernel_rfl) ?_
    refine zEI ?_
    refine zEI ?_
    first | (refine E_v Tb_ok (v := .ptr _ _ _) (av rfl ⟨trivial, trivial⟩) rfl ?_) | (refine E_v Tb_ok (v := .rptr _) (av rfl ⟨trivial, trivial⟩) rfl ?_)
    refine zEI ?_
    refine E_v Tb_ok (v := .int _ _) (av rfl ⟨trivial, (by exact h0)⟩) rfl ?_
    refine zEI ?_
    refine zEI ?_
    refine zEI ?_
    first | (refine E_v Tb_ok (v := .ptr _ _ _) (av rfl ⟨trivial, trivial⟩) rfl ?_) | (refine E_v Tb_ok (v := .rptr _) (av rfl ⟨trivial, trivial⟩) rfl ?_)
    refine zEI ?_
    refine E_v Tb_ok (v := .int _ _) (av rfl ⟨trivial, (by exact h0)⟩) rfl ?_
    refine zEI ?_
    refine zEI ?_
    refine zEI ?_
    refine LexE_nil ?_
    refine zn ?_
    refine V_seq ?_
    refine V_of_W ?_
    refine zR ?_
    refine zLI ?_
    refine zn ?_
    refine V_seq ?_
    refine V_seq ?_
    refine V_of_W ?_
    refine zR ?_
    refine zLI ?_
    first | (refine L_v Tb_ok (v := .ptr _ _ _) (av rfl ⟨trivial, trivial⟩) rfl ?_) | (refine L_v Tb_ok (v := .rptr _) (av rfl ⟨trivial, trivial⟩) rfl ?_)
    refine zLI ?_
    refine zLI ?_
    refine zLc (within _ _ _) ?_
    refine zLB ?_
    refine zgLI ?_
    first | (refine L_g Tb_ok (v := .ptr _ _ _) rfl rfl ((fun hg => (av rfl ⟨trivial, trivial⟩))) rfl rfl ?_) | (refine L_g Tb_ok (v := .rptr _) rfl rfl ((fun hg => (av rfl ⟨trivial, trivial⟩))) rfl rfl ?_)
    refine zgLI ?_
    refine zgLI ?_
    refine L_callg (hr := fun hg => within _ _ _) rfl rfl rfl rfl rfl (fun hg => ⟨⟨(by first | exact hg | (simp_all; done) | (simp at hg ⊢; simp [hg])), True.intro⟩, ⟨⟨(by first | exact hg | (simp_all; done) | (simp at hg ⊢; simp [hg])), True.intro⟩, True.intro⟩⟩) rfl rfl ?_
    refine zpLB ?_
    refine zn ?_
    refine V_cond (b := _) rfl (fun h41 => ?_) (fun h41 => ?_)
    · have hv : tapPlace s w top left k = w64 (w64 (w64 (top + w64 ((k : Int).tdiv w.KW)) * s.W) + w64 (left + (k : Int).tmod w.KW)) := by simp only [tapPlace, w64]; rw [h41]; rfl
      refine V_of_W ?_
      refine zR ?_
      refine zLI ?_
      first | (refine L_v Tb_ok (v := .ptr _ _ _) (av rfl ⟨trivial, trivial⟩) rfl ?_) | (refine L_v Tb_ok (v := .rptr _) (av rfl ⟨trivial, trivial⟩) rfl ?_)
      refine zLI ?_
      refine zLI ?_
      refine zLI ?_
      refine zLI ?_
      refine zLI ?_
      refine zn ?_
      refine V_seq ?_
      refine V_region rfl ?_
      refine VL_pre [_, _, _] _ rfl ?_
      first | (refine L_v Tb_ok (v := .fn _ _ _) (av rfl ⟨trivial, trivial⟩) rfl ?_) | (refine L_v Tb_ok (v := .nilf) (av rfl ⟨trivial, trivial⟩) rfl ?_) | (refine L_v Tb_ok (v := .yl _) (av rfl ⟨trivial, trivial⟩) rfl ?_)
      refine zLI ?_
      refine zLI ?_
      refine zn ?_
      refine VL_yield hok rfl trivial rfl rfl trivial (by rw [hxs]; exact tap_get hlt hv) (by rw [hpin]; simp [pinsIn, pinsOf]) rfl ?_ ?_
      · refine VL_pre [_] [] rfl ?_
        refine zLB ?_
        refine zn ?_
        refine VL_nil ?_
        refine V_cond_f (b := _) rfl (by first | exact hc52 | rfl | decide | simp_all) ?_
        refine V_skip ?_
        refine V_of_W ?_
        refine zR ?_
        refine zLI ?_
        refine zLI ?_
        refine zn ?_
        refine forV_end hlt (le_fit ⟨rfl, rfl, rfl, rfl, rfl, rfl, congrArg _ (w_succ hlt (by omega)), trivial⟩ trivial trivial rfl rfl rfl rfl rfl)
      · refine VL_pre [_] [] rfl ?_
        refine zLB ?_
        refine zn ?_
        refine VL_nil ?_
        refine V_cond_t (b := _) rfl (by first | exact hc52 | rfl | decide | simp_all) ?_
        refine V_ret ?_
        exact ⟨by first | exact .inl rfl | exact .inr rfl, by first | exact .inl rfl | exact .inr (by rw [hke]; simp [tapList])⟩
    · have hv : tapPlace s w top left k = -1 := by simp only [tapPlace, w64]; rw [h41]; rfl
      refine V_skip ?_
      refine V_seq ?_
      refine V_region rfl ?_
      refine VL_pre [_, _, _] _ rfl ?_
      first | (refine L_v Tb_ok (v := .fn _ _ _) (av rfl ⟨trivial, trivial⟩) rfl ?_) | (refine L_v Tb_ok (v := .nilf) (av rfl ⟨trivial, trivial⟩) rfl ?_) | (refine L_v Tb_ok (v := .yl _) (av rfl ⟨trivial, trivial⟩) rfl ?_)
      refine zLI ?_
      refine zLI ?_
      refine zn ?_
      refine VL_yield hok rfl trivial rfl rfl trivial (by rw [hxs]; exact tap_get hlt hv) (by rw [hpin]; simp [pinsIn, pinsOf]) rfl ?_ ?_
      · refine VL_pre [_] [] rfl ?_
        refine zLB ?_
        refine zn ?_
        refine VL_nil ?_
        refine V_cond_f (b := _) rfl (by first | exact hc52 | rfl | decide | simp_all) ?_
        refine V_skip ?_
        refine V_of_W ?_
        refine zR ?_
        refine zLI ?_
        refine zLI ?_
        refine zn ?_
        refine forV_end hlt (le_fit ⟨rfl, rfl, rfl, rfl, rfl, rfl, congrArg _ (w_succ hlt (by omega)), trivial⟩ trivial trivial rfl rfl rfl rfl rfl)
      · refine VL_pre [_] [] rfl ?_
        refine zLB ?_
        refine zn ?_
        refine VL_nil ?_
        refine V_cond_t (b := _) rfl (by first | exact hc52 | rfl | decide | simp_all) ?_
        refine V_ret ?_
        exact ⟨by first | exact .inl rfl | exact .inr rfl, by first | exact .inl rfl | exact .inr (by rw [hke]; simp [tapList])⟩
  · have hke : k = tapN w := by rw [hN] at h16; simp at h16; omega
    refine V_exit ?_
    repeat (first | refine passV_then ?_ | refine passV_round ?_ | refine passV_for ?_ | refine blockV_miss rfl ?_)
    refine blockV_hit ?_
    exact ⟨by first | exact .inl rfl | exact .inr rfl, by first | exact .inl rfl | exact .inr (by rw [hke]; simp [tapList])⟩
end Go.AM
end
section
open Go Go.AM Go.Proofs
set_option maxRecDepth 10000
set_option linter.unusedVariables false
set_option linter.unusedSimpArgs false
namespace Go.AM
/-- what a tap gives, a channel after the other -/
def plRow (C first : Int) (cnt : Nat) (p : Int) : List Int := (List.range cnt).map fun (c : Nat) => bif decide (p < 0) then -1 else w64 (w64 (p * C) + (first + (c : Int)))
def plOut (s : Shape) (w : Window) (top left first : Int) (cnt k : Nat) : List Int := (List.range k).flatMap fun (i : Nat) => plRow s.C first cnt (tapPlace s w top left i)
theorem plRow_len (C first p : Int) (cnt : Nat) : (plRow C first cnt p).length = cnt := by simp [plRow]
theorem plOut_len (s : Shape) (w : Window) (top left first : Int) (cnt k : Nat) : (plOut s w top left first cnt k).length = k * cnt := by
  induction k with
  | zero => simp [plOut]
  | succ k ih =>
    have : plOut s w top left first cnt (k + 1) = plOut s w top left first cnt k ++ plRow s.C first cnt (tapPlace s w top left k) := by simp [plOut, List.range_succ]
    rw [this, List.length_append, ih, plRow_len, Nat.add_mul, Nat.one_mul]
theorem plOut_succ (s : Shape) (w : Window) (top left first : Int) (cnt k : Nat) : plOut s w top left first cnt (k + 1) = plOut s w top left first cnt k ++ plRow s.C first cnt (tapPlace s w top left k) := by simp [plOut, List.range_succ]
theorem plRow_take (C first p : Int) (cnt j : Nat) (L : List Int) (v : Int) (h : j < cnt) (hv : (bif decide (p < 0) then -1 else w64 (w64 (p * C) + (first + (j : Int)))) = v) : (L ++ (plRow C first cnt p).take j) ++ [v] = L ++ (plRow C first cnt p).take (j + 1) := by
  rw [List.append_assoc, List.take_add_one]
  congr 2
  simp [plRow, h, hv]
theorem tap_inv {s : Shape} {w : Window} {top left : Int} {k : Nat} {x : List AV} (h : (tapList s w top left)[k]? = some x) : k < tapN w ∧ x = [.int .i64 (k : Int), .int .i64 (tapPlace s w top left k)] := by
  simp only [tapList, List.getElem?_map] at h
  by_cases hk : k < tapN w
  · simp [hk] at h; exact ⟨hk, h.symm⟩
  · simp [hk] at h
def plFirst (o : MOp) (ch : Int) : Int × Int := bif o.Kind == 2 then (0, w64 (ch - 1)) else (w64 (ch - 1), w64 (ch - 1))
theorem terms_places_dense (S : Site) (ch at_ : Int) (hc17 : (S.Op.Kind == 1) = true) (hl0 : 0 ≤ S.Len) (hl : S.Len ≤ 16777216) :
    Ok Try.prog 34 [.agg (siteC S), .int .i64 ch, .int .i64 at_] (.ro (((List.range S.Len.toNat).map fun (k : Nat) => (k : Int)).map intC)) := by
  have hN : S.Len = ((S.Len.toNat : Nat) : Int) := by omega
  refine fn_ok Tb_ok (fn := Try.f34) Try.func34 rfl rfl (e := [(0, _), (1, _), (2, _)]) rfl (by decide) rfl ?_
  refine zs ?_
  refine zR ?_
  refine zbx [.int _ _, .int _ _, .int _ _, .int _ _, .int _ _, .int _ _, .int _ _, .int _ _, .int _ _, .int _ _, .int _ _, .int _ _, _, _, .int _ _, .int _ _, .int _ _, .int _ _, .int _ _, .int _ _, .int _ _, .int _ _, .int _ _, .int _ _, .int _ _, .int _ _, .int _ _, .int _ _, .int _ _] 29 ?_
  refine zLN ?_
  refine zn ?_
  refine zs ?_
  refine zR ?_
  refine zal [.nils] 1 ?_
  refine zn ?_
  refine zs ?_
  refine zs ?_
  refine zR ?_
  refine zLP ?_
  refine zLP ?_
  refine zLI ?_
  refine zLB ?_
  refine zn ?_
  refine W_cond_t (b := _) rfl (by exact hc17) ?_
  refine zs ?_
  refine zs ?_
  refine zR ?_
  refine zLP ?_
  refine zLI ?_
  refine zLI ?_
  refine zn ?_
  refine W_block ?_
  refine W_nilO (id := 1) (j := 0) (el := 3) (esz := 1) rfl rfl rfl rfl ?_
  refine W_for S.Len.toNat (fun k => ⟨[(3, .ptr 0 0 0), (7, .ptr 1 0 0), (19, .int .i64 S.Len), (20, .int .i64 (k : Int))], [(1, some ⟨92, 1, 0, [[.app 2 (((List.range k).map fun (k : Nat) => (k : Int)).map intC)]]⟩)], [(2, some (3, 1, ((List.range k).map fun (k : Nat) => (k : Int)).length))], 3⟩) (le_fit ⟨rfl, rfl, rfl, rfl, trivial⟩ ⟨.inr rfl, trivial⟩ ⟨.inr rfl, trivial⟩ rfl rfl rfl rfl rfl) ?_
  intro k hk
  have e1 : ((List.range k).map fun (k : Nat) => (k : Int)) ++ [(k : Int)] = (List.range (k + 1)).map fun (k : Nat) => (k : Int) := by simp [List.range_succ]
  refine zs ?_
  refine zR ?_
  refine zLB ?_
  refine zn ?_
  refine zs ?_
  refine W_cond (b := _) rfl (fun h21 => ?_) (fun h21 => ?_)
  · have hlt : k < S.Len.toNat := by have := of_decide_eq_true h21; omega
    refine zk ?_
    refine zs ?_
    refine W_block ?_
    refine zs ?_
    refine zR ?_
    refine zLI ?_
    refine zLI ?_
    refine zn ?_
    refine zR ?_
    refine zLA ?_
    refine zLI ?_
    refine L_build Tb_ok (t := 92) (len := 1) (el := 3) (sz := 1) (es := [[_]]) (z := [.int .i64 0]) rfl rfl rfl rfl rfl (by decide) trivial rfl rfl rfl rfl rfl ?_
    refine L_app1 Tb_ok (f := intC) (v := (k : Int)) (tok := 2) (el := 3) (sz := 1) rfl rfl rfl rfl rfl ⟨trivial, trivial⟩ (fun _ => ⟨rfl, rfl⟩) (by rw [show (Tb.at 3).bytes = 8 from rfl]; simp; omega) rfl ?_
    refine zst (.app _ _) [_] [[_]] ?_
    refine zn ?_
    refine zR ?_
    refine zLI ?_
    refine zLI ?_
    refine zn ?_
    refine for_end hlt (le_fit ⟨rfl, rfl, rfl, congrArg _ (w_succ hlt (by omega)), trivial⟩ ⟨.inr ?_, trivial⟩ ⟨.inr ?_, trivial⟩ rfl rfl rfl rfl rfl)
    · show some (Ob.mk 92 1 0 [[.app 2 ((((List.range k).map fun (k : Nat) => (k : Int)) ++ [(k : Int)]).map intC)]]) = _
      rw [e1]
    · show some (3, 1, (((List.range k).map fun (k : Nat) => (k : Int)) ++ [(k : Int)]).length) = _
      rw [e1]
  · have hke : k = S.Len.toNat := by have := of_decide_eq_false h21; omega
    refine W_exit ?_
    repeat (first | refine pass_then ?_ | refine pass_for ?_)
    refine blockQ_hit ?_
    refine zs ?_
    refine zR ?_
    refine zLA ?_
    refine zLA ?_
    refine zn ?_
    refine zt ?_
    (refine ends (l := [.app _ _]) (q := .ro _) (.inr rfl) rfl ⟨trivial, trivial⟩ rfl rfl ?_)
    rw [hke]
theorem terms_places_taps (S : Site) (ch at_ : Int) (hc17 : (S.Op.Kind == 1) = false) (hbad : tapsBad S.In S.Op.Win at_ = false) (hkw : S.Op.Win.KW ≠ 0) (hn : 0 ≤ w64 (S.Op.Win.KH * S.Op.Win.KW)) (hn2 : w64 (S.Op.Win.KH * S.Op.Win.KW) ≤ 4096) (cnt : Nat) (hcnt : cnt ≤ 4096) (f l : Int) (hf0 : 0 ≤ f) (hf1 : f ≤ 1000000) (hl : l = f + cnt - 1)
    (hX : (bif S.Op.Kind == 2 then ((0 : Int), w64 (S.In.C - 1)) else (w64 (ch - 1), w64 (ch - 1))) = (f, l)) :
    Ok Try.prog 34 [.agg (siteC S), .int .i64 ch, .int .i64 at_] (.ro ((plOut S.In S.Op.Win (tapsTop S.In S.Op.Win at_) (tapsLeft S.In S.Op.Win at_) f cnt (tapN S.Op.Win)).map intC)) := by
  have hT : tapN S.Op.Win ≤ 4096 := by simp only [tapN]; omega
  refine fn_ok Tb_ok (fn := Try.f34) Try.func34 rfl rfl (e := [(0, _), (1, _), (2, _)]) rfl (by decide) rfl ?_
  refine zs ?_
  refine zR ?_
  refine zbx [.int _ _, .int _ _, .int _ _, .int _ _, .int _ _, .int _ _, .int _ _, .int _ _, .int _ _, .int _ _, .int _ _, .int _ _, _, _, .int _ _, .int _ _, .int _ _, .int _ _, .int _ _, .int _ _, .int _ _, .int _ _, .int _ _, .int _ _, .int _ _, .int _ _, .int _ _, .int _ _, .int _ _] 29 ?_
  refine zLN ?_
  refine zn ?_
  refine zs ?_
  refine zR ?_
  refine zal [.nils] 1 ?_
  refine zn ?_
  refine zs ?_
  refine zs ?_
  refine zR ?_
  refine zLP ?_
  refine zLP ?_
  refine zLI ?_
  refine zLB ?_
  refine zn ?_
  refine W_cond_f (b := _) rfl (by exact hc17) ?_
  refine zk ?_
  refine zs ?_
  refine zR ?_
  refine zLI ?_
  refine zLI ?_
  refine zLI ?_
  refine zLI ?_
  refine zal [.int .i64 0] 1 ?_
  refine zal [.int .i64 0] 1 ?_
  refine zst (.int _ _) [_] [[_]] ?_
  refine zst (.int _ _) [_] [[_]] ?_
  refine zn ?_
  refine zs ?_
  refine zs ?_
  refine zR ?_
  refine zLP ?_
  refine zLP ?_
  refine zLI ?_
  refine zLB ?_
  refine zn ?_
  refine W_ift (b := _) (M := ⟨[(2, .int .i64 at_), (3, .ptr 0 0 0), (7, .ptr 1 0 0), (9, .ptr 2 0 0), (10, .ptr 3 0 0)], [(0, some ⟨89, 29, 0, [siteC S]⟩), (1, some ⟨92, 1, 0, [[.nils]]⟩), (2, some ⟨3, 1, 0, [[.int .i64 (bif S.Op.Kind == 2 then ((0 : Int), w64 (S.In.C - 1)) else (w64 (ch - 1), w64 (ch - 1))).1]]⟩), (3, some ⟨3, 1, 0, [[.int .i64 (bif S.Op.Kind == 2 then ((0 : Int), w64 (S.In.C - 1)) else (w64 (ch - 1), w64 (ch - 1))).2]]⟩)], [], 4⟩) (p := True) rfl (fun h36 => ?_) (fun h36 => ?_) (fun m36 => ?_)
  · refine W_drawF (fun e => [idOf (get e 9), idOf (get e 10)]) 4 [[4, 5]] Tb_mixed rfl (by decide) (by kernel_rfl) ?_
    refine zSP ?_
    refine zSP ?_
    refine zSI ?_
    refine zSI ?_
    refine S_nil ?_
    refine TT_one ?_
    refine TT_store Tb_ok (OSub_forget _ _) rfl (v := .int _ _) (cs := [_]) (es' := [[_]]) rfl rfl rfl rfl rfl rfl rfl rfl rfl rfl rfl ⟨trivial, trivial⟩ (fun ht1 => ?_)
    refine TT_store Tb_ok ht1 rfl (v := .int _ _) (cs := [_]) (es' := [[_]]) rfl rfl rfl rfl rfl rfl rfl rfl rfl rfl rfl ⟨trivial, trivial⟩ (fun ht2 => ?_)
    refine TT_nil ?_
    try clear ht2
    try clear ht1
    exact ⟨trivial, le_t (F := fun X => ⟨[(2, .int .i64 at_), (3, .ptr 0 0 0), (7, .ptr 1 0 0), (9, .ptr 2 0 0), (10, .ptr 3 0 0)], [(0, some ⟨89, 29, 0, [siteC S]⟩), (1, some ⟨92, 1, 0, [[.nils]]⟩), (2, some ⟨3, 1, 0, [[.int .i64 X.1]]⟩), (3, some ⟨3, 1, 0, [[.int .i64 X.2]]⟩)], [], 4⟩) (x := ((0 : Int), w64 (S.In.C - 1))) (y := (w64 (ch - 1), w64 (ch - 1))) h36 (le_fit ⟨rfl, rfl, rfl, rfl, rfl, trivial⟩ ⟨.inr rfl, .inr rfl, .inr rfl, .inr rfl, trivial⟩ trivial rfl rfl rfl rfl rfl)⟩
  · refine zk ?_
    exact ⟨trivial, le_f (F := fun X => ⟨[(2, .int .i64 at_), (3, .ptr 0 0 0), (7, .ptr 1 0 0), (9, .ptr 2 0 0), (10, .ptr 3 0 0)], [(0, some ⟨89, 29, 0, [siteC S]⟩), (1, some ⟨92, 1, 0, [[.nils]]⟩), (2, some ⟨3, 1, 0, [[.int .i64 X.1]]⟩), (3, some ⟨3, 1, 0, [[.int .i64 X.2]]⟩)], [], 4⟩) (x := ((0 : Int), w64 (S.In.C - 1))) (y := (w64 (ch - 1), w64 (ch - 1))) h36 (le_fit ⟨rfl, rfl, rfl, rfl, rfl, trivial⟩ ⟨.inr rfl, .inr rfl, .inr rfl, .inr rfl, trivial⟩ trivial rfl rfl rfl rfl rfl)⟩
  refine zs ?_
  refine zs ?_
  refine zR ?_
  rw [hX]
  refine zLP ?_
  refine zLG [.int _ _, .int _ _, .int _ _] ?_
  refine zLP ?_
  refine zLP ?_
  refine zLG [.int _ _, .int _ _, .int _ _, .int _ _, .int _ _, .int _ _, .int _ _, .int _ _] ?_
  refine zLI ?_
  refine zLc (window_Taps_yes S.In S.Op.Win at_ hbad) ?_
  refine zn ?_
  refine W_block ?_
  refine W_nilO (id := 1) (j := 0) (el := 3) (esz := 1) rfl rfl rfl rfl ?_
  refine W_range (xs := tapList S.In S.Op.Win (tapsTop S.In S.Op.Win at_) (tapsLeft S.In S.Op.Win at_)) rfl trivial rfl rfl (window_Taps2 _ _ _ _ hkw hn (by omega)) rfl (fun x hx => by obtain ⟨k, hk⟩ := List.getElem?_of_mem hx; rw [(tap_inv hk).2]; rfl)
    (fun k => ([(0, some ⟨89, 29, 0, [siteC S]⟩), (1, some ⟨92, 1, 0, [[.app 4 ((plOut S.In S.Op.Win (tapsTop S.In S.Op.Win at_) (tapsLeft S.In S.Op.Win at_) f cnt k).map intC)]]⟩), (2, some ⟨3, 1, 0, [[.int .i64 f]]⟩), (3, some ⟨3, 1, 0, [[.int .i64 l]]⟩)], [(4, some (3, 1, (plOut S.In S.Op.Win (tapsTop S.In S.Op.Win at_) (tapsLeft S.In S.Op.Win at_) f cnt k).length))], 5))
    (le_fit trivial ⟨.inr rfl, .inr rfl, .inr rfl, .inr rfl, trivial⟩ ⟨.inr rfl, trivial⟩ rfl rfl rfl rfl rfl) ?_ ?_
  · intro k x hx
    obtain ⟨hk, rfl⟩ := tap_inv hx
    refine zR ?_
    refine zLI ?_
    refine zn ?_
    refine W_block ?_
    refine zs ?_
    refine zR ?_
    refine zLI ?_
    refine zLI ?_
    refine zn ?_
    refine W_block ?_
    refine W_for cnt (fun j => ⟨[(3, .ptr 0 0 0), (7, .ptr 1 0 0), (9, .ptr 2 0 0), (10, .ptr 3 0 0), (12, .int .i64 (tapPlace S.In S.Op.Win (tapsTop S.In S.Op.Win at_) (tapsLeft S.In S.Op.Win at_) (k : Int))), (13, .int .i64 (f + (j : Int)))], [(0, some ⟨89, 29, 0, [siteC S]⟩), (1, some ⟨92, 1, 0, [[.app 4 ((plOut S.In S.Op.Win (tapsTop S.In S.Op.Win at_) (tapsLeft S.In S.Op.Win at_) f cnt k ++ (plRow S.In.C f cnt (tapPlace S.In S.Op.Win (tapsTop S.In S.Op.Win at_) (tapsLeft S.In S.Op.Win at_) (k : Int))).take j).map intC)]]⟩), (2, some ⟨3, 1, 0, [[.int .i64 f]]⟩), (3, some ⟨3, 1, 0, [[.int .i64 l]]⟩)], [(4, some (3, 1, (plOut S.In S.Op.Win (tapsTop S.In S.Op.Win at_) (tapsLeft S.In S.Op.Win at_) f cnt k ++ (plRow S.In.C f cnt (tapPlace S.In S.Op.Win (tapsTop S.In S.Op.Win at_) (tapsLeft S.In S.Op.Win at_) (k : Int))).take j).length))], 5⟩)
      (le_fit ⟨rfl, rfl, rfl, rfl, rfl, congrArg _ (show f = f + ((0 : Nat) : Int) by simp), trivial⟩ ⟨.inr rfl, .inr (by simp; rfl), .inr rfl, .inr rfl, trivial⟩ ⟨.inr (by simp; rfl), trivial⟩ rfl rfl rfl rfl rfl) ?_
    intro j hj
    have hlen : (plOut S.In S.Op.Win (tapsTop S.In S.Op.Win at_) (tapsLeft S.In S.Op.Win at_) f cnt k ++ (plRow S.In.C f cnt (tapPlace S.In S.Op.Win (tapsTop S.In S.Op.Win at_) (tapsLeft S.In S.Op.Win at_) (k : Int))).take j).length ≤ 33554432 := by
      have h1 := plOut_len S.In S.Op.Win (tapsTop S.In S.Op.Win at_) (tapsLeft S.In S.Op.Win at_) f cnt k
      have h2 : k * cnt ≤ 4096 * 4096 := Nat.mul_le_mul (by omega) hcnt
      rw [List.length_append, h1, List.length_take]; omega
    refine zs ?_
    refine zs ?_
    refine zR ?_
    refine zLI ?_
    refine zLI ?_
    refine zLB ?_
    refine zn ?_
    refine W_cond (b := _) rfl (fun h53 => ?_) (fun h53 => ?_)
    · have hlt : j < cnt := by have := of_decide_eq_true h53; omega
      refine zk ?_
      refine zs ?_
      refine W_block ?_
      refine zs ?_
      refine zR ?_
      refine zLI ?_
      refine zLB ?_
      refine zn ?_
      refine W_cond (b := _) rfl (fun h57 => ?_) (fun h57 => ?_)
      · have hap := plRow_take S.In.C f (tapPlace S.In S.Op.Win (tapsTop S.In S.Op.Win at_) (tapsLeft S.In S.Op.Win at_) (k : Int)) cnt j (plOut S.In S.Op.Win (tapsTop S.In S.Op.Win at_) (tapsLeft S.In S.Op.Win at_) f cnt k) (-1) hlt (by rw [h57]; rfl)
        refine zR ?_
        refine zLA ?_
        refine L_build Tb_ok (t := 92) (len := 1) (el := 3) (sz := 1) (es := [[_]]) (z := [.int .i64 0]) rfl rfl rfl rfl rfl (by decide) trivial rfl rfl rfl rfl rfl ?_
        refine L_app1 Tb_ok (f := intC) (v := -1) (tok := 4) (el := 3) (sz := 1) rfl rfl rfl rfl rfl ⟨trivial, trivial⟩ (fun _ => ⟨rfl, rfl⟩) (by rw [show (Tb.at 3).bytes = 8 from rfl]; omega) rfl ?_
        refine zst (.app _ _) [_] [[_]] ?_
        refine zn ?_
        refine zR ?_
        refine zLI ?_
        refine zLI ?_
        refine zLI ?_
        refine zn ?_
        refine for_end hlt (le_fit ⟨rfl, rfl, rfl, rfl, rfl, congrArg (AV.int .i64) (show IntKind.i64.wrap (f + (j : Int) + 1) = f + ((j + 1 : Nat) : Int) by rw [w64_id (by omega)]; omega), trivial⟩ ⟨.inr rfl, .inr ?_, .inr rfl, .inr rfl, trivial⟩ ⟨.inr ?_, trivial⟩ rfl rfl rfl rfl rfl)
        · exact congrArg (fun z => some (Ob.mk 92 1 0 [[.app 4 (List.map intC z)]])) hap
        · exact congrArg (fun z => some (3, 1, List.length z)) hap
      · have hap := plRow_take S.In.C f (tapPlace S.In S.Op.Win (tapsTop S.In S.Op.Win at_) (tapsLeft S.In S.Op.Win at_) (k : Int)) cnt j (plOut S.In S.Op.Win (tapsTop S.In S.Op.Win at_) (tapsLeft S.In S.Op.Win at_) f cnt k) _ hlt (by rw [h57, cond_false])
        refine zR ?_
        refine zLA ?_
        refine zLI ?_
        refine zLP ?_
        refine zLP ?_
        refine zLI ?_
        refine zLI ?_
        refine zLI ?_
        refine zLI ?_
        refine L_build Tb_ok (t := 92) (len := 1) (el := 3) (sz := 1) (es := [[_]]) (z := [.int .i64 0]) rfl rfl rfl rfl rfl (by decide) trivial rfl rfl rfl rfl rfl ?_
        refine L_app1 Tb_ok (f := intC) (v := w64 (w64 (_ * _) + (f + (j : Int)))) (tok := 4) (el := 3) (sz := 1) rfl rfl rfl rfl rfl ⟨trivial, trivial⟩ (fun _ => ⟨rfl, rfl⟩) (by rw [show (Tb.at 3).bytes = 8 from rfl]; omega) rfl ?_
        refine zst (.app _ _) [_] [[_]] ?_
        refine zn ?_
        refine zR ?_
        refine zLI ?_
        refine zLI ?_
        refine zLI ?_
        refine zn ?_
        refine for_end hlt (le_fit ⟨rfl, rfl, rfl, rfl, rfl, congrArg (AV.int .i64) (show IntKind.i64.wrap (f + (j : Int) + 1) = f + ((j + 1 : Nat) : Int) by rw [w64_id (by omega)]; omega), trivial⟩ ⟨.inr rfl, .inr ?_, .inr rfl, .inr rfl, trivial⟩ ⟨.inr ?_, trivial⟩ rfl rfl rfl rfl rfl)
        · exact congrArg (fun z => some (Ob.mk 92 1 0 [[.app 4 (List.map intC z)]])) hap
        · exact congrArg (fun z => some (3, 1, List.length z)) hap
    · have hje : j = cnt := by have := of_decide_eq_false h53; omega
      refine W_exit ?_
      repeat (first | refine pass_then ?_ | refine pass_for ?_)
      refine blockQ_hit ?_
      refine le_fit trivial ⟨.inr rfl, .inr ?_, .inr rfl, .inr rfl, trivial⟩ ⟨.inr ?_, trivial⟩ rfl rfl rfl rfl rfl
      · rw [hje, List.take_of_length_le (Nat.le_of_eq (plRow_len _ _ _ _))]; exact congrArg (fun z => some (Ob.mk 92 1 0 [[.app 4 (List.map intC z)]])) (plOut_succ _ _ _ _ _ _ _).symm
      · rw [hje, List.take_of_length_le (Nat.le_of_eq (plRow_len _ _ _ _))]; exact congrArg (fun z => some (3, 1, List.length z)) (plOut_succ _ _ _ _ _ _ _).symm
  refine zs ?_
  refine zR ?_
  refine zLA ?_
  refine zLA ?_
  refine zn ?_
  refine zt ?_
  (refine ends (l := [.app _ _]) (q := .ro _) (.inr rfl) rfl ⟨trivial, trivial⟩ rfl rfl ?_)
  simp [tapList]
end Go.AM
end
section
open Go Go.AM Go.Proofs
set_option maxRecDepth 10000
set_option linter.unusedVariables false
set_option linter.unusedSimpArgs false
namespace Go.AM
/-- the places of a sum's terms -/
def plOf (S : Site) (ch at_ : Int) : List Int :=
  if S.Op.Kind = 1 then (List.range S.Len.toNat).map fun (k : Nat) => (k : Int)
  else plOut S.In S.Op.Win (tapsTop S.In S.Op.Win at_) (tapsLeft S.In S.Op.Win at_) (if S.Op.Kind = 2 then 0 else ch - 1) (if S.Op.Kind = 2 then S.In.C.toNat else 1) (tapN S.Op.Win)
theorem taps_win {S : Site} (hS : SiteOk S) (hk : S.Op.Kind ≠ 1) : w64 (S.Op.Win.KH * S.Op.Win.KW) = S.Op.Win.KH * S.Op.Win.KW ∧ 1 ≤ S.Op.Win.KH * S.Op.Win.KW ∧ S.Op.Win.KH * S.Op.Win.KW ≤ 1024 := by
  have W := windowB_iff (hS.win hk).1
  have a0 := Int.mul_le_mul W.1.1 W.2.1.1 (by omega) (by omega)
  have a2 : S.Op.Win.KH * S.Op.Win.KW ≤ 32 * 32 := Int.mul_le_mul W.1.2 W.2.1.2 (by omega) (by omega)
  exact ⟨w64_id (by omega), by omega, by omega⟩
theorem out_pos {S : Site} (hS : SiteOk S) : w64 (S.Out.H * S.Out.W) = S.Out.H * S.Out.W ∧ 1 ≤ S.Out.H * S.Out.W ∧ S.Out.H * S.Out.W ≤ 1048576 := by
  have B := shapeB_iff.1 hS.outB
  have a0 := Int.mul_le_mul B.1.1 B.2.1.1 (by omega) (by omega)
  have a2 : S.Out.H * S.Out.W ≤ 1024 * 1024 := Int.mul_le_mul B.1.2 B.2.1.2 (by omega) (by omega)
  exact ⟨w64_id (by omega), by omega, by omega⟩
theorem ofBad_iff {S : Site} {ch at_ : Int} (hS : SiteOk S) : ofBad S ch at_ = false ↔ (1 ≤ ch ∧ ch ≤ S.Out.C) ∧ 0 ≤ at_ ∧ at_ < S.Out.H * S.Out.W := by
  obtain ⟨h1, h2, h3⟩ := out_pos hS
  unfold ofBad; rw [h1]
  by_cases a : ch < 1 <;> by_cases b : ch > S.Out.C <;> by_cases c : at_ < 0 <;> by_cases d : at_ ≥ S.Out.H * S.Out.W <;> simp [a, b, c, d] <;> omega
theorem plOf_len {S : Site} (hS : SiteOk S) (ch at_ : Int) : (plOf S ch at_).length = S.Len.toNat := by
  unfold plOf
  split
  · simp
  · rename_i hk
    obtain ⟨h1, h2, h3⟩ := taps_win hS hk
    rw [plOut_len]
    unfold tapN
    rw [h1]
    split
    · rename_i k2
      have B := shapeB_iff.1 hS.inB
      rw [hS.len2 k2, ← Int.toNat_mul (by omega) (by omega)]
    · rw [hS.len3 (by have := hS.kind; omega)]; omega
theorem taps_good {S : Site} {at_ : Int} (hS : SiteOk S) (hk : S.Op.Kind ≠ 1) (h0 : 0 ≤ at_) (h1 : at_ < S.Out.H * S.Out.W) : tapsBad S.In S.Op.Win at_ = false := by
  obtain ⟨_, w2, w3, w4⟩ := hS.win hk
  obtain ⟨o1, o2, o3⟩ := out_pos hS
  unfold tapsBad
  rw [← w3, ← w4, o1, w2]
  have a : ¬ at_ < 0 := by omega
  have b : ¬ at_ ≥ S.Out.H * S.Out.W := by omega
  simp [a, b]
theorem terms_places {S : Site} {ch at_ : Int} (hS : SiteOk S) (hch : 1 ≤ ch ∧ ch ≤ S.Out.C) (hat : 0 ≤ at_ ∧ at_ < S.Out.H * S.Out.W) : Ok Try.prog 34 [.agg (siteC S), .int .i64 ch, .int .i64 at_] (.ro ((plOf S ch at_).map intC)) := by
  unfold plOf
  have B := shapeB_iff.1 hS.inB
  have O := shapeB_iff.1 hS.outB
  split
  · rename_i k1
    exact terms_places_dense S ch at_ (by simp [k1]) (by have := hS.len; omega) (by have := hS.len; omega)
  · rename_i k1
    obtain ⟨h1, h2, h3⟩ := taps_win hS k1
    have W := windowB_iff (hS.win k1).1
    have e1 : w64 (ch - 1) = ch - 1 := w64_id (by omega)
    have e2 : w64 (S.In.C - 1) = S.In.C - 1 := w64_id (by omega)
    have base := terms_places_taps S ch at_ (by simpa using k1) (taps_good hS k1 hat.1 hat.2) (by omega) (by omega) (by omega)
    by_cases k2 : S.Op.Kind = 2
    · rw [if_pos k2, if_pos k2]
      exact base S.In.C.toNat (by omega) 0 (S.In.C - 1) (by omega) (by omega) (by omega) (by rw [e1, e2, k2]; rfl)
    · rw [if_neg k2, if_neg k2]
      have hk : (S.Op.Kind == 2) = false := by simpa using k2
      exact base 1 (by omega) (ch - 1) (ch - 1) (by omega) (by omega) (by omega) (by rw [e1, e2, hk]; rfl)
/-- what Of answers -/
def termsF (m : Model) (op ch at_ : Int) : List Term :=
  if findE m op = 0 then if ofBad (findS m op) ch at_ then [] else if (findS m op).Op.Kind = 4 then ofP (plOf (findS m op) ch at_) (plOf (findS m op) ch at_).length else ofQ (plOf (findS m op) ch at_) ((ofWs (findS m op) ch).map w64) (plOf (findS m op) ch at_).length else []
def biasF (m : Model) (op ch at_ : Int) : Int :=
  if findE m op = 0 then if ofBad (findS m op) ch at_ then 0 else if (findS m op).Op.Kind = 4 then 0 else w64 ((findS m op).Op.Bias.getD (w64 (ch - 1)).toNat default) else 0
def ofE (m : Model) (op ch at_ : Int) : Int := if findE m op = 0 then if ofBad (findS m op) ch at_ then 3 else 0 else findE m op
theorem ofE_op {m : Model} {op ch at_ : Int} (h : ofE m op ch at_ = 0) : findE m op = 0 ∧ ofBad (findS m op) ch at_ = false ∧ w64 (op - 1) = op - 1 ∧ 0 ≤ op - 1 ∧ op - 1 < m.Ops.length ∧ m.Ops.length ≤ 64 := by
  unfold ofE at h
  split at h
  · rename_i h0
    split at h
    · omega
    · rename_i hb
      obtain ⟨_, ⟨h1, h2⟩, _, he, _⟩ := site_ok h0
      have := (whole_ok he).1
      exact ⟨h0, by simpa using hb, w64_id (by omega), by omega, by omega, this⟩
  · contradiction
theorem ofE_bad {m : Model} {op ch at_ : Int} (h : ofE m op ch at_ ≠ 0) : termsF m op ch at_ = [] ∧ biasF m op ch at_ = 0 := by
  unfold ofE at h
  unfold termsF biasF
  split at h
  · rename_i h0
    split at h
    · rename_i hb; rw [if_pos h0, if_pos h0, if_pos hb, if_pos hb]; exact ⟨rfl, rfl⟩
    · omega
  · rename_i h0; rw [if_neg h0, if_neg h0]; exact ⟨rfl, rfl⟩
theorem termsF_len (m : Model) (op ch at_ : Int) : (termsF m op ch at_).length ≤ 512 := by
  unfold termsF
  split
  · rename_i h0
    obtain ⟨hS, _⟩ := site_ok h0
    have hl := plOf_len hS ch at_
    have := hS.len
    split
    · simp
    · split
      · rw [ofP_len _ _ (Nat.le_refl _)]; omega
      · rw [ofQ_len]; omega
  · simp
theorem of_weights {S : Site} {ch : Int} (hS : SiteOk S) (hk : S.Op.Kind ≠ 4) (hch : 1 ≤ ch ∧ ch ≤ S.Out.C) : w64 (ch - 1) = ch - 1 ∧ w64 ((ch - 1) * S.Len) = (ch - 1) * S.Len ∧ w64 (ch * S.Len) = ch * S.Len ∧ 0 ≤ (ch - 1) * S.Len ∧ ch * S.Len - (ch - 1) * S.Len = S.Len ∧ ch * S.Len ≤ S.Op.Weights.length ∧ ch - 1 < S.Op.Bias.length := by
  have O := shapeB_iff.1 hS.outB
  have hl := hS.len
  have a0 : 0 ≤ (ch - 1) * S.Len := Int.mul_nonneg (by omega) (by omega)
  have a1 : (ch - 1) * S.Len ≤ 1024 * 512 := Int.mul_le_mul (by omega) hl.2 (by omega) (by omega)
  have b0 : 0 ≤ ch * S.Len := Int.mul_nonneg (by omega) (by omega)
  have b1 : ch * S.Len ≤ 1024 * 512 := Int.mul_le_mul (by omega) hl.2 (by omega) (by omega)
  refine ⟨w64_id (by omega), w64_id (by omega), w64_id (by omega), a0, by rw [Int.sub_mul]; omega, ?_, ?_⟩
  · rw [hS.wl hk]; exact Int.mul_le_mul_of_nonneg_right hch.2 (by omega)
  · rw [hS.bl hk]; omega
theorem terms_Of (m : Model) (op ch at_ : Int) : Ok Try.prog 13 [.agg (modelC m), .int .i64 op, .int .i64 ch, .int .i64 at_] (.tup [.ro ((termsF m op ch at_).map termC), .int .i64 (biasF m op ch at_), .int .i64 (ofE m op ch at_)]) := by
  by_cases h0 : findE m op = 0
  · obtain ⟨hS, _⟩ := site_ok h0
    have hf : (findE m op != 0) = false := by simp [h0]
    cases hb : ofBad (findS m op) ch at_ with
    | true =>
      have := terms_Of_bad m op ch at_ (.inr ⟨hf, hb⟩)
      simpa [termsF, biasF, ofE, h0, hb] using this
    | false =>
      obtain ⟨hch, hat⟩ := (ofBad_iff hS).1 hb
      have hl := plOf_len hS ch at_
      have hl2 := hS.len
      by_cases k4 : (findS m op).Op.Kind = 4
      · have := terms_Of_pl m op ch at_ hf hb (by simp [k4]) (plOf (findS m op) ch at_) (terms_places hS hch hat) (by omega) (by omega)
        simpa [termsF, biasF, ofE, h0, hb, k4] using this
      · obtain ⟨w1, w2, w3, w4, w5, w6, w7⟩ := of_weights hS k4 hch
        have := terms_Of_w m op ch at_ hf hb (by simp [k4]) (plOf (findS m op) ch at_) (terms_places hS hch hat) (by omega) (by omega) (by rw [w1]; omega) (by rw [w1]; exact w7) (by rw [w1, w2]; exact w4) (by rw [w3, w1, w2]; exact w5) (by rw [w3]; exact w6)
        simpa [termsF, biasF, ofE, h0, hb, k4] using this
  · have := terms_Of_bad m op ch at_ (.inl (by simp [h0]))
    simpa [termsF, biasF, ofE, h0] using this
end Go.AM
end
section
open Go Go.AM Go.Proofs
set_option maxRecDepth 10000
set_option linter.unusedVariables false
set_option linter.unusedSimpArgs false
namespace Go.AM
def mx (a b : Int) : Int := if b > a then b else a
def mn (a b : Int) : Int := if b < a then b else a
def upF (l : List Term) : Int := l.foldl (fun s t => w64 (s + mx t.W 0)) 0
def downF (l : List Term) : Int := l.foldl (fun s t => w64 (s + mn t.W 0)) 0
theorem foldl_take {α β : Type} [Inhabited α] (f : β → α → β) (b : β) (l : List α) (k : Nat) (h : k < l.length) : (l.take (k + 1)).foldl f b = f ((l.take k).foldl f b) (l.getD k default) := by
  rw [List.take_add_one, List.foldl_append]
  simp [List.getD_eq_getElem?_getD, h]
theorem upF_succ {l : List Term} {k : Nat} (h : k < l.length) : IntKind.i64.wrap (upF (l.take k) + (if 0 > (l.getD ((k : Int)).toNat default).W then 0 else (l.getD ((k : Int)).toNat default).W)) = upF (l.take (k + 1)) := by
  rw [Int.toNat_natCast]
  unfold upF
  rw [foldl_take _ _ _ _ h]
  rfl
theorem downF_succ {l : List Term} {k : Nat} (h : k < l.length) : IntKind.i64.wrap (downF (l.take k) + (if 0 < (l.getD ((k : Int)).toNat default).W then 0 else (l.getD ((k : Int)).toNat default).W)) = downF (l.take (k + 1)) := by
  rw [Int.toNat_natCast]
  unfold downF
  rw [foldl_take _ _ _ _ h]
  rfl
def qBad (s : Span) : Bool := bif bif decide (s.Lo < -128) then true else decide (s.Lo > s.Hi) then true else decide (s.Hi > 127)
def qOp (m : Model) (op : Int) : MOp := m.Ops.getD (w64 (op - 1)).toNat default
def qPads (w : Window) : Bool := decide (mx (mx (mx w.Top w.Left) w.Bottom) w.Right > 0)
def qReach1 (s : Span) : Int := mx (mx (mx (w64 (0 - s.Lo)) s.Hi) (w64 (0 - s.Hi))) s.Lo
def qReach (o : MOp) (s : Span) : Int := bif qPads o.Win then mx (mx (qReach1 s) o.Pad) (w64 (0 - o.Pad)) else qReach1 s
def qD (m : Model) (op ch : Int) (s : Span) : Int := w64 (qReach (qOp m op) s * w64 (upF (termsF m op ch 0) - downF (termsF m op ch 0)))
def quickE (m : Model) (op ch : Int) (s : Span) : Int := if ofE m op ch 0 = 0 then if qBad s then 30 else 0 else ofE m op ch 0
def quickS (m : Model) (op ch : Int) (s : Span) : Span := if ofE m op ch 0 = 0 then if qBad s then ⟨0, 0⟩ else ⟨w64 (biasF m op ch 0 - qD m op ch s), w64 (biasF m op ch 0 + qD m op ch s)⟩ else ⟨0, 0⟩
end Go.AM
end
section
open Go Go.AM
set_option linter.unusedVariables false
set_option linter.unusedSimpArgs false
namespace Go.AM
theorem mx_eq (a b : Int) : mx a b = max a b := by unfold mx; split <;> omega
theorem mn_eq (a b : Int) : mn a b = min a b := by unfold mn; split <;> omega
theorem up_go (l : List Term) (h : ∀ t ∈ l, -32768 ≤ t.W ∧ t.W ≤ 32767) : ∀ (s : Int), 0 ≤ s → s + 32767 * l.length ≤ 4611686018427387904 → s ≤ l.foldl (fun s t => w64 (s + mx t.W 0)) s ∧ l.foldl (fun s t => w64 (s + mx t.W 0)) s ≤ s + 32767 * l.length := by
  induction l with
  | nil => intro s _ _; simp
  | cons t r ih =>
    intro s hs hb
    have ht := h t (by simp)
    rw [List.foldl_cons]
    have hl : ((t :: r).length : Int) = r.length + 1 := by simp
    rw [hl] at hb ⊢
    have hm : 0 ≤ mx t.W 0 ∧ mx t.W 0 ≤ 32767 := by rw [mx_eq]; omega
    have e : w64 (s + mx t.W 0) = s + mx t.W 0 := w64_id (by omega)
    rw [e]
    have := ih (fun u hu => h u (by simp [hu])) (s + mx t.W 0) (by omega) (by omega)
    omega
theorem down_go (l : List Term) (h : ∀ t ∈ l, -32768 ≤ t.W ∧ t.W ≤ 32767) : ∀ (s : Int), s ≤ 0 → -4611686018427387904 ≤ s - 32768 * l.length → l.foldl (fun s t => w64 (s + mn t.W 0)) s ≤ s ∧ s - 32768 * l.length ≤ l.foldl (fun s t => w64 (s + mn t.W 0)) s := by
  induction l with
  | nil => intro s _ _; simp
  | cons t r ih =>
    intro s hs hb
    have ht := h t (by simp)
    rw [List.foldl_cons]
    have hl : ((t :: r).length : Int) = r.length + 1 := by simp
    rw [hl] at hb ⊢
    have hm : mn t.W 0 ≤ 0 ∧ -32768 ≤ mn t.W 0 := by rw [mn_eq]; omega
    have e : w64 (s + mn t.W 0) = s + mn t.W 0 := w64_id (by omega)
    rw [e]
    have := ih (fun u hu => h u (by simp [hu])) (s + mn t.W 0) (by omega) (by omega)
    omega
theorem getD_mem {α : Type} {l : List α} {i : Nat} {d : α} {p : α → Prop} (h : ∀ x ∈ l, p x) (hd : p d) : p (l.getD i d) := by
  rw [List.getD_eq_getElem?_getD]
  cases hq : l[i]? with
  | none => exact hd
  | some x => exact h x (List.mem_of_getElem? hq)
theorem op_wf {m : Model} (hm : m.Wf) (i : Nat) : ((m.Ops.getD i default).Weights.all fun w => decide (-32768 ≤ w ∧ w ≤ 32767)) = true ∧ ((m.Ops.getD i default).Bias.all fun w => decide (-2147483648 ≤ w ∧ w ≤ 2147483647)) = true := by
  refine getD_mem (p := fun o : MOp => (o.Weights.all fun w => decide (-32768 ≤ w ∧ w ≤ 32767)) = true ∧ (o.Bias.all fun w => decide (-2147483648 ≤ w ∧ w ≤ 2147483647)) = true) (fun o ho => ?_) ⟨rfl, rfl⟩
  obtain ⟨_, _, _, _, _, h1, h2, _⟩ := hm.2.2.2.1.2 o ho
  exact ⟨List.all_eq_true.2 (fun w hw => decide_eq_true (I16.iff.1 (h1.2 w hw))), List.all_eq_true.2 (fun w hw => decide_eq_true (I32.iff.1 (h2.2 w hw)))⟩
theorem termsF_W {m : Model} (hm : m.Wf) (op ch at_ : Int) : ∀ t ∈ termsF m op ch at_, -32768 ≤ t.W ∧ t.W ≤ 32767 := by
  intro t ht
  unfold termsF at ht
  split at ht
  · rename_i h0
    obtain ⟨hS, _, hop, _⟩ := site_ok h0
    split at ht
    · simp at ht
    · split at ht
      · simp only [ofP, List.take_length, Nat.sub_self, List.replicate_zero, List.append_nil] at ht
        obtain ⟨p, _, rfl⟩ := List.mem_map.1 ht
        dsimp only; omega
      · simp only [ofQ] at ht
        obtain ⟨i, _, rfl⟩ := List.mem_map.1 ht
        dsimp only
        split
        · refine getD_mem (p := fun w : Int => -32768 ≤ w ∧ w ≤ 32767) (fun x hx => ?_) (by omega)
          obtain ⟨y, hy, rfl⟩ := List.mem_map.1 hx
          have hy' : y ∈ (findS m op).Op.Weights := List.mem_of_mem_drop (List.mem_of_mem_take hy)
          rw [hop] at hy'
          have := of_decide_eq_true (List.all_eq_true.1 (op_wf hm _).1 y hy')
          show -32768 ≤ w64 y ∧ w64 y ≤ 32767
          rw [show w64 y = y from w64_id (by omega)]; exact this
        · omega
  · simp at ht
theorem biasF_bd {m : Model} (hm : m.Wf) (op ch at_ : Int) : -2147483648 ≤ biasF m op ch at_ ∧ biasF m op ch at_ ≤ 2147483647 := by
  unfold biasF
  split
  · rename_i h0
    obtain ⟨hS, _, hop, _⟩ := site_ok h0
    split
    · omega
    · split
      · omega
      · rw [hop]
        have := getD_mem (i := (w64 (ch - 1)).toNat) (d := default) (p := fun w : Int => -2147483648 ≤ w ∧ w ≤ 2147483647) (fun x hx => of_decide_eq_true (List.all_eq_true.1 (op_wf hm (op - 1).toNat).2 x hx)) (by show -2147483648 ≤ (0 : Int) ∧ (0 : Int) ≤ 2147483647; omega)
        rw [show w64 _ = _ from w64_id (by omega)]; exact this
  · omega
theorem sums_ok {m : Model} (hm : m.Wf) (op ch at_ : Int) : (0 ≤ upF (termsF m op ch at_) ∧ upF (termsF m op ch at_) ≤ 16777216) ∧ (downF (termsF m op ch at_) ≤ 0 ∧ -16777216 ≤ downF (termsF m op ch at_)) ∧ w64 (upF (termsF m op ch at_) - downF (termsF m op ch at_)) = upF (termsF m op ch at_) - downF (termsF m op ch at_) := by
  have hl := termsF_len m op ch at_
  have hW := termsF_W hm op ch at_
  have h1 := up_go _ hW 0 (by omega) (by omega)
  have h2 := down_go _ hW 0 (by omega) (by omega)
  change 0 ≤ upF _ ∧ upF _ ≤ _ at h1
  change downF _ ≤ 0 ∧ _ ≤ downF _ at h2
  refine ⟨by omega, by omega, w64_id (by omega)⟩
theorem bytesB4 {a b c d : Int} (h : bytesB [a, b, c, d] = true) : (-128 ≤ a ∧ a ≤ 127) ∧ (-128 ≤ b ∧ b ≤ 127) ∧ (-128 ≤ c ∧ c ≤ 127) ∧ (-128 ≤ d ∧ d ≤ 127) := by
  simp [bytesB, inB] at h; omega
theorem pad_bd {S : Site} (hS : SiteOk S) : (-128 ≤ S.Op.Pad ∧ S.Op.Pad ≤ 127) ∧ (-128 ≤ S.Op.Lo ∧ S.Op.Lo ≤ 127) ∧ (-128 ≤ S.Op.Hi ∧ S.Op.Hi ≤ 127) ∧ (-128 ≤ S.Op.Zero ∧ S.Op.Zero ≤ 127) ∧ S.Op.Lo ≤ S.Op.Hi := by
  have h := hS.rng
  unfold op10 at h
  cases hb : bytesB [S.Op.Lo, S.Op.Hi, S.Op.Zero, S.Op.Pad] with
  | false => rw [hb] at h; simp at h
  | true =>
    rw [hb] at h
    obtain ⟨h1, h2, h3, h4⟩ := bytesB4 hb
    simp at h
    exact ⟨h4, h1, h2, h3, h⟩
def reachV (o : MOp) (s : Span) : Int := if qPads o.Win = true then max (max (max (-s.Lo) s.Hi) (max (-s.Hi) s.Lo)) (max o.Pad (-o.Pad)) else max (max (-s.Lo) s.Hi) (max (-s.Hi) s.Lo)
theorem qBad_iff {s : Span} : qBad s = false ↔ -128 ≤ s.Lo ∧ s.Lo ≤ s.Hi ∧ s.Hi ≤ 127 := by
  unfold qBad
  by_cases a : s.Lo < -128 <;> by_cases b : s.Lo > s.Hi <;> by_cases c : s.Hi > 127 <;> simp [a, b, c] <;> omega
theorem qReach_eq {o : MOp} {s : Span} (hs : -128 ≤ s.Lo ∧ s.Lo ≤ s.Hi ∧ s.Hi ≤ 127) (hp : -128 ≤ o.Pad ∧ o.Pad ≤ 127) : qReach o s = reachV o s ∧ 0 ≤ reachV o s ∧ reachV o s ≤ 128 := by
  have e1 : w64 (0 - s.Lo) = -s.Lo := by rw [show w64 _ = _ from w64_id (by omega)]; omega
  have e2 : w64 (0 - s.Hi) = -s.Hi := by rw [show w64 _ = _ from w64_id (by omega)]; omega
  have e3 : w64 (0 - o.Pad) = -o.Pad := by rw [show w64 _ = _ from w64_id (by omega)]; omega
  unfold qReach reachV qReach1
  rw [e1, e2, e3]
  simp only [mx_eq]
  cases qPads o.Win <;> simp <;> omega
/-- Quick, in plain numbers -/
theorem quick_ok {m : Model} (hm : m.Wf) {op ch : Int} {s : Span} (h : quickE m op ch s = 0) :
    ofE m op ch 0 = 0 ∧ (-128 ≤ s.Lo ∧ s.Lo ≤ s.Hi ∧ s.Hi ≤ 127) ∧ (0 ≤ reachV (findS m op).Op s ∧ reachV (findS m op).Op s ≤ 128) ∧ quickS m op ch s = ⟨biasF m op ch 0 - reachV (findS m op).Op s * (upF (termsF m op ch 0) - downF (termsF m op ch 0)), biasF m op ch 0 + reachV (findS m op).Op s * (upF (termsF m op ch 0) - downF (termsF m op ch 0))⟩ := by
  unfold quickE at h
  split at h
  · rename_i h0
    split at h
    · omega
    · rename_i hb
      have hs := qBad_iff.1 (by simpa using hb)
      obtain ⟨f0, _, o1, o2, o3, _⟩ := ofE_op h0
      obtain ⟨hS, _, hop, _⟩ := site_ok f0
      have hq : qOp m op = (findS m op).Op := by rw [hop]; unfold qOp; rw [o1]
      obtain ⟨r1, r2, r3⟩ := qReach_eq (o := (findS m op).Op) hs (pad_bd hS).1
      obtain ⟨s1, s2, s3⟩ := sums_ok hm op ch 0
      have hb2 := biasF_bd hm op ch 0
      refine ⟨h0, hs, ⟨r2, r3⟩, ?_⟩
      have d0 : 0 ≤ reachV (findS m op).Op s * (upF (termsF m op ch 0) - downF (termsF m op ch 0)) := Int.mul_nonneg r2 (by omega)
      have d1 : reachV (findS m op).Op s * (upF (termsF m op ch 0) - downF (termsF m op ch 0)) ≤ 128 * 33554432 := Int.mul_le_mul r3 (by omega) (by omega) (by omega)
      have hd : qD m op ch s = reachV (findS m op).Op s * (upF (termsF m op ch 0) - downF (termsF m op ch 0)) := by
        unfold qD
        rw [hq, r1, s3]
        exact w64_id (by omega)
      unfold quickS
      rw [if_pos h0, if_neg hb, hd, show w64 (biasF m op ch 0 - _) = _ from w64_id (by omega), show w64 (biasF m op ch 0 + _) = _ from w64_id (by omega)]
  · contradiction
theorem reach_mono {o : MOp} {s y : Span} (h1 : y.Lo ≤ s.Lo) (h2 : s.Hi ≤ y.Hi) (hs : s.Lo ≤ s.Hi) : reachV o s ≤ reachV o y := by
  unfold reachV; split <;> omega
end Go.AM
end
section
open Go Go.AM
set_option linter.unusedVariables false
set_option linter.unusedSimpArgs false
namespace Go.AM
/-- a size over d, rounded half up -/
def halfI (m d : Int) : Int := (2 * m + d) / (2 * d)
/-- a number over d, rounded half away from zero -/
def rhI (x d : Int) : Int := if x < 0 then -(halfI (-x) d) else halfI x d
theorem halfI_nonneg {m d : Int} (hm : 0 ≤ m) (hd : 1 ≤ d) : 0 ≤ halfI m d := Int.ediv_nonneg (by omega) (by omega)
theorem halfI_le {m d : Int} (hm : 0 ≤ m) (hd : 1 ≤ d) : halfI m d ≤ m := by
  unfold halfI
  by_cases h : m = 0
  · subst h
    rw [show 2 * 0 + d = d by omega, Int.ediv_eq_zero_of_lt (by omega) (by omega)]; omega
  have : (2 * m + d) / (2 * d) < m + 1 := by
    apply Int.ediv_lt_of_lt_mul (by omega)
    have h1 : m * 1 ≤ m * d := Int.mul_le_mul_of_nonneg_left hd hm
    have h2 : (m + 1) * (2 * d) = 2 * (m * d) + 2 * d := by rw [Int.add_mul, Int.one_mul, ← Int.mul_assoc, Int.mul_comm m 2, Int.mul_assoc]
    omega
  omega
theorem halfI_one {m : Int} : halfI m 1 = m := by unfold halfI; omega
theorem halfI_mono {m m' d : Int} (h : m ≤ m') (hd : 1 ≤ d) : halfI m d ≤ halfI m' d := Int.ediv_le_ediv (by omega) (by omega)
theorem halfI_bounds {m d : Int} (hd : 1 ≤ d) : 2 * (halfI m d * d) ≤ 2 * m + d ∧ 2 * m + d < 2 * (halfI m d * d) + 2 * d := by
  have h1 := Int.mul_ediv_add_emod (2 * m + d) (2 * d)
  have h2 := Int.emod_nonneg (2 * m + d) (show 2 * d ≠ 0 by omega)
  have h3 := Int.emod_lt_of_pos (2 * m + d) (show 0 < 2 * d by omega)
  have h4 : 2 * (halfI m d * d) = 2 * d * ((2 * m + d) / (2 * d)) := by
    unfold halfI; rw [Int.mul_comm _ d, Int.mul_assoc]
  omega
theorem rhI_mono {x y d : Int} (h : x ≤ y) (hd : 1 ≤ d) : rhI x d ≤ rhI y d := by
  unfold rhI
  by_cases hx : x < 0
  · rw [if_pos hx]
    have a := halfI_nonneg (m := -x) (by omega) hd
    by_cases hy : y < 0
    · rw [if_pos hy]; have := halfI_mono (m := -y) (m' := -x) (by omega) hd; omega
    · rw [if_neg hy]; have := halfI_nonneg (m := y) (by omega) hd; omega
  · rw [if_neg hx, if_neg (by omega)]; exact halfI_mono h hd
theorem rhI_size {x d : Int} (hd : 1 ≤ d) : rhI x d = if x < 0 then -(halfI x.natAbs d) else halfI x.natAbs d := by
  unfold rhI
  by_cases h : x < 0
  · rw [if_pos h, if_pos h, show (x.natAbs : Int) = -x by omega]
  · rw [if_neg h, if_neg h, show (x.natAbs : Int) = x by omega]
theorem rhI_abs {x d : Int} (hd : 1 ≤ d) : -(x.natAbs : Int) ≤ rhI x d ∧ rhI x d ≤ x.natAbs := by
  have a := halfI_nonneg (m := x.natAbs) (by omega) hd
  have b := halfI_le (m := x.natAbs) (by omega) hd
  rw [rhI_size hd]; split <;> omega
def pw2 (n : Int) : Int := 2 ^ n.toNat
theorem pw2_pos (n : Int) : 1 ≤ pw2 n := by
  unfold pw2
  have : (0 : Int) < 2 ^ n.toNat := Int.pow_pos (by decide)
  omega
theorem pw2_le {n : Int} {m : Nat} (h : n ≤ m) : pw2 n ≤ 2 ^ m := by
  unfold pw2
  have : (2 : Nat) ^ n.toNat ≤ 2 ^ m := Nat.pow_le_pow_right (by decide) (by omega)
  exact_mod_cast this
theorem pw2_62 {n : Int} (h : n ≤ 62) : pw2 n ≤ 4611686018427387904 := pw2_le (m := 62) h
theorem pw2_succ {n : Int} (h : 1 ≤ n) : pw2 n = 2 * pw2 (n - 1) := by
  unfold pw2
  rw [show n.toNat = (n - 1).toNat + 1 by omega, Int.pow_succ, Int.mul_comm]
theorem wu_id {n : Int} (h0 : 0 ≤ n) (h1 : n < 18446744073709551616) : IntKind.u64.wrap n = n := by rw [IntKind.wrap_u64]; omega
theorem wu_range (n : Int) : 0 ≤ IntKind.u64.wrap n ∧ IntKind.u64.wrap n < 18446744073709551616 := by rw [IntKind.wrap_u64]; omega
theorem shrU {x n : Int} (h0 : 0 ≤ n) (h1 : n ≤ 62) : x.fdiv (2 ^ (min n.toNat IntKind.u64.bits)) = x / pw2 n := by
  unfold pw2
  rw [show min n.toNat IntKind.u64.bits = n.toNat by simp [IntKind.bits]; omega]
  exact Int.fdiv_eq_ediv_of_nonneg x (Int.pow_nonneg (by decide))
theorem andU1 {x : Int} (h0 : 0 ≤ x) (h1 : x < 18446744073709551616) : IntKind.u64.wrap ((BitVec.ofInt IntKind.u64.bits x &&& BitVec.ofInt IntKind.u64.bits 1).toNat : Int) = x % 2 := by
  have e : ((BitVec.ofInt IntKind.u64.bits x &&& BitVec.ofInt IntKind.u64.bits 1).toNat) = ((x % 18446744073709551616).toNat) % 2 := by
    rw [BitVec.toNat_and, BitVec.toNat_ofInt, BitVec.toNat_ofInt]
    show (x % 18446744073709551616).toNat &&& 1 = _
    exact Nat.and_two_pow_sub_one_eq_mod _ 1
  rw [e, IntKind.wrap_u64]; omega
theorem shift_halfI {m n : Int} (hm : 0 ≤ m) (hn : 1 ≤ n) : m / pw2 n + m / pw2 (n - 1) % 2 = halfI m (pw2 n) := by
  have hq := pw2_pos (n - 1)
  rw [pw2_succ hn]
  generalize pw2 (n - 1) = q at *
  unfold halfI
  have e1 : m / (2 * q) = m / q / 2 := by rw [Int.mul_comm, Int.ediv_ediv_of_nonneg (by omega : (0 : Int) ≤ q)]
  have e2 : (2 * m + 2 * q) / (2 * (2 * q)) = (m + q) / (2 * q) := by
    rw [← Int.mul_add, Int.mul_ediv_mul_of_pos _ _ (by omega)]
  have e3 : (m + q) / (2 * q) = (m / q + 1) / 2 := by
    rw [Int.mul_comm 2 q, ← Int.ediv_ediv_of_nonneg (by omega : (0 : Int) ≤ q)]
    congr 1
    have := Int.add_mul_ediv_right m 1 (show q ≠ 0 by omega)
    rw [Int.one_mul] at this; exact this
  rw [e1, e2, e3]
  omega
/-- the reference's rounding -/
theorem ref_halfI {m d : Int} (hm : 0 ≤ m) (hd : 1 ≤ d) : halfI m d = if m % d ≥ d - m % d then m / d + 1 else m / d := by
  have e := Int.mul_ediv_add_emod m d
  have r0 := Int.emod_nonneg m (show d ≠ 0 by omega)
  have r1 := Int.emod_lt_of_pos m (show 0 < d by omega)
  have b := halfI_bounds (m := m) hd
  have c : d * (m / d) = m / d * d := Int.mul_comm _ _
  have g : ∀ q : Int, 2 * (q * d) ≤ 2 * m + d → 2 * m + d < 2 * (q * d) + 2 * d → halfI m d = q := by
    intro q h1 h2
    have k1 : halfI m d < q + 1 := by
      have : halfI m d * d < (q + 1) * d := by rw [Int.add_mul, Int.one_mul]; omega
      exact Int.lt_of_mul_lt_mul_right this (by omega)
    have k2 : q < halfI m d + 1 := by
      have : q * d < (halfI m d + 1) * d := by rw [Int.add_mul, Int.one_mul]; omega
      exact Int.lt_of_mul_lt_mul_right this (by omega)
    omega
  split
  · apply g <;> rw [Int.add_mul, Int.one_mul] <;> omega
  · apply g <;> omega
theorem mul_scaledI {a m : Int} (ha : -4294967296 ≤ a ∧ a ≤ 4294967296) (hm : 1 ≤ m ∧ m ≤ 2147483647) : -9223372036854775808 < a * m ∧ a * m < 9223372036854775808 ∧ ((a * m).natAbs : Int) = a.natAbs * m ∧ (a * m < 0 ↔ a < 0) := by
  have e : ((a * m).natAbs : Int) = a.natAbs * m := by
    rw [Int.natAbs_mul, Int.natCast_mul, show ((m.natAbs : Nat) : Int) = m by omega]
  have b : (a.natAbs : Int) * m ≤ 4294967296 * 2147483647 := Int.mul_le_mul (by omega) hm.2 (by omega) (by omega)
  refine ⟨by omega, by omega, e, ?_⟩
  constructor
  · intro h
    by_cases c : a < 0
    · exact c
    · have : 0 ≤ a * m := Int.mul_nonneg (by omega) (by omega)
      omega
  · intro h; exact Int.mul_neg_of_neg_of_pos h (by omega)
theorem wrap_8 (n : Int) : IntKind.i8.wrap n = (n + 128) % 256 - 128 := by
  simp [IntKind.wrap, IntKind.bits, IntKind.signed]; omega
theorem wrap_16 (n : Int) : IntKind.i16.wrap n = (n + 32768) % 65536 - 32768 := by
  simp [IntKind.wrap, IntKind.bits, IntKind.signed]; omega
/-- brought to lo and hi -/
def nearI (lo hi v : Int) : Int := if v > hi then hi else if v < lo then lo else v
end Go.AM
end
section
open Go Go.AM Go.Proofs
set_option maxRecDepth 10000
set_option linter.unusedVariables false
set_option linter.unusedSimpArgs false
namespace Go.AM
theorem m64_and (z : Int) : IntKind.u64.wrap ((BitVec.ofInt IntKind.u64.bits z &&& BitVec.ofInt IntKind.u64.bits 4294967295).toNat : Int) = z % 4294967296 := by
  have e : ((BitVec.ofInt IntKind.u64.bits z &&& BitVec.ofInt IntKind.u64.bits 4294967295).toNat) = ((z % 18446744073709551616).toNat) % 4294967296 := by
    rw [BitVec.toNat_and, BitVec.toNat_ofInt, BitVec.toNat_ofInt]
    show (z % 18446744073709551616).toNat &&& 4294967295 = _
    exact Nat.and_two_pow_sub_one_eq_mod _ 32
  rw [e, IntKind.wrap_u64]; omega
theorem m64_shr32 (z : Int) : z.fdiv (2 ^ (min (32 : Int).toNat IntKind.u64.bits)) = z / 4294967296 := Int.fdiv_eq_ediv_of_nonneg z (by decide)
theorem m64_shr63 (z : Int) : z.fdiv (2 ^ (min (63 : Int).toNat IntKind.i64.bits)) = z / 9223372036854775808 := Int.fdiv_eq_ediv_of_nonneg z (by decide)
theorem bits_Mul64 (x y : Int) (hx : 0 ≤ x ∧ x < 18446744073709551616) (hy : 0 ≤ y ∧ y < 18446744073709551616) : Ok Try.prog 39 [.int .u64 x, .int .u64 y] (.tup [.int .u64 (x * y / 18446744073709551616), .int .u64 (x * y % 18446744073709551616)]) := by
  refine fn_ok Tb_ok (fn := Try.f39) Try.func39 rfl rfl (e := [(0, _), (1, _)]) rfl (by decide) rfl ?_
  refine zs ?_
  refine zR ?_
  refine zLI ?_
  refine zLI ?_
  refine zn ?_
  refine zs ?_
  refine zR ?_
  refine zLI ?_
  refine zLI ?_
  refine zLI ?_
  refine zn ?_
  refine zs ?_
  refine zR ?_
  refine zLI ?_
  refine L_v Tb_ok (v := .int _ _) (av rfl ⟨trivial, (by omega)⟩) rfl ?_
  refine zLI ?_
  refine zn ?_
  refine zs ?_
  refine zR ?_
  refine zLI ?_
  refine zLI ?_
  refine zLI ?_
  refine zn ?_
  refine zs ?_
  refine zR ?_
  refine zLI ?_
  refine L_v Tb_ok (v := .int _ _) (av rfl ⟨trivial, (by omega)⟩) rfl ?_
  refine zLI ?_
  refine zn ?_
  refine zs ?_
  refine zR ?_
  refine zLI ?_
  refine zLI ?_
  refine zLI ?_
  refine zLI ?_
  refine zn ?_
  refine zs ?_
  refine zR ?_
  refine zLI ?_
  refine zLI ?_
  refine zLI ?_
  refine zLI ?_
  refine L_v Tb_ok (v := .int _ _) (av rfl ⟨trivial, (by omega)⟩) rfl ?_
  refine zLI ?_
  refine zLI ?_
  refine zn ?_
  refine zs ?_
  refine zR ?_
  refine zLI ?_
  refine zLI ?_
  refine zLI ?_
  refine zn ?_
  refine zs ?_
  refine zR ?_
  refine zLI ?_
  refine L_v Tb_ok (v := .int _ _) (av rfl ⟨trivial, (by omega)⟩) rfl ?_
  refine zLI ?_
  refine zn ?_
  refine zs ?_
  refine zR ?_
  refine zLI ?_
  refine zLI ?_
  refine zLI ?_
  refine zLI ?_
  refine zLI ?_
  refine zLI ?_
  refine zn ?_
  refine zs ?_
  refine zR ?_
  refine zLI ?_
  refine zLI ?_
  refine zLI ?_
  refine zLI ?_
  refine zLI ?_
  refine zLI ?_
  refine L_v Tb_ok (v := .int _ _) (av rfl ⟨trivial, (by omega)⟩) rfl ?_
  refine zLI ?_
  refine zLI ?_
  refine zn ?_
  refine zs ?_
  refine zR ?_
  refine zLI ?_
  refine zLI ?_
  refine zLI ?_
  refine zLI ?_
  refine zn ?_
  refine zt ?_
  refine ends (l := [.int _ _, .int _ _]) (q := .tup [.int _ _, .int _ _]) (.inr rfl) rfl ⟨trivial, trivial, trivial⟩ rfl rfl ?_
  simp only [m64_and, m64_shr32]
  have h := mul64_arith x y hx.1 hx.2 hy.1 hy.2
  simp only [IntKind.wrap_u64]
  rw [h]
def holdsF (a b : Span) : Bool := decide (b.Lo ≤ b.Hi ∧ a.Lo ≤ b.Lo ∧ b.Hi ≤ a.Hi)
def hasF (s : Span) (x : Int) : Bool := decide (s.Lo ≤ x ∧ x ≤ s.Hi)
/-- a span's product with a number -/
def tmS (s : Span) (w : Int) : Span := if w < 0 then ⟨s.Hi * w, s.Lo * w⟩ else ⟨s.Lo * w, s.Hi * w⟩
end Go.AM
end
section
open Go Go.AM Go.Proofs
set_option maxRecDepth 10000
set_option linter.unusedVariables false
set_option linter.unusedSimpArgs false
namespace Go.AM
theorem fixq_magnitude (x : Int) (h : I64 x) : Ok Try.prog 36 [.int .i64 x] (.tup [.int .u64 (x.natAbs : Int), .bool (decide (x < 0))]) := by
  rw [I64.iff] at h
  refine fn_ok Tb_ok (fn := Try.f36) Try.func36 rfl rfl (e := [(0, _)]) rfl (by decide) rfl ?_
  refine zs ?_
  refine zR ?_
  refine zLI ?_
  refine zLB ?_
  refine zn ?_
  refine zs ?_
  refine zs ?_
  refine zR ?_
  refine zLI ?_
  refine zLB ?_
  refine zn ?_
  refine W_cond (b := _) rfl (fun h5 => ?_) (fun h5 => ?_)
  · have c : x < 0 := of_decide_eq_true h5
    refine zs ?_
    refine zR ?_
    refine zLI ?_
    refine zLI ?_
    refine zLI ?_
    refine zLI ?_
    refine zLB ?_
    refine zn ?_
    refine zt ?_
    refine ends (l := [.int _ _, .bool _]) (q := .tup [.int _ _, .bool _]) (.inr rfl) rfl ⟨trivial, trivial, trivial⟩ rfl rfl ?_
    rw [decide_eq_true c, IntKind.wrap_u64, IntKind.wrap_i64]
    congr 3; omega
  · have c : ¬ x < 0 := of_decide_eq_false h5
    refine zk ?_
    refine zs ?_
    refine zR ?_
    refine zLI ?_
    refine zLI ?_
    refine zLI ?_
    refine zLB ?_
    refine zn ?_
    refine zt ?_
    refine ends (l := [.int _ _, .bool _]) (q := .tup [.int _ _, .bool _]) (.inr rfl) rfl ⟨trivial, trivial, trivial⟩ rfl rfl ?_
    rw [decide_eq_false c, IntKind.wrap_u64]
    congr 3; omega
theorem fixq_signed (m : Int) (b : Bool) (h0 : 0 ≤ m) (h1 : b = false → m ≤ 9223372036854775807) (h2 : m ≤ 9223372036854775808) : Ok Try.prog 38 [.int .u64 m, .bool b] (.int .i64 (if b = true then -m else m)) := by
  refine fn_ok Tb_ok (fn := Try.f38) Try.func38 rfl rfl (e := [(0, _), (1, _)]) rfl (by decide) rfl ?_
  refine zs ?_
  refine zR ?_
  refine zLI ?_
  refine zn ?_
  refine zs ?_
  refine zs ?_
  refine zR ?_
  refine zLB ?_
  refine zn ?_
  refine W_cond (b := _) rfl (fun h5 => ?_) (fun h5 => ?_)
  · have c : b = true := h5
    refine zs ?_
    refine zR ?_
    refine zLI ?_
    refine zLI ?_
    refine zLI ?_
    refine zLI ?_
    refine zn ?_
    refine zt ?_
    refine ends (l := [.int _ _]) (q := .int _ _) (.inr rfl) rfl ⟨trivial, trivial⟩ rfl rfl ?_
    rw [if_pos c, IntKind.wrap_u64, IntKind.wrap_i64]
    congr 1; omega
  · have c : b = false := h5
    refine zk ?_
    refine zs ?_
    refine zR ?_
    refine zLI ?_
    refine zLI ?_
    refine zLI ?_
    refine zn ?_
    refine zt ?_
    refine ends (l := [.int _ _]) (q := .int _ _) (.inr rfl) rfl ⟨trivial, trivial⟩ rfl rfl ?_
    have := h1 c
    rw [if_neg (by simp [c]), IntKind.wrap_i64]
    congr 1; omega
theorem signed_half {x d : Int} (hx : I64 x) (hd : 1 ≤ d) : Ok Try.prog 38 [.int .u64 (halfI x.natAbs d), .bool (decide (x < 0))] (.int .i64 (rhI x d)) := by
  rw [I64.iff] at hx
  have a := halfI_nonneg (m := x.natAbs) (by omega) hd
  have b := halfI_le (m := x.natAbs) (by omega) hd
  have := fixq_signed (halfI x.natAbs d) (decide (x < 0)) a (fun h => by simp at h; omega) (by omega)
  rw [rhI_size hd]
  by_cases c : x < 0
  · simpa [c] using this
  · simpa [c] using this
theorem fixq_Shift (x n : Int) (hx : I64 x) (hn : 0 ≤ n ∧ n ≤ 62) : Ok Try.prog 37 [.int .i64 x, .int .i64 n] (.tup [.int .i64 (rhI x (pw2 n)), .int .i64 0]) := by
  have hM := fixq_magnitude x hx
  have hS := signed_half hx (pw2_pos n)
  rw [I64.iff] at hx
  have a := halfI_nonneg (m := x.natAbs) (by omega) (pw2_pos n)
  have b := halfI_le (m := x.natAbs) (by omega) (pw2_pos n)
  have hc14 : (bif decide (n < 0) then true else decide (n > 62)) = false := by rw [decide_eq_false (by omega), decide_eq_false (by omega)]; rfl
  have hu : IntKind.u64.wrap n = n := wu_id (by omega) (by omega)
  have hq := pw2_pos (n - 1)
  have r0 : 0 ≤ (x.natAbs : Int) / pw2 (n - 1) := Int.ediv_nonneg (by omega) (by omega)
  have r1 : (x.natAbs : Int) / pw2 (n - 1) ≤ x.natAbs := Int.ediv_le_self _ (by omega)
  have hu1 : n > 0 → IntKind.u64.wrap (IntKind.i64.wrap (n - 1)) = n - 1 := fun h => by rw [IntKind.wrap_u64, IntKind.wrap_i64]; omega
  have hT : n > 0 → IntKind.u64.wrap ((x.natAbs : Int).fdiv (2 ^ (min (IntKind.u64.wrap n).toNat IntKind.u64.bits)) + IntKind.u64.wrap ((BitVec.ofInt IntKind.u64.bits ((x.natAbs : Int).fdiv (2 ^ (min (IntKind.u64.wrap (IntKind.i64.wrap (n - 1))).toNat IntKind.u64.bits))) &&& BitVec.ofInt IntKind.u64.bits 1).toNat : Int)) = halfI x.natAbs (pw2 n) := fun h => by
    rw [hu, hu1 h, shrU (by omega) (by omega), shrU (by omega) (by omega), andU1 r0 (by omega), shift_halfI (by omega) (by omega)]
    exact wu_id a (by omega)
  have hF : ¬ n > 0 → (x.natAbs : Int).fdiv (2 ^ (min (IntKind.u64.wrap n).toNat IntKind.u64.bits)) = halfI x.natAbs (pw2 n) := fun h => by
    obtain rfl : n = 0 := by omega
    rw [hu, shrU (by omega) (by omega), show pw2 0 = 1 from rfl, halfI_one, Int.ediv_one]
  --@@1
  skip
  refine fn_ok Tb_ok (fn := Try.f37) Try.func37 rfl rfl (e := [(0, _), (1, _)]) rfl (by decide) rfl ?_
  refine zs ?_
  refine zR ?_
  refine zLI ?_
  refine zLI ?_
  refine zn ?_
  refine zs ?_
  refine zs ?_
  refine zR ?_
  refine zLI ?_
  refine zLB ?_
  refine zLB ?_
  refine zgLI ?_
  refine zgLB ?_
  refine zpLB ?_
  refine zn ?_
  refine W_cond_f (b := _) rfl (by exact hc14) ?_
  refine zk ?_
  refine zs ?_
  refine zR ?_
  refine zLI ?_
  refine zLc (hM) ?_
  refine zLT [_, _] ?_
  refine zLI ?_
  refine zLB ?_
  refine zLI ?_
  refine zLB ?_
  refine zn ?_
  refine zs ?_
  refine zR ?_
  refine zLI ?_
  refine zLI ?_
  refine zLI ?_
  refine L_v Tb_ok (v := .int _ _) (av rfl ⟨trivial, (by rw [hu]; omega)⟩) rfl ?_
  refine zLI ?_
  refine zn ?_
  refine zs ?_
  refine zs ?_
  refine zR ?_
  refine zLI ?_
  refine zLB ?_
  refine zn ?_
  refine W_iftB (b := _) rfl [(7, .bool _)] (fun (z : Bool) => [(8, .int .u64 (halfI x.natAbs (pw2 n)))]) [] (fun (z : Bool) => []) [] (fun (z : Bool) => []) 0 ⟨rfl, trivial⟩ trivial trivial (fun h25 => ?_) (fun h25 => ?_) ?_
  · have g0 := of_decide_eq_true h25
    refine zR ?_
    refine zLI ?_
    refine zLI ?_
    refine zLI ?_
    refine zLI ?_
    refine zLI ?_
    refine L_v Tb_ok (v := .int _ _) (av rfl ⟨trivial, (by rw [hu1 g0]; omega)⟩) rfl ?_
    refine zLI ?_
    refine zLI ?_
    refine zLI ?_
    refine zn ?_
    exact ⟨trivial, (le_fit (sub_cat ⟨congrArg _ (hT g0), trivial⟩ ⟨rfl, trivial⟩) (subO_cat trivial trivial) (subK_cat trivial trivial) rfl rfl rfl rfl rfl)⟩
  · have g0 := of_decide_eq_false h25
    refine zk ?_
    exact ⟨trivial, (le_fit (sub_cat ⟨congrArg _ (hF g0), trivial⟩ ⟨rfl, trivial⟩) (subO_cat trivial trivial) (subK_cat trivial trivial) rfl rfl rfl rfl rfl)⟩
  refine W.of_le (s' := ⟨[(8, .int .u64 (halfI x.natAbs (pw2 n))), (7, .bool _)], [], [], 0⟩) (le_fit ⟨rfl, rfl, trivial⟩ trivial trivial rfl rfl rfl rfl rfl) ?_
  refine zs ?_
  refine zR ?_
  refine zLI ?_
  refine zLB ?_
  refine zLc (hS) ?_
  refine zLI ?_
  refine zLI ?_
  refine zn ?_
  refine zt ?_
  refine ends (l := [.int _ _, .int _ _]) (q := .tup [.int _ _, .int _ _]) (.inr rfl) rfl ⟨trivial, trivial, trivial⟩ rfl rfl ?_
  rfl
def sclB (s : Scale) : Bool := inB s.Mult 1 2147483647 && inB s.Shift 0 62
def applyV (x : Int) (s : Scale) : Int := if sclB s = true then rhI (x * s.Mult) (pw2 s.Shift) else 0
def applyE (s : Scale) : Int := if sclB s = true then 0 else 20
theorem scl_iff {s : Scale} : sclB s = true ↔ (1 ≤ s.Mult ∧ s.Mult ≤ 2147483647) ∧ 0 ≤ s.Shift ∧ s.Shift ≤ 62 := by simp [sclB, inB]
theorem fixq_Apply (x : Int) (s : Scale) (hx : -4294967296 ≤ x ∧ x ≤ 4294967296) : Ok Try.prog 14 [.int .i64 x, .agg (scaleC s)] (.tup [.int .i64 (applyV x s), .int .i64 (applyE s)]) := by
  have hM := fixq_magnitude x (I64.iff.2 (by omega))
  cases hv : sclB s with
  | false =>
    have hV : Ok Try.prog 35 [.agg (scaleC s)] (.bool false) := by have := fixq_Valid s; rwa [show (inB s.Mult 1 2147483647 && inB s.Shift 0 62) = false from hv] at this
    --@@2
    skip
    refine fn_ok Tb_ok (fn := Try.f14) Try.func14 rfl rfl (e := [(0, _), (1, _)]) rfl (by decide) rfl ?_
    refine zs ?_
    refine zR ?_
    refine zbx [.int _ _, .int _ _] 2 ?_
    refine zLI ?_
    refine zLI ?_
    refine zn ?_
    refine zs ?_
    refine zs ?_
    refine zR ?_
    refine zLG [.int _ _, .int _ _] ?_
    refine zLc (hV) ?_
    refine zLB ?_
    refine zn ?_
    refine W_cond_t (b := _) rfl (by rfl) ?_
    refine zs ?_
    refine zR ?_
    refine zLI ?_
    refine zLI ?_
    refine zn ?_
    refine zt ?_
    refine ends (l := [.int _ _, .int _ _]) (q := .tup [.int _ _, .int _ _]) (.inr rfl) rfl ⟨trivial, trivial, trivial⟩ rfl rfl ?_
    simp [applyV, applyE, hv]
  | true =>
    have hV : Ok Try.prog 35 [.agg (scaleC s)] (.bool true) := by have := fixq_Valid s; rwa [show (inB s.Mult 1 2147483647 && inB s.Shift 0 62) = true from hv] at this
    obtain ⟨hm, h0, h1⟩ := scl_iff.1 hv
    obtain ⟨b1, b2, b3, b4⟩ := mul_scaledI hx hm
    have hw : IntKind.i64.wrap (IntKind.u64.wrap ((x.natAbs : Int) * IntKind.u64.wrap s.Mult)) = ((x * s.Mult).natAbs : Int) := by
      rw [wu_id (n := s.Mult) (by omega) (by omega), ← b3, wu_id (by omega) (by omega), IntKind.wrap_i64]; omega
    have hS := fixq_Shift ((x * s.Mult).natAbs : Int) s.Shift (I64.iff.2 (by omega)) ⟨h0, h1⟩
    have hp := pw2_pos s.Shift
    have k0 := halfI_nonneg (m := (x * s.Mult).natAbs) (by omega) hp
    have k1 := halfI_le (m := (x * s.Mult).natAbs) (by omega) hp
    have e : rhI ((x * s.Mult).natAbs : Int) (pw2 s.Shift) = halfI (x * s.Mult).natAbs (pw2 s.Shift) := by unfold rhI; rw [if_neg (by omega)]
    rw [e] at hS
    have hG := signed_half (x := x * s.Mult) (d := pw2 s.Shift) (I64.iff.2 (by omega)) hp
    rw [show decide (x * s.Mult < 0) = decide (x < 0) by rw [Bool.eq_iff_iff]; simp [b4]] at hG
    have hw2 : IntKind.u64.wrap (halfI (x * s.Mult).natAbs (pw2 s.Shift)) = halfI (x * s.Mult).natAbs (pw2 s.Shift) := wu_id k0 (by omega)
    have hc19 : decide ((x.natAbs : Int) > 4294967296) = false := decide_eq_false (by omega)
    --@@3
    skip
    refine fn_ok Tb_ok (fn := Try.f14) Try.func14 rfl rfl (e := [(0, _), (1, _)]) rfl (by decide) rfl ?_
    refine zs ?_
    refine zR ?_
    refine zbx [.int _ _, .int _ _] 2 ?_
    refine zLI ?_
    refine zLI ?_
    refine zn ?_
    refine zs ?_
    refine zs ?_
    refine zR ?_
    refine zLG [.int _ _, .int _ _] ?_
    refine zLc (hV) ?_
    refine zLB ?_
    refine zn ?_
    refine W_cond_f (b := _) rfl (by rfl) ?_
    refine zk ?_
    refine zs ?_
    refine zR ?_
    refine zLI ?_
    refine zLc (hM) ?_
    refine zLT [_, _] ?_
    refine zLI ?_
    refine zLB ?_
    refine zLI ?_
    refine zLB ?_
    refine zn ?_
    refine zs ?_
    refine zs ?_
    refine zR ?_
    refine zLI ?_
    refine zLB ?_
    refine zn ?_
    refine W_cond_f (b := _) rfl (by exact hc19) ?_
    refine zk ?_
    refine zs ?_
    refine zR ?_
    refine zLI ?_
    refine zLP ?_
    refine zLI ?_
    refine zLI ?_
    refine zLI ?_
    refine zLI ?_
    refine zLP ?_
    refine zLI ?_
    refine zLc ((show Ok Try.prog 37 [.int .i64 (IntKind.i64.wrap (IntKind.u64.wrap ((x.natAbs : Int) * IntKind.u64.wrap s.Mult))), .int .i64 s.Shift] (.tup [.int .i64 (halfI (x * s.Mult).natAbs (pw2 s.Shift)), .int .i64 0]) from hw ▸ hS)) ?_
    refine zLT [_, _] ?_
    refine zLI ?_
    refine zLI ?_
    refine zLI ?_
    refine zLI ?_
    refine zn ?_
    refine zs ?_
    refine zR ?_
    refine zLI ?_
    refine zLI ?_
    refine zLB ?_
    refine zLc ((show Ok Try.prog 38 [.int .u64 (IntKind.u64.wrap (halfI (x * s.Mult).natAbs (pw2 s.Shift))), .bool (decide (x < 0))] (.int .i64 (rhI (x * s.Mult) (pw2 s.Shift))) from hw2.symm ▸ hG)) ?_
    refine zLI ?_
    refine zLI ?_
    refine zLI ?_
    refine zn ?_
    refine zt ?_
    refine ends (l := [.int _ _, .int _ _]) (q := .tup [.int _ _, .int _ _]) (.inr rfl) rfl ⟨trivial, trivial, trivial⟩ rfl rfl ?_
    simp [applyV, applyE, hv]
theorem bits_Add64 (x y c : Int) (hx : 0 ≤ x) (hy : 0 ≤ y) (hc0 : 0 ≤ c) (hc : c ≤ 1) : Ext Try.prog 40 [.int .u64 x, .int .u64 y, .int .u64 c] (.tup [.int .u64 ((x + y + c) % 18446744073709551616), .int .u64 ((x + y + c) / 18446744073709551616)]) :=
  ext_Add64 (fn := Try.f40) Try.func40 rfl (by decide) (by kernel_rfl) (by kernel_rfl) hx hy hc0 hc
theorem bits_Div64 (lo y : Int) (hl : 0 ≤ lo ∧ lo < 18446744073709551616) (hy : 1 ≤ y ∧ y < 18446744073709551616) : Ok Try.prog 41 [.int .u64 0, .int .u64 lo, .int .u64 y] (.tup [.int .u64 (lo / y), .int .u64 (lo % y)]) := by
  have hy0 : y ≠ 0 := by omega
  have hc20 : (y == 0) = false := by simp; omega
  have hc24 : decide (y ≤ 0) = false := decide_eq_false (by omega)
  have q0 : 0 ≤ lo / y := Int.ediv_nonneg (by omega) (by omega)
  have q1 : lo / y ≤ lo := Int.ediv_le_self _ (by omega)
  have hq : IntKind.u64.wrap (lo.tdiv y) = lo / y := by rw [Int.tdiv_eq_ediv_of_nonneg (by omega)]; exact wu_id q0 (by omega)
  have hr : lo.tmod y = lo % y := Int.tmod_eq_emod_of_nonneg (by omega)
  --@@4
  skip
  refine fn_ok Tb_ok (fn := Try.f41) Try.func41 rfl rfl (e := [(0, _), (1, _), (2, _)]) rfl (by decide) rfl ?_
  refine zs ?_
  refine zR ?_
  refine zLI ?_
  refine zLI ?_
  refine zn ?_
  refine zs ?_
  refine zs ?_
  refine zR ?_
  refine zLI ?_
  refine zLB ?_
  refine zn ?_
  refine W_cond_f (b := _) rfl (by exact hc20) ?_
  refine zk ?_
  refine zs ?_
  refine zs ?_
  refine zR ?_
  refine zLI ?_
  refine zLI ?_
  refine zLB ?_
  refine zn ?_
  refine W_cond_f (b := _) rfl (by exact hc24) ?_
  refine zk ?_
  refine zs ?_
  refine zs ?_
  refine zR ?_
  refine zLI ?_
  refine zLB ?_
  refine zn ?_
  refine W_cond_t (b := _) rfl (by rfl) ?_
  refine zs ?_
  refine W_draw 8 Tb_mixed rfl (by decide) (by kernel_rfl) (by kernel_rfl) ?_
  refine zEI ?_
  refine zEI ?_
  refine E_v Tb_ok (v := .int _ _) (av rfl ⟨trivial, (by exact hy0)⟩) rfl ?_
  refine zEI ?_
  refine zEI ?_
  refine E_v Tb_ok (v := .int _ _) (av rfl ⟨trivial, (by exact hy0)⟩) rfl ?_
  refine zEI ?_
  refine zEI ?_
  refine LexE_nil ?_
  refine zn ?_
  refine zt ?_
  refine ends (l := [.int _ _, .int _ _]) (q := .tup [.int _ _, .int _ _]) (.inr rfl) rfl ⟨trivial, trivial, trivial⟩ rfl rfl ?_
  rw [hq, hr]
def meanV (x n : Int) : Int := rhI x n
theorem fixq_Mean (x n : Int) (hx : -4611686018427387904 ≤ x ∧ x ≤ 4611686018427387904) (hn : 1 ≤ n ∧ n ≤ 4611686018427387904) : Ok Try.prog 15 [.int .i64 x, .int .i64 n] (.tup [.int .i64 (rhI x n), .int .i64 0]) := by
  have hM := fixq_magnitude x (I64.iff.2 (by omega))
  have hB := bits_Mul64 (x.natAbs : Int) 2 (by omega) (by omega)
  rw [show (x.natAbs : Int) * 2 / 18446744073709551616 = 0 by omega, show (x.natAbs : Int) * 2 % 18446744073709551616 = 2 * x.natAbs by omega] at hB
  have hw : IntKind.u64.wrap n = n := wu_id (by omega) (by omega)
  have hA := bits_Add64 (2 * (x.natAbs : Int)) n 0 (by omega) (by omega) (by omega) (by omega)
  rw [show (2 * (x.natAbs : Int) + n + 0) % 18446744073709551616 = 2 * x.natAbs + n by omega, show (2 * (x.natAbs : Int) + n + 0) / 18446744073709551616 = 0 by omega] at hA
  have hD := bits_Div64 (2 * (x.natAbs : Int) + n) n (by omega) (by omega)
  have hG := signed_half (x := x) (d := n) (I64.iff.2 (by omega)) hn.1
  have hh : IntKind.u64.wrap (((2 * (x.natAbs : Int) + n) / n).tdiv 2) = halfI x.natAbs n := by
    have q0 : 0 ≤ (2 * (x.natAbs : Int) + n) / n := Int.ediv_nonneg (by omega) (by omega)
    have q1 : (2 * (x.natAbs : Int) + n) / n ≤ 2 * (x.natAbs : Int) + n := Int.ediv_le_self _ (by omega)
    rw [Int.tdiv_eq_ediv_of_nonneg q0, wu_id (by omega) (by omega)]
    unfold halfI; rw [Int.mul_comm 2 n, Int.ediv_ediv_of_nonneg (by omega : (0 : Int) ≤ n)]
  have hc14 : decide (n < 1) = false := decide_eq_false (by omega)
  have hw0 : IntKind.u64.wrap (0 + 0) = 0 := rfl
  have hc49 : decide (IntKind.u64.wrap (0 + 0) ≥ n) = false := decide_eq_false (by rw [hw0]; omega)
  have hn0 : n ≠ 0 := by omega
  have hz : (IntKind.u64.wrap (0 + 0)).tmod n = 0 := by rw [hw0]; exact Int.zero_tmod n
  --@@5
  skip
  refine fn_ok Tb_ok (fn := Try.f15) Try.func15 rfl rfl (e := [(0, _), (1, _)]) rfl (by decide) rfl ?_
  refine zs ?_
  refine zR ?_
  refine zLI ?_
  refine zLI ?_
  refine zn ?_
  refine zs ?_
  refine zs ?_
  refine zR ?_
  refine zLI ?_
  refine zLB ?_
  refine zn ?_
  refine W_cond_f (b := _) rfl (by exact hc14) ?_
  refine zk ?_
  refine zs ?_
  refine zR ?_
  refine zLI ?_
  refine zLc (hM) ?_
  refine zLT [_, _] ?_
  refine zLI ?_
  refine zLB ?_
  refine zLI ?_
  refine zLB ?_
  refine zn ?_
  refine zs ?_
  refine zR ?_
  refine zLI ?_
  refine zLc (hB) ?_
  refine zLT [_, _] ?_
  refine zLI ?_
  refine zLI ?_
  refine zLI ?_
  refine zLI ?_
  refine zn ?_
  refine zs ?_
  refine zR ?_
  refine zLI ?_
  refine zLI ?_
  refine zLI ?_
  simp only [hw]
  refine L_ext hA rfl rfl trivial ?_
  refine zLT [_, _] ?_
  refine zLI ?_
  refine zLI ?_
  refine zLI ?_
  refine zLI ?_
  refine zn ?_
  refine zs ?_
  refine zR ?_
  refine zLI ?_
  refine zLI ?_
  refine zLI ?_
  refine zLI ?_
  refine zn ?_
  refine zs ?_
  refine zR ?_
  refine zLI ?_
  refine zLI ?_
  refine zLI ?_
  simp only [hw]
  refine L_v Tb_ok (v := .int _ _) (av rfl ⟨trivial, (by exact hn0)⟩) rfl ?_
  simp only [hz]
  refine zLI ?_
  refine zLI ?_
  refine zLI ?_
  simp only [hw]
  refine zLc (hD) ?_
  skip
  refine zLT [_, _] ?_
  refine zLI ?_
  refine zLI ?_
  refine zLI ?_
  refine zLI ?_
  refine zn ?_
  refine zs ?_
  refine zs ?_
  refine zR ?_
  refine zLI ?_
  refine zLI ?_
  refine zLI ?_
  simp only [hw]
  refine zLB ?_
  refine zn ?_
  refine W_cond_f (b := _) rfl (by exact hc49) ?_
  refine zk ?_
  refine zs ?_
  refine zR ?_
  refine zLI ?_
  refine L_v Tb_ok (v := .int _ _) (av rfl ⟨trivial, (by omega)⟩) rfl ?_
  simp only [hh]
  refine zLB ?_
  refine zLc (hG) ?_
  refine zLI ?_
  refine zLI ?_
  refine zn ?_
  refine zt ?_
  refine ends (l := [.int _ _, .int _ _]) (q := .tup [.int _ _, .int _ _]) (.inr rfl) rfl ⟨trivial, trivial, trivial⟩ rfl rfl ?_
  rfl
end Go.AM
end
section
open Go Go.AM Go.Proofs
set_option maxRecDepth 10000
set_option linter.unusedVariables false
set_option linter.unusedSimpArgs false
namespace Go.AM
theorem num_Fits8 (x : Int) (hx : I64 x) : Ok Try.prog 42 [.int .i64 x] (.bool (decide (-128 ≤ x ∧ x ≤ 127))) := by
  rw [I64.iff] at hx
  refine fn_ok Tb_ok (fn := Try.f42) Try.func42 rfl rfl (e := [(0, _)]) rfl (by decide) rfl ?_
  refine zs ?_
  refine zR ?_
  refine zLB ?_
  refine zn ?_
  refine zs ?_
  refine zR ?_
  refine zLI ?_
  refine zLI ?_
  refine zLI ?_
  refine zLI ?_
  refine zLB ?_
  refine zLB ?_
  refine zn ?_
  refine zt ?_
  refine ends (l := [.bool _]) (q := .bool _) (.inr rfl) rfl ⟨trivial, trivial⟩ rfl rfl ?_
  congr 1
  rw [IntKind.wrap_i64, wrap_8, Bool.eq_iff_iff, beq_iff_eq, decide_eq_true_eq]
  omega
theorem num_Fits16 (x : Int) (hx : I64 x) : Ok Try.prog 60 [.int .i64 x] (.bool (decide (-32768 ≤ x ∧ x ≤ 32767))) := by
  rw [I64.iff] at hx
  refine fn_ok Tb_ok (fn := Try.f60) Try.func60 rfl rfl (e := [(0, _)]) rfl (by decide) rfl ?_
  refine zs ?_
  refine zR ?_
  refine zLB ?_
  refine zn ?_
  refine zs ?_
  refine zR ?_
  refine zLI ?_
  refine zLI ?_
  refine zLI ?_
  refine zLI ?_
  refine zLB ?_
  refine zLB ?_
  refine zn ?_
  refine zt ?_
  refine ends (l := [.bool _]) (q := .bool _) (.inr rfl) rfl ⟨trivial, trivial⟩ rfl rfl ?_
  congr 1
  rw [IntKind.wrap_i64, wrap_16, Bool.eq_iff_iff, beq_iff_eq, decide_eq_true_eq]
  omega
theorem num_Sat16 (x : Int) (hx : I64 x) : Ok Try.prog 43 [.int .i64 x] (.int .i16 (nearI (-32768) 32767 x)) := by
  have hF := num_Fits16 x hx
  --@@1
  skip
  refine fn_ok Tb_ok (fn := Try.f43) Try.func43 rfl rfl (e := [(0, _)]) rfl (by decide) rfl ?_
  refine zs ?_
  refine zR ?_
  refine zLI ?_
  refine zn ?_
  refine zs ?_
  refine zs ?_
  refine zR ?_
  refine zLI ?_
  refine zLc (hF) ?_
  refine zn ?_
  refine W_cond (b := _) rfl (fun h6 => ?_) (fun h6 => ?_)
  · have h6 := of_decide_eq_true h6
    refine zs ?_
    refine zR ?_
    refine zLI ?_
    refine zLI ?_
    refine zLI ?_
    refine zn ?_
    refine zt ?_
    refine ends (l := [.int _ _]) (q := .int _ _) (.inr rfl) rfl ⟨trivial, trivial⟩ rfl rfl ?_
    rw [nearI, if_neg (by omega), if_neg (by omega), wrap_16]; congr 1; omega
  · have h6 := of_decide_eq_false h6
    refine zk ?_
    refine zs ?_
    refine zR ?_
    refine zLI ?_
    refine zn ?_
    refine zs ?_
    refine zs ?_
    refine zR ?_
    refine zLI ?_
    refine L_v Tb_ok (v := .int _ _) (av rfl ⟨trivial, (by omega)⟩) rfl ?_
    refine zLI ?_
    refine zn ?_
    refine W_block ?_
    refine W_loop_of ?_
    refine LoopW_once ?_
    refine zs ?_
    refine zs ?_
    refine zR ?_
    refine zLI ?_
    refine zLB ?_
    refine zn ?_
    refine W_cond_t (b := _) rfl (by rfl) ?_
    refine zk ?_
    refine zs ?_
    refine W_block ?_
    refine zR ?_
    refine zLI ?_
    refine zLI ?_
    refine zn ?_
    refine zR ?_
    refine zLI ?_
    refine L_v Tb_ok (v := .int _ _) (av rfl ⟨trivial, (by omega)⟩) rfl ?_
    refine zLI ?_
    refine zn ?_
    refine LoopW_once ?_
    refine zs ?_
    refine zs ?_
    refine zR ?_
    refine zLI ?_
    refine zLB ?_
    refine zn ?_
    refine W_cond_t (b := _) rfl (by rfl) ?_
    refine zk ?_
    refine zs ?_
    refine W_block ?_
    refine zR ?_
    refine zLI ?_
    refine zLI ?_
    refine zn ?_
    refine zR ?_
    refine zLI ?_
    refine L_v Tb_ok (v := .int _ _) (av rfl ⟨trivial, (by omega)⟩) rfl ?_
    refine zLI ?_
    refine zn ?_
    refine LoopW_once ?_
    refine zs ?_
    refine zs ?_
    refine zR ?_
    refine zLI ?_
    refine zLB ?_
    refine zn ?_
    refine W_cond_t (b := _) rfl (by rfl) ?_
    refine zk ?_
    refine zs ?_
    refine W_block ?_
    refine zR ?_
    refine zLI ?_
    refine zLI ?_
    refine zn ?_
    refine zR ?_
    refine zLI ?_
    refine L_v Tb_ok (v := .int _ _) (av rfl ⟨trivial, (by omega)⟩) rfl ?_
    refine zLI ?_
    refine zn ?_
    refine LoopW_once ?_
    refine zs ?_
    refine zs ?_
    refine zR ?_
    refine zLI ?_
    refine zLB ?_
    refine zn ?_
    refine W_cond_t (b := _) rfl (by rfl) ?_
    refine zk ?_
    refine zs ?_
    refine W_block ?_
    refine zR ?_
    refine zLI ?_
    refine zLI ?_
    refine zn ?_
    refine zR ?_
    refine zLI ?_
    refine L_v Tb_ok (v := .int _ _) (av rfl ⟨trivial, (by omega)⟩) rfl ?_
    refine zLI ?_
    refine zn ?_
    refine LoopW_once ?_
    refine zs ?_
    refine zs ?_
    refine zR ?_
    refine zLI ?_
    refine zLB ?_
    refine zn ?_
    refine W_cond_t (b := _) rfl (by rfl) ?_
    refine zk ?_
    refine zs ?_
    refine W_block ?_
    refine zR ?_
    refine zLI ?_
    refine zLI ?_
    refine zn ?_
    refine zR ?_
    refine zLI ?_
    refine L_v Tb_ok (v := .int _ _) (av rfl ⟨trivial, (by omega)⟩) rfl ?_
    refine zLI ?_
    refine zn ?_
    refine LoopW_once ?_
    refine zs ?_
    refine zs ?_
    refine zR ?_
    refine zLI ?_
    refine zLB ?_
    refine zn ?_
    refine W_cond_t (b := _) rfl (by rfl) ?_
    refine zk ?_
    refine zs ?_
    refine W_block ?_
    refine zR ?_
    refine zLI ?_
    refine zLI ?_
    refine zn ?_
    refine zR ?_
    refine zLI ?_
    refine L_v Tb_ok (v := .int _ _) (av rfl ⟨trivial, (by omega)⟩) rfl ?_
    refine zLI ?_
    refine zn ?_
    refine LoopW_once ?_
    refine zs ?_
    refine zs ?_
    refine zR ?_
    refine zLI ?_
    refine zLB ?_
    refine zn ?_
    refine W_cond_t (b := _) rfl (by rfl) ?_
    refine zk ?_
    refine zs ?_
    refine W_block ?_
    refine zR ?_
    refine zLI ?_
    refine zLI ?_
    refine zn ?_
    refine zR ?_
    refine zLI ?_
    refine L_v Tb_ok (v := .int _ _) (av rfl ⟨trivial, (by omega)⟩) rfl ?_
    refine zLI ?_
    refine zn ?_
    refine LoopW_once ?_
    refine zs ?_
    refine zs ?_
    refine zR ?_
    refine zLI ?_
    refine zLB ?_
    refine zn ?_
    refine W_cond_t (b := _) rfl (by rfl) ?_
    refine zk ?_
    refine zs ?_
    refine W_block ?_
    refine zR ?_
    refine zLI ?_
    refine zLI ?_
    refine zn ?_
    refine zR ?_
    refine zLI ?_
    refine L_v Tb_ok (v := .int _ _) (av rfl ⟨trivial, (by omega)⟩) rfl ?_
    refine zLI ?_
    refine zn ?_
    refine LoopW_once ?_
    refine zs ?_
    refine zs ?_
    refine zR ?_
    refine zLI ?_
    refine zLB ?_
    refine zn ?_
    refine W_cond_t (b := _) rfl (by rfl) ?_
    refine zk ?_
    refine zs ?_
    refine W_block ?_
    refine zR ?_
    refine zLI ?_
    refine zLI ?_
    refine zn ?_
    refine zR ?_
    refine zLI ?_
    refine L_v Tb_ok (v := .int _ _) (av rfl ⟨trivial, (by omega)⟩) rfl ?_
    refine zLI ?_
    refine zn ?_
    refine LoopW_once ?_
    refine zs ?_
    refine zs ?_
    refine zR ?_
    refine zLI ?_
    refine zLB ?_
    refine zn ?_
    refine W_cond_t (b := _) rfl (by rfl) ?_
    refine zk ?_
    refine zs ?_
    refine W_block ?_
    refine zR ?_
    refine zLI ?_
    refine zLI ?_
    refine zn ?_
    refine zR ?_
    refine zLI ?_
    refine L_v Tb_ok (v := .int _ _) (av rfl ⟨trivial, (by omega)⟩) rfl ?_
    refine zLI ?_
    refine zn ?_
    refine LoopW_once ?_
    refine zs ?_
    refine zs ?_
    refine zR ?_
    refine zLI ?_
    refine zLB ?_
    refine zn ?_
    refine W_cond_t (b := _) rfl (by rfl) ?_
    refine zk ?_
    refine zs ?_
    refine W_block ?_
    refine zR ?_
    refine zLI ?_
    refine zLI ?_
    refine zn ?_
    refine zR ?_
    refine zLI ?_
    refine L_v Tb_ok (v := .int _ _) (av rfl ⟨trivial, (by omega)⟩) rfl ?_
    refine zLI ?_
    refine zn ?_
    refine LoopW_once ?_
    refine zs ?_
    refine zs ?_
    refine zR ?_
    refine zLI ?_
    refine zLB ?_
    refine zn ?_
    refine W_cond_t (b := _) rfl (by rfl) ?_
    refine zk ?_
    refine zs ?_
    refine W_block ?_
    refine zR ?_
    refine zLI ?_
    refine zLI ?_
    refine zn ?_
    refine zR ?_
    refine zLI ?_
    refine L_v Tb_ok (v := .int _ _) (av rfl ⟨trivial, (by omega)⟩) rfl ?_
    refine zLI ?_
    refine zn ?_
    refine LoopW_once ?_
    refine zs ?_
    refine zs ?_
    refine zR ?_
    refine zLI ?_
    refine zLB ?_
    refine zn ?_
    refine W_cond_t (b := _) rfl (by rfl) ?_
    refine zk ?_
    refine zs ?_
    refine W_block ?_
    refine zR ?_
    refine zLI ?_
    refine zLI ?_
    refine zn ?_
    refine zR ?_
    refine zLI ?_
    refine L_v Tb_ok (v := .int _ _) (av rfl ⟨trivial, (by omega)⟩) rfl ?_
    refine zLI ?_
    refine zn ?_
    refine LoopW_once ?_
    refine zs ?_
    refine zs ?_
    refine zR ?_
    refine zLI ?_
    refine zLB ?_
    refine zn ?_
    refine W_cond_t (b := _) rfl (by rfl) ?_
    refine zk ?_
    refine zs ?_
    refine W_block ?_
    refine zR ?_
    refine zLI ?_
    refine zLI ?_
    refine zn ?_
    refine zR ?_
    refine zLI ?_
    refine L_v Tb_ok (v := .int _ _) (av rfl ⟨trivial, (by omega)⟩) rfl ?_
    refine zLI ?_
    refine zn ?_
    refine LoopW_once ?_
    refine zs ?_
    refine zs ?_
    refine zR ?_
    refine zLI ?_
    refine zLB ?_
    refine zn ?_
    refine W_cond_f (b := _) rfl (by rfl) ?_
    refine W_exit ?_
    repeat (first | refine pass_then ?_ | refine pass_once ?_)
    refine blockQ_hit ?_
    refine zs ?_
    refine zs ?_
    refine zR ?_
    refine zLI ?_
    refine zLB ?_
    refine zn ?_
    refine W_cond (b := _) rfl (fun h17 => ?_) (fun h17 => ?_)
    · have h7 := of_decide_eq_true h17
      refine zs ?_
      refine zR ?_
      refine zLI ?_
      refine zLI ?_
      refine zLI ?_
      refine zLI ?_
      refine zLI ?_
      refine zn ?_
      refine zt ?_
      refine ends (l := [.int _ _]) (q := .int _ _) (.inr rfl) rfl ⟨trivial, trivial⟩ rfl rfl ?_
      rw [nearI, if_neg (by omega), if_pos (by omega)]; rfl
    · have h7 := of_decide_eq_false h17
      refine zk ?_
      refine zs ?_
      refine zR ?_
      refine zLI ?_
      refine zLI ?_
      refine zLI ?_
      refine zLI ?_
      refine zLI ?_
      refine zn ?_
      refine zt ?_
      refine ends (l := [.int _ _]) (q := .int _ _) (.inr rfl) rfl ⟨trivial, trivial⟩ rfl rfl ?_
      rw [nearI, if_pos (by omega)]; rfl
theorem num_Clamp (x lo hi : Int) : Ok Try.prog 44 [.int .i64 x, .int .i64 lo, .int .i64 hi] (.int .i64 (nearI lo hi x)) := by
  refine fn_ok Tb_ok (fn := Try.f44) Try.func44 rfl rfl (e := [(0, _), (1, _), (2, _)]) rfl (by decide) rfl ?_
  refine zs ?_
  refine zR ?_
  refine zLI ?_
  refine zn ?_
  refine zs ?_
  refine W_block ?_
  refine zs ?_
  refine zR ?_
  refine zLI ?_
  refine zLI ?_
  refine zLB ?_
  refine zLB ?_
  refine zn ?_
  refine W_cond (b := _) rfl (fun h7 => ?_) (fun h7 => ?_)
  · have h1 := of_decide_eq_true h7
    refine zs ?_
    refine zR ?_
    refine zLI ?_
    refine zLI ?_
    refine zn ?_
    refine zt ?_
    refine ends (l := [.int _ _]) (q := .int _ _) (.inr rfl) rfl ⟨trivial, trivial⟩ rfl rfl ?_
    rw [nearI, if_pos h1]
  · have h1 := of_decide_eq_false h7
    refine zs ?_
    refine zR ?_
    refine zLI ?_
    refine zLI ?_
    refine zLB ?_
    refine zLB ?_
    refine zn ?_
    refine W_cond (b := _) rfl (fun h12 => ?_) (fun h12 => ?_)
    · have h2 := of_decide_eq_true h12
      refine zs ?_
      refine zR ?_
      refine zLI ?_
      refine zLI ?_
      refine zn ?_
      refine zt ?_
      refine ends (l := [.int _ _]) (q := .int _ _) (.inr rfl) rfl ⟨trivial, trivial⟩ rfl rfl ?_
      rw [nearI, if_neg h1, if_pos h2]
    · have h2 := of_decide_eq_false h12
      refine zk ?_
      refine zs ?_
      refine zR ?_
      refine zLI ?_
      refine zLI ?_
      refine zn ?_
      refine zt ?_
      refine ends (l := [.int _ _]) (q := .int _ _) (.inr rfl) rfl ⟨trivial, trivial⟩ rfl rfl ?_
      rw [nearI, if_neg h1, if_neg h2]
/-- what an op's ends make of a number -/
def finV (v zero lo hi : Int) : Int := nearI lo hi (nearI (-32768) 32767 v + zero)
theorem nearI_range {lo hi : Int} (h : lo ≤ hi) (v : Int) : lo ≤ nearI lo hi v ∧ nearI lo hi v ≤ hi := by unfold nearI; split; omega; split <;> omega
theorem fixq_Finish (v zero lo hi : Int) (hv : I64 v) (hz : -128 ≤ zero ∧ zero ≤ 127) (hl : -128 ≤ lo ∧ lo ≤ hi ∧ hi ≤ 127) : Ok Try.prog 16 [.int .i64 v, .int .i64 zero, .int .i64 lo, .int .i64 hi] (.tup [.int .i64 (finV v zero lo hi), .int .i64 0]) := by
  have hS := num_Sat16 v hv
  have hF : Ok Try.prog 42 [.int .i64 zero] (.bool true) := by have := num_Fits8 zero (I64.iff.2 (by omega)); rwa [decide_eq_true hz] at this
  have hr := nearI_range (show (-32768 : Int) ≤ 32767 by decide) v
  have hw : IntKind.i64.wrap (IntKind.i64.wrap (nearI (-32768) 32767 v) + zero) = nearI (-32768) 32767 v + zero := by rw [IntKind.wrap_i64, IntKind.wrap_i64]; omega
  have hC := num_Clamp (nearI (-32768) 32767 v + zero) lo hi
  have hc25 : (bif bif bif decide (lo < -128) then true else decide (hi > 127) then true else decide (lo > hi) then true else !true) = false := by
    rw [decide_eq_false (by omega), decide_eq_false (by omega), decide_eq_false (by omega)]; rfl
  --@@2
  skip
  refine fn_ok Tb_ok (fn := Try.f16) Try.func16 rfl rfl (e := [(0, _), (1, _), (2, _), (3, _)]) rfl (by decide) rfl ?_
  refine zs ?_
  refine zR ?_
  refine zLI ?_
  refine zLI ?_
  refine zn ?_
  refine zs ?_
  refine zs ?_
  refine zR ?_
  refine zLI ?_
  refine zLB ?_
  refine zLB ?_
  refine zgLI ?_
  refine zgLB ?_
  refine zpLB ?_
  refine zLB ?_
  refine zgLI ?_
  refine zgLI ?_
  refine zgLB ?_
  refine zpLB ?_
  refine zLB ?_
  refine zgLI ?_
  refine L_callg (hr := fun hg => hF) rfl rfl rfl rfl rfl (fun hg => ⟨⟨(by exact hg), True.intro⟩, True.intro⟩) rfl rfl ?_
  refine zgLB ?_
  refine zpLB ?_
  refine zn ?_
  refine W_cond_f (b := _) rfl (by exact hc25) ?_
  refine zk ?_
  refine zs ?_
  refine zR ?_
  refine zLI ?_
  refine zLc (hS) ?_
  refine zLI ?_
  refine zLI ?_
  refine zLI ?_
  refine zLI ?_
  refine zn ?_
  refine zs ?_
  refine zR ?_
  simp only [hw]
  refine zLI ?_
  refine zLI ?_
  refine zLI ?_
  refine zLc (hC) ?_
  refine zLI ?_
  refine zLI ?_
  refine zn ?_
  refine zt ?_
  refine ends (l := [.int _ _, .int _ _]) (q := .tup [.int _ _, .int _ _]) (.inr rfl) rfl ⟨trivial, trivial, trivial⟩ rfl rfl ?_
  rfl
def homeV (o : MOp) (v : Int) : Int := finV v o.Zero o.Lo o.Hi
/-- an op whose ends are bytes -/
structure EndsOk (o : MOp) : Prop where
  z : -128 ≤ o.Zero ∧ o.Zero ≤ 127
  l : -128 ≤ o.Lo ∧ o.Lo ≤ o.Hi ∧ o.Hi ≤ 127
theorem plain_home (o : MOp) (v : Int) (hv : I64 v) (ho : EndsOk o) : Ok Try.prog 56 [.agg (opC o), .int .i64 v] (.int .i8 (homeV o v)) := by
  have hF := fixq_Finish v o.Zero o.Lo o.Hi hv ho.z ho.l
  have hr := nearI_range ho.l.2.1 (nearI (-32768) 32767 v + o.Zero)
  have hl := ho.l
  have hw : IntKind.i8.wrap (finV v o.Zero o.Lo o.Hi) = homeV o v := by
    show IntKind.i8.wrap (nearI o.Lo o.Hi (nearI (-32768) 32767 v + o.Zero)) = nearI o.Lo o.Hi (nearI (-32768) 32767 v + o.Zero)
    rw [wrap_8]; omega
  --@@3
  skip
  refine fn_ok Tb_ok (fn := Try.f56) Try.func56 rfl rfl (e := [(0, _), (1, _)]) rfl (by decide) rfl ?_
  refine zs ?_
  refine zR ?_
  refine zbx [.int _ _, .int _ _, .int _ _, .int _ _, .int _ _, .int _ _, .int _ _, .int _ _, .int _ _, .int _ _, .int _ _, .int _ _, _, _, .int _ _, .int _ _, .int _ _, .int _ _, .int _ _, .int _ _, .int _ _, .int _ _] 22 ?_
  refine zLI ?_
  refine zn ?_
  refine zs ?_
  refine zR ?_
  refine zLI ?_
  refine zLP ?_
  refine zLI ?_
  refine zLP ?_
  refine zLI ?_
  refine zLP ?_
  refine zLI ?_
  refine zLc (hF) ?_
  refine zLT [_, _] ?_
  refine zLI ?_
  refine zLI ?_
  refine zLI ?_
  refine zLI ?_
  refine zn ?_
  refine zs ?_
  refine zR ?_
  refine zLI ?_
  refine zLI ?_
  refine zLI ?_
  refine zn ?_
  refine zt ?_
  refine ends (l := [.int _ _]) (q := .int _ _) (.inr rfl) rfl ⟨trivial, trivial⟩ rfl rfl ?_
  rw [hw]
end Go.AM
end
section
open Go Go.AM
set_option linter.unusedVariables false
set_option linter.unusedSimpArgs false
namespace Go.AM
theorem plOut_flat (s : Shape) (w : Window) (top left first : Int) (cnt : Nat) (hc : 0 < cnt) : ∀ n, plOut s w top left first cnt n = (List.range (n * cnt)).map fun i => bif decide (tapPlace s w top left ((i / cnt : Nat) : Int) < 0) then -1 else w64 (w64 (tapPlace s w top left ((i / cnt : Nat) : Int) * s.C) + (first + ((i % cnt : Nat) : Int)))
  | 0 => by simp [plOut]
  | n + 1 => by
    rw [plOut_succ, plOut_flat s w top left first cnt hc n, Nat.add_mul, Nat.one_mul, List.range_add, List.map_append, List.map_map]
    congr 1
    unfold plRow
    apply List.map_congr_left
    intro c hcm
    have hlt : c < cnt := List.mem_range.1 hcm
    have e1 : (n * cnt + c) / cnt = n := by rw [Nat.mul_comm, Nat.mul_add_div hc, Nat.div_eq_of_lt hlt, Nat.add_zero]
    have e2 : (n * cnt + c) % cnt = c := by rw [Nat.mul_comm, Nat.mul_add_mod, Nat.mod_eq_of_lt hlt]
    simp only [Function.comp, e1, e2]
def wtF (S : Site) (ch : Int) (i : Nat) : Int := if S.Op.Kind = 4 then 1 else w64 (S.Op.Weights.getD (w64 (w64 (w64 (ch - 1) * S.Len) + i)).toNat default)
def tapAt (S : Site) (at_ : Int) (k : Nat) : Int := tapPlace S.In S.Op.Win (tapsTop S.In S.Op.Win at_) (tapsLeft S.In S.Op.Win at_) k
def atF (S : Site) (ch at_ : Int) (i : Nat) : Int :=
  if S.Op.Kind = 1 then i else if S.Op.Kind = 2 then (if tapAt S at_ (i / S.In.C.toNat) < 0 then -1 else w64 (w64 (tapAt S at_ (i / S.In.C.toNat) * S.In.C) + ((i % S.In.C.toNat : Nat) : Int))) else (if tapAt S at_ i < 0 then -1 else w64 (w64 (tapAt S at_ i * S.In.C) + (ch - 1)))
theorem cond_ite {α : Type} {p : Prop} [Decidable p] {a b : α} : (bif decide p then a else b) = if p then a else b := by by_cases h : p <;> simp [h]
theorem plOf_get {S : Site} (hS : SiteOk S) (ch at_ : Int) {i : Nat} (hi : i < S.Len.toNat) : (plOf S ch at_).getD i 0 = atF S ch at_ i := by
  have B := shapeB_iff.1 hS.inB
  have hl := plOf_len hS ch at_
  unfold plOf at hl ⊢
  unfold atF tapAt
  by_cases k1 : S.Op.Kind = 1
  · rw [if_pos k1, if_pos k1]; simp [hi]
  · rw [if_neg k1, if_neg k1]
    rw [if_neg k1] at hl
    by_cases k2 : S.Op.Kind = 2
    · simp only [if_pos k2] at hl ⊢
      rw [plOut_flat _ _ _ _ _ _ (by omega)] at hl ⊢
      simp only [List.length_map, List.length_range] at hl
      rw [List.getD_eq_getElem?_getD, List.getElem?_map, List.getElem?_range (by omega)]
      simp only [Option.map_some, Option.getD_some, cond_ite, Int.zero_add]
    · simp only [if_neg k2] at hl ⊢
      rw [plOut_flat _ _ _ _ _ _ (by omega)] at hl ⊢
      simp only [List.length_map, List.length_range] at hl
      rw [List.getD_eq_getElem?_getD, List.getElem?_map, List.getElem?_range (by omega)]
      simp only [Option.map_some, Option.getD_some, cond_ite, Nat.div_one, Nat.mod_one, Int.natCast_zero, Int.add_zero]
/-- the terms of a sum -/
def tlF (S : Site) (ch at_ : Int) : List Term := if S.Op.Kind = 4 then ofP (plOf S ch at_) (plOf S ch at_).length else ofQ (plOf S ch at_) ((ofWs S ch).map w64) (plOf S ch at_).length
theorem tlF_len {S : Site} (hS : SiteOk S) (ch at_ : Int) : (tlF S ch at_).length = S.Len.toNat := by
  unfold tlF
  split
  · rw [ofP_len _ _ (Nat.le_refl _), plOf_len hS]
  · rw [ofQ_len, plOf_len hS]
theorem tlF_get {S : Site} (hS : SiteOk S) {ch : Int} (hch : 1 ≤ ch ∧ ch ≤ S.Out.C) (at_ : Int) {i : Nat} (hi : i < S.Len.toNat) : (tlF S ch at_).getD i default = ⟨wtF S ch i, atF S ch at_ i⟩ := by
  have hl := plOf_len hS ch at_
  have hg := plOf_get hS ch at_ hi
  have hlen := hS.len
  unfold tlF wtF
  split
  · rename_i k4
    rw [ofP, List.take_length, Nat.sub_self, List.replicate_zero, List.append_nil, List.getD_eq_getElem?_getD, List.getElem?_map]
    rw [List.getD_eq_getElem?_getD] at hg
    rw [List.getElem?_eq_getElem (by omega)] at hg ⊢
    simp only [Option.map_some, Option.getD_some] at hg ⊢
    rw [hg]
  · rename_i k4
    obtain ⟨w1, w2, w3, w4, w5, w6, w7⟩ := of_weights hS k4 hch
    have O := shapeB_iff.1 hS.outB
    have b2 : ch * S.Len ≤ 1024 * 512 := Int.mul_le_mul (by omega) hlen.2 (by omega) (by omega)
    have e : w64 (w64 (w64 (ch - 1) * S.Len) + (i : Int)) = (ch - 1) * S.Len + i := by rw [w1, w2]; exact w64_id (by omega)
    rw [ofQ, List.getD_eq_getElem?_getD, List.getElem?_map, List.getElem?_range (by omega)]
    simp only [Option.map_some, Option.getD_some]
    rw [if_pos (by omega), hg, e]
    congr 1
    unfold ofWs
    rw [w1, w2, w3, List.getD_eq_getElem?_getD, List.getD_eq_getElem?_getD, List.getElem?_map, List.getElem?_take, if_pos (by omega), List.getElem?_drop]
    have e2 : ((ch - 1) * S.Len).toNat + i = ((ch - 1) * S.Len + (i : Int)).toNat := by omega
    rw [e2]
    have hlt : ((ch - 1) * S.Len + (i : Int)).toNat < S.Op.Weights.length := by omega
    rw [List.getElem?_eq_getElem hlt]; rfl
theorem termsF_eq {m : Model} {op ch at_ : Int} (h0 : findE m op = 0) (hb : ofBad (findS m op) ch at_ = false) : termsF m op ch at_ = tlF (findS m op) ch at_ := by
  simp [termsF, h0, hb, tlF]
end Go.AM
end
section
open Go Go.AM
set_option linter.unusedVariables false
set_option linter.unusedSimpArgs false
namespace Go.AM
theorem tap_range {s : Shape} (hs : shapeB s = true) (w : Window) (top left k : Int) : tapPlace s w top left k = -1 ∨ ∃ y x, (0 ≤ y ∧ y < s.H) ∧ (0 ≤ x ∧ x < s.W) ∧ tapPlace s w top left k = y * s.W + x ∧ y = w64 (top + w64 (k.tdiv w.KW)) ∧ x = w64 (left + k.tmod w.KW) := by
  have B := shapeB_iff.1 hs
  unfold tapPlace
  dsimp only
  rw [show w64 (s.H - 1) = s.H - 1 from w64_id (by omega), show w64 (s.W - 1) = s.W - 1 from w64_id (by omega)]
  generalize w64 (top + w64 (k.tdiv w.KW)) = y
  generalize w64 (left + k.tmod w.KW) = x
  cases hy : inB y 0 (s.H - 1) with
  | false => left; rfl
  | true =>
    cases hx : inB x 0 (s.W - 1) with
    | false => left; rfl
    | true =>
      right
      simp [inB] at hy hx
      have a0 : 0 ≤ y * s.W := Int.mul_nonneg hy.1 (by omega)
      have a1 : y * s.W ≤ 1024 * 1024 := Int.mul_le_mul (by omega) B.2.1.2 (by omega) (by omega)
      refine ⟨y, x, by omega, by omega, ?_, rfl, rfl⟩
      show w64 (w64 (y * s.W) + x) = _
      rw [show w64 (y * s.W) = y * s.W from w64_id (by omega)]
      exact w64_id (by omega)
theorem yx_lt {y x H W : Int} (hy : 0 ≤ y ∧ y < H) (hx : 0 ≤ x ∧ x < W) : 0 ≤ y * W + x ∧ y * W + x < H * W := by
  have a0 : 0 ≤ y * W := Int.mul_nonneg hy.1 (by omega)
  have a1 : (y + 1) * W ≤ H * W := Int.mul_le_mul_of_nonneg_right (by omega) (by omega)
  rw [Int.add_mul] at a1; omega
theorem tapAt_range {S : Site} (hS : SiteOk S) (at_ : Int) (k : Nat) : tapAt S at_ k = -1 ∨ (0 ≤ tapAt S at_ k ∧ tapAt S at_ k < S.In.H * S.In.W) := by
  rcases tap_range hS.inB S.Op.Win (tapsTop S.In S.Op.Win at_) (tapsLeft S.In S.Op.Win at_) k with h | ⟨y, x, hy, hx, h, _⟩
  · exact .inl h
  · right; unfold tapAt; rw [h]; exact yx_lt hy hx
/-- with its channel -/
theorem pc_val {S : Site} (hS : SiteOk S) {p c : Int} (hp : 0 ≤ p ∧ p < S.In.H * S.In.W) (hc : 0 ≤ c ∧ c < S.In.C) : w64 (w64 (p * S.In.C) + c) = p * S.In.C + c ∧ 0 ≤ p * S.In.C + c ∧ p * S.In.C + c < S.In.H * S.In.W * S.In.C := by
  have B := shapeB_iff.1 hS.inB
  have h := yx_lt hp hc
  have a0 : 0 ≤ p * S.In.C := Int.mul_nonneg hp.1 (by omega)
  rw [show w64 (p * S.In.C) = p * S.In.C from w64_id (by omega)]
  exact ⟨w64_id (by omega), h⟩
theorem atF_range {S : Site} (hS : SiteOk S) {ch : Int} (hch : 1 ≤ ch ∧ ch ≤ S.Out.C) (at_ : Int) {i : Nat} (hi : i < S.Len.toNat) : atF S ch at_ i = -1 ∨ (0 ≤ atF S ch at_ i ∧ atF S ch at_ i < S.In.H * S.In.W * S.In.C) := by
  have B := shapeB_iff.1 hS.inB
  unfold atF
  by_cases k1 : S.Op.Kind = 1
  · rw [if_pos k1, ← hS.len1 k1]; right; omega
  · rw [if_neg k1]
    by_cases k2 : S.Op.Kind = 2
    · rw [if_pos k2]
      have hm : i % S.In.C.toNat < S.In.C.toNat := Nat.mod_lt _ (by omega)
      rcases tapAt_range hS at_ (i / S.In.C.toNat) with h | h
      · left; rw [h]; rfl
      · rw [if_neg (by omega)]
        obtain ⟨e, h1, h2⟩ := pc_val hS h (c := ((i % S.In.C.toNat : Nat) : Int)) ⟨Int.natCast_nonneg _, by have := Int.ofNat_lt.2 hm; omega⟩
        right; rw [e]; exact ⟨h1, h2⟩
    · rw [if_neg k2]
      have o3 := hS.out3 (by have := hS.kind; omega)
      rcases tapAt_range hS at_ i with h | h
      · left; rw [h]; rfl
      · rw [if_neg (by omega)]
        obtain ⟨e, h1, h2⟩ := pc_val hS h (c := ch - 1) ⟨by omega, by omega⟩
        right; rw [e]; exact ⟨h1, h2⟩
theorem tlF_at {S : Site} (hS : SiteOk S) {ch : Int} (hch : 1 ≤ ch ∧ ch ≤ S.Out.C) (at_ : Int) : ∀ t ∈ tlF S ch at_, t.At = -1 ∨ (0 ≤ t.At ∧ t.At < S.In.H * S.In.W * S.In.C) := by
  intro t ht
  obtain ⟨i, hi⟩ := List.getElem?_of_mem ht
  have hlt : i < S.Len.toNat := by rw [← tlF_len hS ch at_]; exact (List.getElem?_eq_some_iff.1 hi).1
  have := tlF_get hS hch at_ hlt
  rw [List.getD_eq_getElem?_getD, hi] at this
  simp only [Option.getD_some] at this
  rw [this]; exact atF_range hS hch at_ hlt
end Go.AM
end
section
open Go Go.AM Go.Proofs
set_option maxRecDepth 10000
set_option linter.unusedVariables false
set_option linter.unusedSimpArgs false
namespace Go.AM
/-- what a term takes -/
def vT (a : List Int) (pad : Int) (t : Term) : Int := if t.At ≥ 0 then w64 (a.getD t.At.toNat default) else pad
def sumT (b : Int) (l : List Term) (a : List Int) (pad : Int) : Int := l.foldl (fun s t => w64 (s + w64 (t.W * vT a pad t))) b
theorem foldl_take' {α β : Type} [Inhabited α] (f : β → α → β) (b : β) (l : List α) (k : Nat) (h : k < l.length) : (l.take (k + 1)).foldl f b = f ((l.take k).foldl f b) (l.getD k default) := by
  rw [List.take_add_one, List.foldl_append]
  simp [List.getD_eq_getElem?_getD, h]
theorem plain_sum (b : Int) (l : List Term) (a : List Int) (pad : Int) (hl : l.length ≤ 1048576) (hat : ∀ t ∈ l, t.At < 0 ∨ t.At < a.length) : Ok Try.prog 47 [.int .i64 b, .ro (l.map termC), .ro (a.map i8C), .int .i64 pad] (.int .i64 (sumT b l a pad)) := by
  refine fn_ok Tb_ok (fn := Try.f47) Try.func47 rfl rfl (e := [(0, _), (1, _), (2, _), (3, _)]) rfl (by decide) rfl ?_
  refine zs ?_
  refine zR ?_
  refine zLI ?_
  refine zn ?_
  refine zs ?_
  refine zs ?_
  refine zR ?_
  refine zLO ?_
  refine zLI ?_
  refine zLI ?_
  refine zn ?_
  refine W_block ?_
  refine W_for l.length (fun k => ⟨[(0, .int .i64 (sumT b (l.take k) a pad)), (2, .ro (a.map i8C)), (3, .int .i64 pad), (12, .ro (l.map termC)), (13, .int .i64 ((l.map termC).length : Int)), (14, .int .i64 (k : Int))], [], [], 0⟩) (le_fit ⟨rfl, rfl, rfl, rfl, rfl, rfl, trivial⟩ trivial trivial rfl rfl rfl rfl rfl) ?_
  intro k hk
  refine zs ?_
  refine zR ?_
  refine zLB ?_
  refine zn ?_
  refine zs ?_
  refine W_cond (b := _) rfl (fun h15 => ?_) (fun h15 => ?_)
  · have hlt : k < l.length := by simpa using h15
    have hi := hat (l.getD k default) (by rw [List.getD_eq_getElem?_getD, List.getElem?_eq_getElem hlt]; exact List.getElem_mem hlt)
    refine zk ?_
    refine zs ?_
    refine W_block ?_
    refine zs ?_
    refine zR ?_
    (refine L_v Tb_ok (v := _) (ave_index_ro rfl rfl rfl (fun _ => rfl) rfl (by first | omega | assumption | decide | (simp_all; done) | (simp_all; omega)) (by first | omega | assumption | decide | (simp_all; done) | (simp_all; omega)) trivial) rfl ?_)
    refine zLG [.int _ _, .int _ _] ?_
    refine zal [.int .i64 0, .int .i64 0] 2 ?_
    refine zst (.agg [.int _ _, .int _ _]) [_, _] [[_, _]] ?_
    refine zn ?_
    refine zs ?_
    refine zR ?_
    refine zLI ?_
    refine zLI ?_
    refine zn ?_
    refine zs ?_
    refine zs ?_
    refine zR ?_
    refine zLP ?_
    refine zLI ?_
    refine zLB ?_
    refine zn ?_
    refine W_cond (b := _) rfl (fun h21 => ?_) (fun h21 => ?_)
    · have h0 : (l.getD k default).At ≥ 0 := of_decide_eq_true h21
      have h1 : (l.getD k default).At < (a.length : Int) := by omega
      have hs : w64 (sumT b (l.take k) a pad + w64 ((l.getD k default).W * w64 (a.getD (l.getD k default).At.toNat default))) = sumT b (l.take (k + 1)) a pad := by
        unfold sumT
        rw [foldl_take' _ _ _ _ hlt, vT, if_pos h0]
      refine zR ?_
      refine zLO ?_
      refine zLP ?_
      refine zLI ?_
      (refine L_v Tb_ok (v := _) (ave_index_ro rfl rfl rfl (fun _ => rfl) rfl (by first | exact h0 | exact h1) (by first | exact h0 | exact h1) trivial) rfl ?_)
      refine zLI ?_
      refine zLI ?_
      refine zLI ?_
      refine zn ?_
      refine zR ?_
      refine zLI ?_
      refine zLP ?_
      refine zLI ?_
      refine zLI ?_
      refine zLI ?_
      refine zLI ?_
      refine zLI ?_
      refine zn ?_
      refine zR ?_
      refine zLI ?_
      refine zLI ?_
      refine zn ?_
      refine for_end hlt (le_fit ⟨congrArg (AV.int .i64) hs, rfl, rfl, rfl, rfl, congrArg _ (w_succ hlt (by omega)), trivial⟩ trivial trivial rfl rfl rfl rfl rfl)
    · have h0 : ¬ (l.getD k default).At ≥ 0 := of_decide_eq_false h21
      have hs : w64 (sumT b (l.take k) a pad + w64 ((l.getD k default).W * pad)) = sumT b (l.take (k + 1)) a pad := by
        unfold sumT
        rw [foldl_take' _ _ _ _ hlt, vT, if_neg h0]
      refine zk ?_
      refine zR ?_
      refine zLI ?_
      refine zLP ?_
      refine zLI ?_
      refine zLI ?_
      refine zLI ?_
      refine zLI ?_
      refine zLI ?_
      refine zn ?_
      refine zR ?_
      refine zLI ?_
      refine zLI ?_
      refine zn ?_
      refine for_end hlt (le_fit ⟨congrArg (AV.int .i64) hs, rfl, rfl, rfl, rfl, congrArg _ (w_succ hlt (by omega)), trivial⟩ trivial trivial rfl rfl rfl rfl rfl)
  · have hke : k = l.length := by simp at h15; omega
    refine W_exit ?_
    repeat (first | refine pass_then ?_ | refine pass_for ?_)
    refine blockQ_hit ?_
    refine zs ?_
    refine zR ?_
    refine zLI ?_
    refine zLI ?_
    refine zn ?_
    refine zt ?_
    refine ends (l := [.int _ _]) (q := .int _ _) (.inr rfl) rfl ⟨trivial, trivial⟩ rfl rfl ?_
    rw [hke, List.take_length]
end Go.AM
end
section
open Go Go.AM Go.Proofs
set_option maxRecDepth 10000
set_option linter.unusedVariables false
set_option linter.unusedSimpArgs false
namespace Go.AM
/-- a channel's sum at a position -/
def oneSum (m : Model) (op : Int) (a : List Int) (at_ c : Nat) : Int := sumT (biasF m op ((c : Int) + 1) at_) (termsF m op ((c : Int) + 1) at_) a (m.Ops.getD (op - 1).toNat default).Pad
def sumsF (m : Model) (op : Int) (a : List Int) : List Int := (List.range ((findS m op).Out.H * (findS m op).Out.W * (findS m op).Out.C).toNat).map fun i => oneSum m op a (i / (findS m op).Out.C.toNat) (i % (findS m op).Out.C.toNat)
theorem mul_lt_two' {a b A B : Nat} (ha : a < A) (hb : b < B) : a * B + b < A * B := by
  have : (a + 1) * B ≤ A * B := Nat.mul_le_mul_right _ ha
  rw [Nat.add_mul, Nat.one_mul] at this; omega
theorem take_snoc1 {α : Type} [Inhabited α] {l : List α} {k : Nat} {v : α} (h : k < l.length) (hv : l.getD k default = v) : l.take k ++ [v] = l.take (k + 1) := by
  rw [List.take_add_one, ← hv]; simp [List.getD_eq_getElem?_getD, h]
theorem terms_in {m : Model} {op : Int} (h0 : findE m op = 0) (ch at_ : Int) : ∀ t ∈ termsF m op ch at_, t.At < 0 ∨ t.At < (findS m op).In.H * (findS m op).In.W * (findS m op).In.C := by
  intro t ht
  obtain ⟨hS, _⟩ := site_ok h0
  cases hb : ofBad (findS m op) ch at_ with
  | true => simp [termsF, h0, hb] at ht
  | false =>
    rw [termsF_eq h0 hb] at ht
    rcases tlF_at hS ((ofBad_iff hS).1 hb).1 at_ t ht with h | h
    · left; omega
    · right; omega
theorem plain_sums (m : Model) (op : Int) (a : List Int) (h0 : findE m op = 0) (ha : (a.length : Int) = (findS m op).In.H * (findS m op).In.W * (findS m op).In.C) : Ok Try.prog 20 [.agg (modelC m), .int .i64 op, .ro (a.map i8C)] (.ro ((sumsF m op a).map intC)) := by
  obtain ⟨hS, ⟨o1, o2⟩, _, he, _⟩ := site_ok h0
  have hn := (whole_ok he).1
  have O := shapeB_iff.1 hS.outB
  obtain ⟨p1, p2, p3⟩ := out_pos hS
  have ow : IntKind.i64.wrap (op - 1) = op - 1 := w64_id (by omega)
  have i0 : 0 ≤ IntKind.i64.wrap (op - 1) := by rw [ow]; omega
  have i1 : IntKind.i64.wrap (op - 1) < (m.Ops.length : Int) := by rw [ow]; omega
  have pc : w64 (w64 ((findS m op).Out.H * (findS m op).Out.W) * (findS m op).Out.C) = (findS m op).Out.H * (findS m op).Out.W * (findS m op).Out.C := by
    rw [p1]; have : 0 ≤ (findS m op).Out.H * (findS m op).Out.W * (findS m op).Out.C := Int.mul_nonneg (by omega) (by omega)
    exact w64_id (by omega)
  have pcn : 0 ≤ (findS m op).Out.H * (findS m op).Out.W * (findS m op).Out.C := Int.mul_nonneg (by omega) (by omega)
  have hLl : (sumsF m op a).length = (w64 ((findS m op).Out.H * (findS m op).Out.W)).toNat * (findS m op).Out.C.toNat := by
    simp [sumsF, p1, Int.toNat_mul (show 0 ≤ (findS m op).Out.H * (findS m op).Out.W by omega) (show 0 ≤ (findS m op).Out.C by omega)]
  have hget : ∀ i j, i < (w64 ((findS m op).Out.H * (findS m op).Out.W)).toNat → j < (findS m op).Out.C.toNat → (sumsF m op a).getD (i * (findS m op).Out.C.toNat + j) 0 = oneSum m op a i j := by
    intro i j hi hj
    have hlt := mul_lt_two' hi hj
    have e1 : (i * (findS m op).Out.C.toNat + j) / (findS m op).Out.C.toNat = i := by rw [Nat.mul_comm, Nat.mul_add_div (by omega), Nat.div_eq_of_lt hj, Nat.add_zero]
    have e2 : (i * (findS m op).Out.C.toNat + j) % (findS m op).Out.C.toNat = j := by rw [Nat.mul_comm, Nat.mul_add_mod, Nat.mod_eq_of_lt hj]
    rw [← hLl] at hlt
    have hlt2 := hlt
    rw [sumsF, List.length_map, List.length_range] at hlt2
    simp [sumsF, List.getD_eq_getElem?_getD, hlt2, e1, e2]
  have hLs : (sumsF m op a).length ≤ 16384 := by
    have : (sumsF m op a).length = ((findS m op).Out.H * (findS m op).Out.W * (findS m op).Out.C).toNat := by simp [sumsF]
    omega
  have hsum : ∀ (c i : Nat), Ok Try.prog 47 [.int .i64 (biasF m op ((c : Int) + 1) i), .ro ((termsF m op ((c : Int) + 1) i).map termC), .ro (a.map i8C), .int .i64 (m.Ops.getD (IntKind.i64.wrap (op - 1)).toNat default).Pad] (.int .i64 (oneSum m op a i c)) := fun c i => by
    rw [ow]
    exact plain_sum _ _ a _ (by have := termsF_len m op ((c : Int) + 1) i; omega) (fun t ht => by rw [ha]; exact terms_in h0 _ _ t ht)
  have hC : ∀ c : Nat, c < (findS m op).Out.C.toNat → IntKind.i64.wrap ((c : Int) + 1) = (c : Int) + 1 := fun c hc => w64_id (by omega)
  generalize hP : w64 ((findS m op).Out.H * (findS m op).Out.W) = P at *
  generalize hCC : (findS m op).Out.C = C at *
  generalize sumsF m op a = L at *
  have mk1 : (0 : Int) ≤ w64 (P * C) := by rw [pc]; exact pcn
  have mk3 : ((Tb.at 2).bytes : Int) * w64 (P * C) ≤ 281474976710656 := by rw [pc, show (Tb.at 2).bytes = 8 from rfl]; omega
  have mk4 : w64 (P * C) ≤ 9223372036854775807 := by rw [pc]; omega
  refine fn_ok Tb_ok (fn := Try.f20) Try.func20 rfl rfl (e := [(0, _), (1, _), (2, _)]) rfl (by decide) rfl ?_
  refine zs ?_
  refine zR ?_
  refine zbx [.int _ _, .int _ _, .int _ _, .int _ _, .int _ _, _, .int _ _] 7 ?_
  refine zLN ?_
  refine zn ?_
  refine zs ?_
  refine zR ?_
  refine zLG [.int _ _, .int _ _, .int _ _, .int _ _, .int _ _, _, .int _ _] ?_
  refine zLI ?_
  refine zLc ((show Ok Try.prog 12 [.agg (modelC m), .int .i64 op] (.tup [.int .i64 C, .int .i64 (findE m op)]) from hCC ▸ terms_Channels m op)) ?_
  refine zLT [_, _] ?_
  refine zLI ?_
  refine zLI ?_
  refine zLI ?_
  refine zLI ?_
  refine zn ?_
  refine zs ?_
  refine zR ?_
  refine zLG [.int _ _, .int _ _, .int _ _, .int _ _, .int _ _, _, .int _ _] ?_
  refine zLI ?_
  refine zLc ((show Ok Try.prog 46 [.agg (modelC m), .int .i64 op] (.tup [.int .i64 P, .int .i64 (findE m op)]) from hP ▸ terms_Positions m op)) ?_
  refine zLT [_, _] ?_
  refine zLI ?_
  refine zLI ?_
  refine zLI ?_
  refine zLI ?_
  refine zn ?_
  refine zs ?_
  refine zR ?_
  refine zLI ?_
  refine zLI ?_
  refine zLI ?_
  refine L_make Tb_ok (el := 2) (sz := 1) (z := [.int .i64 0]) rfl rfl rfl rfl rfl rfl rfl rfl ⟨trivial, trivial⟩ (by exact ⟨Int.le_refl _, mk1⟩) (by exact ⟨mk3, mk4⟩) rfl ?_
  refine zLW ?_
  refine zn ?_
  refine zs ?_
  refine zs ?_
  refine zR ?_
  refine zLI ?_
  refine zLI ?_
  refine zn ?_
  refine W_block ?_
  refine W_tok (t := 11) (id := 1) (ty := 2) (sz := 1) (fz := 0) (es := []) (l := []) rfl rfl rfl rfl rfl rfl rfl ?_
  refine W_for P.toNat (fun i => ⟨[(1, .int .i64 op), (2, .ro (a.map i8C)), (3, .ptr 0 0 0), (7, .int .i64 C), (11, .app 2 ((L.take (i * C.toNat)).map intC)), (33, .int .i64 P), (34, .int .i64 (i : Int))], [(0, some ⟨26, 7, 0, [modelC m]⟩)], [(2, some (2, 1, (L.take (i * C.toNat)).length))], 3⟩) (le_fit ⟨rfl, rfl, rfl, rfl, by rw [Nat.zero_mul]; rfl, rfl, rfl, trivial⟩ ⟨.inr rfl, trivial⟩ ⟨.inr (by rw [Nat.zero_mul]; rfl), trivial⟩ rfl rfl rfl rfl rfl) ?_
  intro i hi
  refine zs ?_
  refine zR ?_
  refine zLB ?_
  refine zn ?_
  refine zs ?_
  refine W_cond (b := _) rfl (fun h35 => ?_) (fun h35 => ?_)
  · have hit : i < P.toNat := by have := of_decide_eq_true h35; omega
    refine zk ?_
    refine zs ?_
    refine W_block ?_
    refine zs ?_
    refine zR ?_
    refine zLI ?_
    refine zLI ?_
    refine zn ?_
    refine zs ?_
    refine zR ?_
    refine zLI ?_
    refine zLI ?_
    refine zn ?_
    refine W_block ?_
    refine W_for C.toNat (fun j => ⟨[(1, .int .i64 op), (2, .ro (a.map i8C)), (3, .ptr 0 0 0), (7, .int .i64 C), (11, .app 2 ((L.take (i * C.toNat + j)).map intC)), (12, .int .i64 (i : Int)), (33, .int .i64 P), (34, .int .i64 (i : Int)), (37, .int .i64 C), (38, .int .i64 (j : Int))], [(0, some ⟨26, 7, 0, [modelC m]⟩)], [(2, some (2, 1, (L.take (i * C.toNat + j)).length))], 3⟩) (le_fit ⟨rfl, rfl, rfl, rfl, rfl, rfl, rfl, rfl, rfl, rfl, trivial⟩ ⟨.inr rfl, trivial⟩ ⟨.inr rfl, trivial⟩ rfl rfl rfl rfl rfl) ?_
    intro j hj
    have hlen : (L.take (i * C.toNat + j)).length ≤ 16384 := by rw [List.length_take]; omega
    refine zs ?_
    refine zR ?_
    refine zLB ?_
    refine zn ?_
    refine zs ?_
    refine W_cond (b := _) rfl (fun h39 => ?_) (fun h39 => ?_)
    · have hjt : j < C.toNat := by have := of_decide_eq_true h39; omega
      have hap := take_snoc1 (by rw [hLl]; exact mul_lt_two' hit hjt) (hget i j hit hjt)
      refine zk ?_
      refine zs ?_
      refine W_block ?_
      refine zs ?_
      refine zR ?_
      refine zLI ?_
      refine zLI ?_
      refine zn ?_
      refine zs ?_
      refine zR ?_
      refine zLG [.int _ _, .int _ _, .int _ _, .int _ _, .int _ _, _, .int _ _] ?_
      refine zLI ?_
      refine zLI ?_
      refine zLI ?_
      refine zLI ?_
      refine zLc ((show Ok Try.prog 13 [.agg (modelC m), .int .i64 op, .int .i64 (IntKind.i64.wrap ((j : Int) + 1)), .int .i64 (i : Int)] (.tup [.ro ((termsF m op ((j : Int) + 1) i).map termC), .int .i64 (biasF m op ((j : Int) + 1) i), .int .i64 (ofE m op ((j : Int) + 1) i)]) from by rw [hC j hjt]; exact terms_Of m op ((j : Int) + 1) i)) ?_
      refine zLT [_, _, _] ?_
      refine zLO ?_
      refine zLI ?_
      refine zLI ?_
      refine zLO ?_
      refine zLI ?_
      refine zLI ?_
      refine zn ?_
      refine zR ?_
      refine zLA ?_
      refine zLI ?_
      refine zLO ?_
      refine zLO ?_
      refine zLP ?_
      refine zLO ?_
      refine zLI ?_
      refine zLI ?_
      (refine L_v Tb_ok (v := _) (ave_index_ro rfl rfl rfl (fun _ => rfl) rfl (by first | exact i0 | exact i1 | (rw [List.length_map]; exact i1)) (by first | exact i0 | exact i1 | (rw [List.length_map]; exact i1)) trivial) rfl ?_)
      refine zLQ ?_
      refine zLI ?_
      refine zLc (hsum j i) ?_
      refine L_build Tb_ok (t := 28) (len := 1) (el := 2) (sz := 1) (es := [[_]]) (z := [.int .i64 0]) rfl rfl rfl rfl rfl (by decide) trivial rfl rfl rfl rfl rfl ?_
      refine L_app1 Tb_ok (f := intC) (v := oneSum m op a i j) (tok := 2) (el := 2) (sz := 1) rfl rfl rfl rfl rfl ⟨trivial, trivial⟩ (fun _ => ⟨rfl, rfl⟩) (by rw [show (Tb.at 2).bytes = 8 from rfl]; omega) rfl ?_
      refine zLA ?_
      refine zn ?_
      refine zR ?_
      refine zLI ?_
      refine zLI ?_
      refine zn ?_
      refine for_end hjt (le_fit ⟨rfl, rfl, rfl, rfl, congrArg (fun z => AV.app 2 (List.map intC z)) hap, rfl, rfl, rfl, rfl, congrArg _ (w_succ hjt (by omega)), trivial⟩ ⟨.inr rfl, trivial⟩ ⟨.inr (congrArg (fun z => some (2, 1, List.length z)) hap), trivial⟩ rfl rfl rfl rfl rfl)
    · have hje : j = C.toNat := by have := of_decide_eq_false h39; omega
      refine W_exit ?_
      repeat (first | refine pass_then ?_ | refine pass_for ?_)
      refine blockQ_hit ?_
      refine zR ?_
      refine zLI ?_
      refine zLI ?_
      refine zn ?_
      refine for_end hit (le_fit ⟨rfl, rfl, rfl, rfl, by rw [hje, ← Nat.succ_mul]; rfl, rfl, congrArg _ (w_succ hit (by omega)), trivial⟩ ⟨.inr rfl, trivial⟩ ⟨.inr (by rw [hje, ← Nat.succ_mul]; rfl), trivial⟩ rfl rfl rfl rfl rfl)
  · have hie : i = P.toNat := by have := of_decide_eq_false h35; omega
    refine W_exit ?_
    repeat (first | refine pass_then ?_ | refine pass_for ?_)
    refine blockQ_hit ?_
    refine zs ?_
    refine zR ?_
    refine zLA ?_
    refine zLA ?_
    refine zn ?_
    refine zt ?_
    (refine ends (l := [.app _ _]) (q := .ro _) (.inr rfl) rfl ⟨trivial, trivial⟩ rfl rfl ?_)
    rw [hie, ← hLl, List.take_length]
end Go.AM
end
section
open Go Go.AM Go.Proofs
set_option maxRecDepth 10000
set_option linter.unusedVariables false
set_option linter.unusedSimpArgs false
namespace Go.AM
def elemsI (m : Model) (op : Int) : Int := (findS m op).In.H * (findS m op).In.W * (findS m op).In.C
def totE (m : Model) (op : Int) (a : List Int) : Int := if findE m op = 0 then if (a.length : Int) = elemsI m op then 0 else 70 else findE m op
def totL (m : Model) (op : Int) (a : List Int) : List Int := if totE m op a = 0 then sumsF m op a else []
theorem plain_Totals (m : Model) (op : Int) (a : List Int) : Ok Try.prog 6 [.agg (modelC m), .int .i64 op, .ro (a.map i8C)] (.tup [.ro ((totL m op a).map intC), .int .i64 (totE m op a)]) := by
  by_cases h0 : findE m op = 0
  · have hc20 : (findE m op != 0) = false := by simp [h0]
    obtain ⟨hS, ⟨o1, o2⟩, hop, he, hFS⟩ := site_ok h0
    have hn := (whole_ok he).1
    have hwl := (whole_ok he).2.2.2.1
    have B := shapeB_iff.1 hS.inB
    have ow : IntKind.i64.wrap (op - 1) = op - 1 := w64_id (by omega)
    have i0 : 0 ≤ IntKind.i64.wrap (op - 1) := by rw [ow]; omega
    have i1 : IntKind.i64.wrap (op - 1) < (m.Ops.length : Int) := by rw [ow]; omega
    have hA := whole_A he (i := (op - 1).toNat) (by omega)
    have a0 : 0 ≤ (m.Ops.getD (IntKind.i64.wrap (op - 1)).toNat default).A := by rw [ow]; exact hA.1
    have a1 : (m.Ops.getD (IntKind.i64.wrap (op - 1)).toNat default).A < ((wholeF m).1.length : Int) := by rw [ow, hwl]; omega
    have hIn : (wholeF m).1.getD (m.Ops.getD (IntKind.i64.wrap (op - 1)).toNat default).A.toNat default = (findS m op).In := by rw [ow, hFS]; rfl
    have el : w64 (w64 ((findS m op).In.H * (findS m op).In.W) * (findS m op).In.C) = elemsI m op := by
      have c0 : 0 ≤ (findS m op).In.H * (findS m op).In.W := Int.mul_nonneg (by omega) (by omega)
      have c1 : (findS m op).In.H * (findS m op).In.W ≤ 1024 * 1024 := Int.mul_le_mul B.1.2 B.2.1.2 (by omega) (by omega)
      rw [show w64 ((findS m op).In.H * (findS m op).In.W) = _ from w64_id (by omega)]
      have c2 : 0 ≤ (findS m op).In.H * (findS m op).In.W * (findS m op).In.C := Int.mul_nonneg c0 (by omega)
      exact w64_id (by omega)
    --@@1
    skip
    refine fn_ok Tb_ok (fn := Try.f6) Try.func6 rfl rfl (e := [(0, _), (1, _), (2, _)]) rfl (by decide) rfl ?_
    refine zs ?_
    refine zR ?_
    refine zbx [.int _ _, .int _ _, .int _ _, .int _ _, .int _ _, _, .int _ _] 7 ?_
    refine zLN ?_
    refine zLI ?_
    refine zn ?_
    refine zs ?_
    refine zs ?_
    refine zR ?_
    refine zLG [.int _ _, .int _ _, .int _ _, .int _ _, .int _ _, _, .int _ _] ?_
    refine zLI ?_
    refine zLc (terms_Length m op) ?_
    refine zLT [_, _] ?_
    refine zLI ?_
    refine zLI ?_
    refine zLI ?_
    refine zLI ?_
    refine zn ?_
    refine zs ?_
    refine zR ?_
    refine zLI ?_
    refine zLB ?_
    refine zn ?_
    refine W_cond_f (b := _) rfl (by exact hc20) ?_
    refine zk ?_
    refine zs ?_
    refine zR ?_
    refine zLG [.int _ _, .int _ _, .int _ _, .int _ _, .int _ _, _, .int _ _] ?_
    refine zLc (model_Shapes m) ?_
    refine zLT [_, _] ?_
    refine zLO ?_
    refine zLG [.int _ _, .int _ _, .int _ _] ?_
    refine zal [.int .i64 0, .int .i64 0, .int .i64 0] 3 ?_
    refine zLO ?_
    refine zst (.agg [.int _ _, .int _ _, .int _ _]) [_, _, _] [[_, _, _]] ?_
    refine zn ?_
    refine zs ?_
    refine zR ?_
    refine zLO ?_
    refine zLP ?_
    refine zLO ?_
    refine zLI ?_
    refine zLI ?_
    (refine L_v Tb_ok (v := _) (ave_index_ro rfl rfl rfl (fun _ => rfl) rfl (by first | exact i0 | exact i1) (by first | exact i0 | exact i1) trivial) rfl ?_)
    refine zLQ ?_
    refine zLI ?_
    (refine L_v Tb_ok (v := _) (ave_index_ro rfl rfl rfl (fun _ => rfl) rfl (by first | exact a0 | exact a1) (by first | exact a0 | exact a1) trivial) rfl ?_)
    refine zLG [.int _ _, .int _ _, .int _ _] ?_
    refine zal [.int .i64 0, .int .i64 0, .int .i64 0] 3 ?_
    refine zst (.agg [.int _ _, .int _ _, .int _ _]) [_, _, _] [[_, _, _]] ?_
    refine zn ?_
    refine zs ?_
    refine zs ?_
    refine zR ?_
    refine zLO ?_
    refine zLI ?_
    refine zLP ?_
    refine zLI ?_
    refine zLP ?_
    refine zLI ?_
    refine zLI ?_
    refine zLP ?_
    refine zLI ?_
    refine zLI ?_
    refine zLB ?_
    refine zn ?_
    refine W_cond (b := _) rfl (fun h47 => ?_) (fun h47 => ?_)
    · have hne : ¬ (a.length : Int) = elemsI m op := by rw [← el, ← hIn]; simpa [w64] using h47
      refine zs ?_
      refine zR ?_
      refine zLN ?_
      refine zLI ?_
      refine zn ?_
      refine zt ?_
      (refine ends (l := [.nils, .int _ _]) (q := .tup [.ro _, .int _ _]) (.inr rfl) rfl ⟨trivial, trivial, trivial⟩ rfl rfl ?_)
      simp [totL, totE, h0, hne, demC]
    · have hla : (a.length : Int) = elemsI m op := by rw [← el, ← hIn]; simpa [w64] using h47
      refine zk ?_
      refine zs ?_
      refine zR ?_
      refine zLG [.int _ _, .int _ _, .int _ _, .int _ _, .int _ _, _, .int _ _] ?_
      refine zLI ?_
      refine zLO ?_
      refine zLc (plain_sums m op a h0 hla) ?_
      refine zLO ?_
      refine zLI ?_
      refine zn ?_
      refine zt ?_
      (refine ends (l := [.ro _, .int _ _]) (q := .tup [.ro _, .int _ _]) (.inr rfl) rfl ⟨trivial, trivial, trivial⟩ rfl rfl ?_)
      simp [totL, totE, h0, hla]
  · have hc20 : (findE m op != 0) = true := by simp [h0]
    --@@2
    skip
    refine fn_ok Tb_ok (fn := Try.f6) Try.func6 rfl rfl (e := [(0, _), (1, _), (2, _)]) rfl (by decide) rfl ?_
    refine zs ?_
    refine zR ?_
    refine zbx [.int _ _, .int _ _, .int _ _, .int _ _, .int _ _, _, .int _ _] 7 ?_
    refine zLN ?_
    refine zLI ?_
    refine zn ?_
    refine zs ?_
    refine zs ?_
    refine zR ?_
    refine zLG [.int _ _, .int _ _, .int _ _, .int _ _, .int _ _, _, .int _ _] ?_
    refine zLI ?_
    refine zLc (terms_Length m op) ?_
    refine zLT [_, _] ?_
    refine zLI ?_
    refine zLI ?_
    refine zLI ?_
    refine zLI ?_
    refine zn ?_
    refine zs ?_
    refine zR ?_
    refine zLI ?_
    refine zLB ?_
    refine zn ?_
    refine W_cond_t (b := _) rfl (by exact hc20) ?_
    refine zs ?_
    refine zR ?_
    refine zLI ?_
    refine zLN ?_
    refine zLI ?_
    refine zn ?_
    refine zt ?_
    (refine ends (l := [.nils, .int _ _]) (q := .tup [.ro _, .int _ _]) (.inr rfl) rfl ⟨trivial, trivial, trivial⟩ rfl rfl ?_)
    simp [totL, totE, h0, demC]
end Go.AM
end
section
open Go Go.AM
set_option linter.unusedVariables false
set_option linter.unusedSimpArgs false
namespace Go.AM
def posS : List Term → Int
  | [] => 0
  | t :: r => max t.W 0 + posS r
def negS : List Term → Int
  | [] => 0
  | t :: r => min t.W 0 + negS r
theorem pos_bd : ∀ {l : List Term}, (∀ t ∈ l, -32768 ≤ t.W ∧ t.W ≤ 32767) → (0 ≤ posS l ∧ posS l ≤ 32767 * l.length) ∧ negS l ≤ 0 ∧ -32768 * (l.length : Int) ≤ negS l
  | [], _ => by simp [posS, negS]
  | t :: r, h => by
    have := pos_bd (l := r) (fun u hu => h u (by simp [hu]))
    have ht := h t (by simp)
    have hl : ((t :: r).length : Int) = r.length + 1 := by simp
    rw [posS, negS, hl]; omega
theorem up_exact : ∀ {l : List Term}, (∀ t ∈ l, -32768 ≤ t.W ∧ t.W ≤ 32767) → ∀ s : Int, 0 ≤ s → s + 32767 * l.length ≤ 4611686018427387904 → l.foldl (fun s t => w64 (s + mx t.W 0)) s = s + posS l
  | [], _, s, _, _ => by simp [posS]
  | t :: r, h, s, h0, h1 => by
    have ht := h t (by simp)
    have hl : ((t :: r).length : Int) = r.length + 1 := by simp
    rw [hl] at h1
    rw [List.foldl_cons, mx_eq, show w64 (s + max t.W 0) = s + max t.W 0 from w64_id (by omega), up_exact (fun u hu => h u (by simp [hu])) _ (by omega) (by omega), posS]; omega
theorem down_exact : ∀ {l : List Term}, (∀ t ∈ l, -32768 ≤ t.W ∧ t.W ≤ 32767) → ∀ s : Int, s ≤ 0 → -4611686018427387904 ≤ s - 32768 * l.length → l.foldl (fun s t => w64 (s + mn t.W 0)) s = s + negS l
  | [], _, s, _, _ => by simp [negS]
  | t :: r, h, s, h0, h1 => by
    have ht := h t (by simp)
    have hl : ((t :: r).length : Int) = r.length + 1 := by simp
    rw [hl] at h1
    rw [List.foldl_cons, mn_eq, show w64 (s + min t.W 0) = s + min t.W 0 from w64_id (by omega), down_exact (fun u hu => h u (by simp [hu])) _ (by omega) (by omega), negS]; omega
theorem mul_reach {W v R : Int} (h0 : 0 ≤ R) (hv : -R ≤ v ∧ v ≤ R) : -(R * (max W 0 - min W 0)) ≤ W * v ∧ W * v ≤ R * (max W 0 - min W 0) := by
  rcases Int.le_total 0 W with h | h
  · rw [Int.max_eq_left h, Int.min_eq_right h, Int.sub_zero, Int.mul_comm R W]
    have a := Int.mul_le_mul_of_nonneg_left hv.2 h
    have b := Int.mul_le_mul_of_nonneg_left hv.1 h
    rw [Int.mul_neg] at b
    exact ⟨b, a⟩
  · rw [Int.max_eq_right h, Int.min_eq_left h]
    have e : R * (0 - W) = (-W) * R := by rw [Int.mul_comm]; congr 1; omega
    rw [e]
    have a := Int.mul_le_mul_of_nonneg_left hv.2 (show 0 ≤ -W by omega)
    have b := Int.mul_le_mul_of_nonneg_left hv.1 (show 0 ≤ -W by omega)
    have e2 : W * v = -((-W) * v) := by rw [Int.neg_mul]; omega
    rw [e2]
    rw [Int.mul_neg] at b
    omega
theorem sum_bound {a : List Int} {pad R : Int} (hR : 0 ≤ R ∧ R ≤ 128) : ∀ {l : List Term}, (∀ t ∈ l, -32768 ≤ t.W ∧ t.W ≤ 32767) → (∀ t ∈ l, -R ≤ vT a pad t ∧ vT a pad t ≤ R) → ∀ s : Int, -4611686018427387904 ≤ s - 4294967296 * l.length → s + 4294967296 * l.length ≤ 4611686018427387904 →
    s - R * (posS l - negS l) ≤ sumT s l a pad ∧ sumT s l a pad ≤ s + R * (posS l - negS l)
  | [], _, _, s, _, _ => by simp [posS, negS, sumT]
  | t :: r, hW, hv, s, h0, h1 => by
    have ht := hW t (by simp)
    have htv := hv t (by simp)
    have hl : ((t :: r).length : Int) = r.length + 1 := by simp
    rw [hl] at h0 h1
    obtain ⟨m1, m2⟩ := mul_reach (W := t.W) hR.1 htv
    have b1 : R * (max t.W 0 - min t.W 0) ≤ 128 * 32768 := Int.mul_le_mul hR.2 (by omega) (by omega) (by omega)
    have b0 : 0 ≤ R * (max t.W 0 - min t.W 0) := Int.mul_nonneg hR.1 (by omega)
    unfold sumT
    rw [List.foldl_cons, show w64 (t.W * vT a pad t) = t.W * vT a pad t from w64_id (by omega), show w64 (s + t.W * vT a pad t) = _ from w64_id (by omega)]
    have ih := sum_bound (a := a) (pad := pad) hR (l := r) (fun u hu => hW u (by simp [hu])) (fun u hu => hv u (by simp [hu])) (s + t.W * vT a pad t) (by omega) (by omega)
    unfold sumT at ih
    have e : R * (posS (t :: r) - negS (t :: r)) = R * (max t.W 0 - min t.W 0) + R * (posS r - negS r) := by
      rw [posS, negS, ← Int.mul_add]; congr 1; omega
    rw [e]; omega
/-- no padding: no tap outside -/
theorem no_pad {S : Site} (hS : SiteOk S) {at_ : Int} (hat : 0 ≤ at_ ∧ at_ < S.Out.H * S.Out.W) (hp : qPads S.Op.Win = false) (k1 : S.Op.Kind ≠ 1) {k : Nat} (hk : k < tapN S.Op.Win) : tapAt S at_ k ≠ -1 := by
  obtain ⟨w1, w2, w3, w4⟩ := hS.win k1
  have W := windowB_iff w1
  have B := shapeB_iff.1 hS.inB
  have O := shapeB_iff.1 hS.outB
  have hz : S.Op.Win.Top = 0 ∧ S.Op.Win.Left = 0 ∧ S.Op.Win.Bottom = 0 ∧ S.Op.Win.Right = 0 := by
    unfold qPads at hp; simp only [mx_eq] at hp
    have := of_decide_eq_false hp; omega
  obtain ⟨_, _, o3, o4⟩ := outE_zero w2
  obtain ⟨t1, t2, t3⟩ := taps_win hS k1
  have hH : S.Out.H = (S.In.H - S.Op.Win.KH) / S.Op.Win.SH + 1 ∧ 0 ≤ S.In.H - S.Op.Win.KH := by
    have e : spanH S.In S.Op.Win = S.In.H - S.Op.Win.KH := by unfold spanH; rw [hz.1, hz.2.2.1]; simp only [Int.add_zero]; rw [show w64 S.In.H = S.In.H from w64_id (by omega), show w64 S.In.H = S.In.H from w64_id (by omega)]; exact w64_id (by omega)
    rw [e] at o3
    refine ⟨?_, o3⟩
    have h0 : 0 ≤ (S.In.H - S.Op.Win.KH) / S.Op.Win.SH := Int.ediv_nonneg o3 (by omega)
    have h1 : (S.In.H - S.Op.Win.KH) / S.Op.Win.SH ≤ S.In.H - S.Op.Win.KH := Int.ediv_le_self _ o3
    rw [w3]; unfold outH
    rw [if_pos hS.inB, if_pos w1, if_neg (by omega), e, Int.tdiv_eq_ediv_of_nonneg o3, show w64 ((S.In.H - S.Op.Win.KH) / S.Op.Win.SH) = _ from w64_id (by omega)]
    exact w64_id (by omega)
  have hW : S.Out.W = (S.In.W - S.Op.Win.KW) / S.Op.Win.SW + 1 ∧ 0 ≤ S.In.W - S.Op.Win.KW := by
    have e : spanW S.In S.Op.Win = S.In.W - S.Op.Win.KW := by unfold spanW; rw [hz.2.1, hz.2.2.2]; simp only [Int.add_zero]; rw [show w64 S.In.W = S.In.W from w64_id (by omega), show w64 S.In.W = S.In.W from w64_id (by omega)]; exact w64_id (by omega)
    rw [e] at o4
    refine ⟨?_, o4⟩
    have h0 : 0 ≤ (S.In.W - S.Op.Win.KW) / S.Op.Win.SW := Int.ediv_nonneg o4 (by omega)
    have h1 : (S.In.W - S.Op.Win.KW) / S.Op.Win.SW ≤ S.In.W - S.Op.Win.KW := Int.ediv_le_self _ o4
    rw [w4]; unfold outW
    rw [if_pos hS.inB, if_pos w1, if_neg (by omega), e, Int.tdiv_eq_ediv_of_nonneg o4, show w64 ((S.In.W - S.Op.Win.KW) / S.Op.Win.SW) = _ from w64_id (by omega)]
    exact w64_id (by omega)
  -- the row and the column of the window
  have r0 : 0 ≤ at_ / S.Out.W := Int.ediv_nonneg hat.1 (by omega)
  have r1 : at_ / S.Out.W < S.Out.H := Int.ediv_lt_of_lt_mul (by omega) hat.2
  have c0 : 0 ≤ at_ % S.Out.W := Int.emod_nonneg _ (by omega)
  have c1 : at_ % S.Out.W < S.Out.W := Int.emod_lt_of_pos _ (by omega)
  have hkN : (k : Int) < S.Op.Win.KH * S.Op.Win.KW := by unfold tapN at hk; rw [t1] at hk; omega
  have y0 : 0 ≤ (k : Int) / S.Op.Win.KW := Int.ediv_nonneg (by omega) (by omega)
  have y1 : (k : Int) / S.Op.Win.KW < S.Op.Win.KH := Int.ediv_lt_of_lt_mul (by omega) hkN
  have x0 : 0 ≤ (k : Int) % S.Op.Win.KW := Int.emod_nonneg _ (by omega)
  have x1 : (k : Int) % S.Op.Win.KW < S.Op.Win.KW := Int.emod_lt_of_pos _ (by omega)
  have yy : at_ / S.Out.W * S.Op.Win.SH ≤ S.In.H - S.Op.Win.KH := by
    have h1 : at_ / S.Out.W ≤ (S.In.H - S.Op.Win.KH) / S.Op.Win.SH := by omega
    exact Int.le_trans (Int.mul_le_mul_of_nonneg_right h1 (by omega)) (Int.ediv_mul_le _ (by omega))
  have xx : at_ % S.Out.W * S.Op.Win.SW ≤ S.In.W - S.Op.Win.KW := by
    have h1 : at_ % S.Out.W ≤ (S.In.W - S.Op.Win.KW) / S.Op.Win.SW := by omega
    exact Int.le_trans (Int.mul_le_mul_of_nonneg_right h1 (by omega)) (Int.ediv_mul_le _ (by omega))
  have yy0 : 0 ≤ at_ / S.Out.W * S.Op.Win.SH := Int.mul_nonneg r0 (by omega)
  have xx0 : 0 ≤ at_ % S.Out.W * S.Op.Win.SW := Int.mul_nonneg c0 (by omega)
  unfold tapAt tapPlace tapsTop tapsLeft
  dsimp only
  rw [← w4, hz.1, hz.2.1, Int.tdiv_eq_ediv_of_nonneg hat.1, Int.tmod_eq_emod_of_nonneg hat.1, Int.tdiv_eq_ediv_of_nonneg (show 0 ≤ (k : Int) by omega), Int.tmod_eq_emod_of_nonneg (show 0 ≤ (k : Int) by omega)]
  have e1 : w64 (at_ / S.Out.W) = at_ / S.Out.W := w64_id (by omega)
  rw [e1]
  simp only [Int.sub_zero]
  generalize at_ / S.Out.W * S.Op.Win.SH = Y at *
  generalize at_ % S.Out.W * S.Op.Win.SW = X at *
  generalize (k : Int) / S.Op.Win.KW = ky at *
  generalize (k : Int) % S.Op.Win.KW = kx at *
  have a1 : w64 (w64 (w64 Y) + w64 ky) = Y + ky := by rw [show w64 Y = Y from w64_id (by omega), show w64 Y = Y from w64_id (by omega), show w64 ky = ky from w64_id (by omega)]; exact w64_id (by omega)
  have a2 : w64 (w64 (w64 X) + kx) = X + kx := by rw [show w64 X = X from w64_id (by omega), show w64 X = X from w64_id (by omega)]; exact w64_id (by omega)
  rw [a1, a2, show w64 (S.In.H - 1) = S.In.H - 1 from w64_id (by omega), show w64 (S.In.W - 1) = S.In.W - 1 from w64_id (by omega)]
  have b1 : inB (Y + ky) 0 (S.In.H - 1) = true := by simp [inB]; omega
  have b2 : inB (X + kx) 0 (S.In.W - 1) = true := by simp [inB]; omega
  rw [b1, b2]
  have z := yx_lt (y := Y + ky) (x := X + kx) (H := S.In.H) (W := S.In.W) (by omega) (by omega)
  have z2 : S.In.H * S.In.W ≤ 1024 * 1024 := Int.mul_le_mul B.1.2 B.2.1.2 (by omega) (by omega)
  have z0 : 0 ≤ (Y + ky) * S.In.W := Int.mul_nonneg (by omega) (by omega)
  show w64 (w64 ((Y + ky) * S.In.W) + (X + kx)) ≠ -1
  rw [show w64 ((Y + ky) * S.In.W) = (Y + ky) * S.In.W from w64_id (by omega), show w64 _ = _ from w64_id (by omega)]
  omega
end Go.AM
end
section
open Go Go.AM Go.Proofs
set_option maxRecDepth 10000
set_option linter.unusedVariables false
set_option linter.unusedSimpArgs false
namespace Go.AM
theorem cond_beq' {α : Type} (a b : Int) (x y : α) : (bif a == b then x else y) = if a = b then x else y := by
  by_cases c : a = b
  · rw [if_pos c, show (a == b) = true by simpa using c]; rfl
  · rw [if_neg c, show (a == b) = false by simpa using c]; rfl
def updF {α : Type} (o o' : List α) (i : Nat) : List α := o'.take i ++ o.drop i
theorem updF_zero {α : Type} (o o' : List α) : updF o o' 0 = o := by simp [updF]
theorem updF_len {α : Type} {o o' : List α} {i : Nat} (h : o'.length = o.length) (hi : i ≤ o.length) : (updF o o' i).length = o.length := by simp [updF]; omega
theorem updF_end {α : Type} {o o' : List α} {n : Nat} (h : o'.length = o.length) (hn : o.length = n) : updF o o' n = o' := by subst hn; simp [updF, ← h]
theorem updF_set {α : Type} [Inhabited α] {o o' : List α} {i : Nat} (h : o'.length = o.length) (hi : i < o.length) {v : α} (hv : o'.getD i default = v) : (updF o o' i).set i v = updF o o' (i + 1) := by
  have e : (o'.take i).length = i := by simp; omega
  unfold updF
  rw [List.set_append, if_neg (by omega), e, Nat.sub_self, List.drop_eq_getElem_cons hi, List.set_cons_zero, List.take_add_one, List.getElem?_eq_getElem (by omega)]
  have : o'[i] = v := by rw [← hv]; simp [List.getD_eq_getElem?_getD, h, hi]
  simp [this]
/-- numbers of 8 bits -/
def B8 (a : List Int) : Prop := ∀ v ∈ a, -128 ≤ v ∧ v ≤ 127
theorem B8.at {a : List Int} (h : B8 a) (i : Nat) : -128 ≤ a.getD i default ∧ a.getD i default ≤ 127 := by
  rw [List.getD_eq_getElem?_getD]
  cases hq : a[i]? with
  | none => exact ⟨by decide, by decide⟩
  | some v => exact h v (List.mem_of_getElem? hq)
theorem mul_bd8 {a b : Int} (ha : -32768 ≤ a ∧ a ≤ 32767) (hb : -128 ≤ b ∧ b ≤ 127) : -4194304 ≤ a * b ∧ a * b ≤ 4194304 := by
  have h := Nat.mul_le_mul (show a.natAbs ≤ 32768 by omega) (show b.natAbs ≤ 128 by omega)
  rw [← Int.natAbs_mul] at h; omega
theorem vT_bd {a : List Int} (ha : B8 a) {pad : Int} (hp : -128 ≤ pad ∧ pad ≤ 127) (t : Term) : -128 ≤ vT a pad t ∧ vT a pad t ≤ 127 := by
  unfold vT
  split
  · have := ha.at t.At.toNat; rw [show w64 (a.getD t.At.toNat default) = _ from w64_id (by omega)]; exact this
  · exact hp
theorem sumT_go {a : List Int} (ha : B8 a) {pad : Int} (hp : -128 ≤ pad ∧ pad ≤ 127) : ∀ (l : List Term), (∀ t ∈ l, -32768 ≤ t.W ∧ t.W ≤ 32767) → ∀ (b B : Int), -B ≤ b ∧ b ≤ B → B + 4194304 * l.length ≤ 4611686018427387904 →
    -(B + 4194304 * l.length) ≤ sumT b l a pad ∧ sumT b l a pad ≤ B + 4194304 * l.length
  | [], _, b, B, hb, _ => by simpa [sumT] using hb
  | t :: l, hW, b, B, hb, hB => by
    have hl : ((t :: l).length : Int) = l.length + 1 := by simp
    rw [hl] at hB ⊢
    have hm := mul_bd8 (hW t (by simp)) (vT_bd ha hp t)
    have e1 : w64 (t.W * vT a pad t) = t.W * vT a pad t := w64_id (by omega)
    have e2 : w64 (b + t.W * vT a pad t) = b + t.W * vT a pad t := w64_id (by omega)
    have ih := sumT_go ha hp l (fun u hu => hW u (by simp [hu])) (b + t.W * vT a pad t) (B + 4194304) (by omega) (by omega)
    have e : sumT b (t :: l) a pad = sumT (b + t.W * vT a pad t) l a pad := by
      unfold sumT; rw [List.foldl_cons, e1, e2]
    rw [e]; omega
theorem oneSum_bd {m : Model} (hm : m.Wf) {op : Int} {a : List Int} (ha : B8 a) (hp : -128 ≤ (m.Ops.getD (op - 1).toNat default).Pad ∧ (m.Ops.getD (op - 1).toNat default).Pad ≤ 127) (i c : Nat) : -4294967296 ≤ oneSum m op a i c ∧ oneSum m op a i c ≤ 4294967296 := by
  have hl := termsF_len m op ((c : Int) + 1) i
  have hb := biasF_bd hm op ((c : Int) + 1) i
  have := sumT_go ha hp (termsF m op ((c : Int) + 1) i) (termsF_W hm op _ _) (biasF m op ((c : Int) + 1) i) 2147483648 (by omega) (by omega)
  unfold oneSum
  have h2 : (4194304 : Int) * (termsF m op ((c : Int) + 1) i).length ≤ 2147483648 := by omega
  omega
def redV (o : MOp) (n : Int) (t : Int) : Int := homeV o (if o.Kind = 4 then rhI t n else applyV t o.SA)
def reduceF (m : Model) (op : Int) (a : List Int) : List Int := (sumsF m op a).map (redV (m.Ops.getD (op - 1).toNat default) (findS m op).Len)
theorem homeV_bd {o : MOp} (ho : EndsOk o) (v : Int) : -128 ≤ homeV o v ∧ homeV o v ≤ 127 := by
  have := nearI_range ho.l.2.1 (nearI (-32768) 32767 v + o.Zero)
  have := ho.l
  unfold homeV finV; omega
end Go.AM
end
section
open Go Go.AM Go.Proofs
set_option maxRecDepth 10000
set_option linter.unusedVariables false
set_option linter.unusedSimpArgs false
namespace Go.AM
theorem op_ends {o : MOp} (h : op10 o = false) : EndsOk o ∧ -128 ≤ o.Pad ∧ o.Pad ≤ 127 := by
  unfold op10 at h
  cases hb : bytesB [o.Lo, o.Hi, o.Zero, o.Pad] with
  | false => rw [hb] at h; simp at h
  | true =>
    rw [hb] at h
    obtain ⟨h1, h2, h3, h4⟩ := bytesB4 hb
    simp at h
    exact ⟨⟨h3, h1.1, h, h2.2⟩, h4⟩
theorem w64_range' (x : Int) : -9223372036854775808 ≤ w64 x ∧ w64 x ≤ 9223372036854775807 := by rw [w64, IntKind.wrap_i64]; omega
theorem I64_of {x : Int} (h : -9223372036854775808 ≤ x ∧ x ≤ 9223372036854775807) : I64 x := I64.iff.2 h
theorem applyV_bd {x : Int} (s : Scale) (hx : -4294967296 ≤ x ∧ x ≤ 4294967296) : -9223372036854775807 ≤ applyV x s ∧ applyV x s ≤ 9223372036854775807 := by
  unfold applyV
  split
  · rename_i h
    obtain ⟨hm, _⟩ := scl_iff.1 h
    obtain ⟨b1, b2, b3, b4⟩ := mul_scaledI hx hm
    have := rhI_abs (x := x * s.Mult) (pw2_pos s.Shift)
    omega
  · omega
theorem redV_arg {o : MOp} {n t : Int} (hn : 1 ≤ n) (ht : -4294967296 ≤ t ∧ t ≤ 4294967296) : I64 (if o.Kind = 4 then rhI t n else applyV t o.SA) := by
  apply I64_of
  split
  · have := rhI_abs (x := t) hn; omega
  · have := applyV_bd o.SA ht; omega
theorem plain_reduce' (m : Model) (op : Int) (a L : List Int) (n : Int) (o : MOp) (hn : 1 ≤ n ∧ n ≤ 512) (hLl : L.length ≤ 16384) (hLb : ∀ t ∈ L, -4294967296 ≤ t ∧ t ≤ 4294967296) (ho : EndsOk o)
    (hOp : m.Ops.getD (IntKind.i64.wrap (op - 1)).toNat default = o) (i0 : 0 ≤ IntKind.i64.wrap (op - 1)) (i1 : IntKind.i64.wrap (op - 1) < (m.Ops.length : Int))
    (hL : Ok Try.prog 11 [.agg (modelC m), .int .i64 op] (.tup [.int .i64 n, .int .i64 0])) (hS : Ok Try.prog 20 [.agg (modelC m), .int .i64 op, .ro (a.map i8C)] (.ro (L.map intC))) :
    Ok Try.prog 30 [.agg (modelC m), .int .i64 op, .ro (a.map i8C)] (.ro ((L.map (redV o n)).map i8C)) := by
  have mk3 : ((Tb.at 62).bytes : Int) * (L.length : Int) ≤ 281474976710656 := by rw [show (Tb.at 62).bytes = 1 from rfl]; omega
  obtain ⟨N, hN⟩ : ∃ N, N = L.length := ⟨_, rfl⟩
  obtain ⟨R, hR⟩ : ∃ R, R = L.map (redV o n) := ⟨_, rfl⟩
  have hRl : R.length = (List.replicate N (0 : Int)).length := by rw [hR, hN]; simp
  have hrl : (List.replicate N (0 : Int)).length = N := List.length_replicate
  rw [← hR]
  rw [← hN] at mk3 hLl
  --@@1
  skip
  refine fn_ok Tb_ok (fn := Try.f30) Try.func30 rfl rfl (e := [(0, _), (1, _), (2, _)]) rfl (by decide) rfl ?_
  refine zs ?_
  refine zR ?_
  refine zbx [.int _ _, .int _ _, .int _ _, .int _ _, .int _ _, _, .int _ _] 7 ?_
  refine zLN ?_
  refine zn ?_
  refine zs ?_
  refine zR ?_
  refine zLP ?_
  refine zLO ?_
  refine zLI ?_
  refine zLI ?_
  (refine L_v Tb_ok (v := _) (ave_index_ro rfl rfl rfl (fun _ => rfl) rfl (by first | exact i0 | exact i1 | (rw [List.length_map]; exact i1)) (by first | exact i0 | exact i1 | (rw [List.length_map]; exact i1)) trivial) rfl ?_)
  refine zLG [.int _ _, .int _ _, .int _ _, .int _ _, .int _ _, .int _ _, .int _ _, .int _ _, .int _ _, .int _ _, .int _ _, .int _ _, _, _, .int _ _, .int _ _, .int _ _, .int _ _, .int _ _, .int _ _, .int _ _, .int _ _] ?_
  rw [hOp]
  refine zal [.int .i64 0, .int .i64 0, .int .i64 0, .int .i64 0, .int .i64 0, .int .i64 0, .int .i64 0, .int .i64 0, .int .i64 0, .int .i64 0, .int .i64 0, .int .i64 0, .nils, .nils, .int .i64 0, .int .i64 0, .int .i64 0, .int .i64 0, .int .i64 0, .int .i64 0, .int .i64 0, .int .i64 0] 22 ?_
  refine zst (.agg [.int _ _, .int _ _, .int _ _, .int _ _, .int _ _, .int _ _, .int _ _, .int _ _, .int _ _, .int _ _, .int _ _, .int _ _, _, _, .int _ _, .int _ _, .int _ _, .int _ _, .int _ _, .int _ _, .int _ _, .int _ _]) [_, _, _, _, _, _, _, _, _, _, _, _, _, _, _, _, _, _, _, _, _, _] [[_, _, _, _, _, _, _, _, _, _, _, _, _, _, _, _, _, _, _, _, _, _]] ?_
  refine zn ?_
  refine zs ?_
  refine zR ?_
  refine zLG [.int _ _, .int _ _, .int _ _, .int _ _, .int _ _, _, .int _ _] ?_
  refine zLI ?_
  refine zLc (hL) ?_
  refine zLT [_, _] ?_
  refine zLI ?_
  refine zLI ?_
  refine zLI ?_
  refine zLI ?_
  refine zn ?_
  refine zs ?_
  refine zR ?_
  refine zLG [.int _ _, .int _ _, .int _ _, .int _ _, .int _ _, _, .int _ _] ?_
  refine zLI ?_
  refine zLO ?_
  refine zLc (hS) ?_
  refine zLO ?_
  refine zn ?_
  refine zs ?_
  refine zR ?_
  refine zLO ?_
  refine zLI ?_
  simp only [List.length_map]
  rw [← hN]
  refine L_make Tb_ok (el := 62) (sz := 1) (z := [.int .i8 0]) rfl rfl rfl rfl rfl rfl rfl rfl ⟨trivial, trivial⟩ (by omega) (by omega) rfl ?_
  refine zLW ?_
  refine zn ?_
  refine zs ?_
  refine zs ?_
  refine zR ?_
  refine zLO ?_
  refine zLI ?_
  refine zLI ?_
  refine zn ?_
  refine W_block ?_
  refine W_forE (N) [(7, .ptr 1 0 0), (8, .int _ _), (11, .row 2 0 _), (35, .ro _), (36, .int _ _)] (fun (i : Nat) => [(37, .int .i64 (i : Int))]) [(1, some ⟨_, _, _, _⟩)] (fun (i : Nat) => [(2, some ⟨62, 1, 0, (updF (List.replicate N 0) R i).map i8C⟩)]) [] (fun (i : Nat) => []) 3 (le_fit (sub_cat ⟨rfl, trivial⟩ ⟨rfl, rfl, rfl, rfl, rfl, trivial⟩) (subO_cat ⟨.inr (by show some (Ob.mk 62 1 0 (List.replicate (((N : Nat) : Int)).toNat [AV.int .i8 0])) = _; rw [Int.toNat_natCast, updF_zero, List.map_replicate]; rfl), trivial⟩ ⟨.inr rfl, trivial⟩) (subK_cat trivial trivial) rfl rfl rfl (by simp [ltOB, i8C, AV.lt]) rfl) ?_
  intro i hi
  refine W.of_le (s' := ⟨[(37, .int .i64 (i : Int)), (7, .ptr 1 0 0), (8, .int _ _), (11, .row 2 0 _), (35, .ro _), (36, .int _ _)], [(2, some ⟨62, 1, 0, (updF (List.replicate N 0) R i).map i8C⟩), (1, some ⟨_, _, _, _⟩)], [], 3⟩) (le_fit ⟨rfl, rfl, rfl, rfl, rfl, rfl, trivial⟩ ⟨.inr rfl, .inr rfl, trivial⟩ trivial rfl rfl rfl (by simp [ltOB, i8C, AV.lt]) rfl) ?_
  refine zs ?_
  refine zR ?_
  refine zLB ?_
  refine zn ?_
  refine zs ?_
  refine W_cond (b := _) rfl (fun h38 => ?_) (fun h38 => ?_)
  · have hit : i < N := by (have := of_decide_eq_true h38; rw [List.length_map, ← hN] at this; omega)
    have htm : L.getD i default ∈ L := by rw [List.getD_eq_getElem?_getD, List.getElem?_eq_getElem (by omega)]; exact List.getElem_mem (by omega)
    have hti := hLb _ htm
    have hri : R.getD i default = redV o n (L.getD i default) := by rw [hR]; simp [List.getD_eq_getElem?_getD, show i < L.length by omega]
    refine zk ?_
    refine zs ?_
    refine W_block ?_
    refine zs ?_
    refine zR ?_
    refine zLI ?_
    (refine L_v Tb_ok (v := _) (ave_index_ro rfl rfl rfl (fun _ => rfl) rfl (by first | omega | assumption | decide | (simp_all; done) | (simp_all; omega)) (by first | omega | assumption | decide | (simp_all; done) | (simp_all; omega)) trivial) rfl ?_)
    refine zLI ?_
    refine zLI ?_
    refine zLI ?_
    refine zn ?_
    refine zs ?_
    refine zR ?_
    refine zLI ?_
    refine zLP ?_
    refine zLG [.int _ _, .int _ _] ?_
    refine zLc (fixq_Apply (L.getD i default) o.SA hti) ?_
    refine zLT [_, _] ?_
    refine zLI ?_
    refine zLI ?_
    refine zLI ?_
    refine zLI ?_
    refine zn ?_
    refine zs ?_
    refine zs ?_
    refine zR ?_
    refine zLP ?_
    refine zLI ?_
    refine zLB ?_
    refine zn ?_
    refine W_iftB (b := _) rfl [(7, .ptr 1 0 0), (8, .int _ _), (11, .row 2 0 _), (12, .int _ _), (35, .ro _), (36, .int _ _), (37, .int _ _)] (fun (z : Bool) => [(14, .int .i64 (bif z then rhI (L.getD i default) n else applyV (L.getD i default) o.SA))]) [(1, some ⟨_, _, _, _⟩), (2, some ⟨_, _, _, _⟩)] (fun (z : Bool) => []) [] (fun (z : Bool) => []) 3 ⟨rfl, rfl, rfl, rfl, rfl, rfl, rfl, trivial⟩ ⟨.inr rfl, .inr rfl, trivial⟩ trivial (fun h51 => ?_) (fun h51 => ?_) ?_
    · refine zR ?_
      refine zLI ?_
      refine zLI ?_
      refine zLc (fixq_Mean (L.getD i default) n (by omega) (by omega)) ?_
      refine zLT [_, _] ?_
      refine zLI ?_
      refine zLI ?_
      refine zLI ?_
      refine zn ?_
      exact ⟨trivial, (le_fit (sub_cat ⟨rfl, trivial⟩ ⟨rfl, rfl, rfl, rfl, rfl, rfl, rfl, trivial⟩) (subO_cat trivial ⟨.inr rfl, .inr rfl, trivial⟩) (subK_cat trivial trivial) rfl rfl rfl (by (simp [ltOB, i8C, intC, spanC, AV.lt]; done)) rfl)⟩
    · refine zk ?_
      exact ⟨trivial, (le_fit (sub_cat ⟨rfl, trivial⟩ ⟨rfl, rfl, rfl, rfl, rfl, rfl, rfl, trivial⟩) (subO_cat trivial ⟨.inr rfl, .inr rfl, trivial⟩) (subK_cat trivial trivial) rfl rfl rfl (by (simp [ltOB, i8C, intC, spanC, AV.lt]; done)) rfl)⟩
    refine W.of_le (s' := ⟨[(14, .int .i64 (bif _ then rhI (L.getD i default) n else applyV (L.getD i default) o.SA)), (7, .ptr 1 0 0), (8, .int _ _), (11, .row 2 0 _), (12, .int _ _), (35, .ro _), (36, .int _ _), (37, .int _ _)], [(1, some ⟨_, _, _, _⟩), (2, some ⟨_, _, _, _⟩)], [], 3⟩) (le_fit ⟨rfl, rfl, rfl, rfl, rfl, rfl, rfl, rfl, trivial⟩ ⟨.inr rfl, .inr rfl, trivial⟩ trivial rfl rfl rfl (by (simp [ltOB, i8C, intC, spanC, AV.lt]; done)) rfl) ?_
    have hbb := cond_beq' o.Kind 4 (rhI (L.getD i default) n) (applyV (L.getD i default) o.SA)
    have hH := plain_home o (bif o.Kind == 4 then rhI (L.getD i default) n else applyV (L.getD i default) o.SA) (by rw [hbb]; exact redV_arg hn.1 hti) ho
    refine zR ?_
    refine zLW ?_
    refine zLI ?_
    refine zLG [.int _ _, .int _ _, .int _ _, .int _ _, .int _ _, .int _ _, .int _ _, .int _ _, .int _ _, .int _ _, .int _ _, .int _ _, _, _, .int _ _, .int _ _, .int _ _, .int _ _, .int _ _, .int _ _, .int _ _, .int _ _] ?_
    refine zLI ?_
    refine zLc (hH) ?_
    (refine L_v Tb_ok (v := _) (ave_index_row rfl rfl rfl rfl rfl rfl (by first | omega | (rw [← hN]; omega)) (by first | omega | (rw [← hN]; omega)) trivial) rfl ?_)
    refine L_store_at Tb_ok (f := i8C) (xs := updF (List.replicate N 0) R i) (i) (redV o n (L.getD i default)) rfl rfl (by simp) (by rw [updF_len hRl (by rw [hrl]; omega), hrl]; omega) rfl rfl rfl rfl (by show [AV.int .i8 _] = [AV.int .i8 _]; rw [redV, hbb]) rfl rfl ⟨trivial, trivial⟩ ?_
    refine zn ?_
    refine zR ?_
    refine zLI ?_
    refine zLI ?_
    refine zn ?_
    refine for_end hit (le_fit (sub_cat ⟨congrArg _ (w_succ hit (by omega)), trivial⟩ ⟨rfl, rfl, rfl, rfl, rfl, trivial⟩) (subO_cat ⟨.inr (by rw [← updF_set hRl (by rw [hrl]; exact hit) hri]; rfl), trivial⟩ ⟨.inr rfl, trivial⟩) (subK_cat trivial trivial) rfl rfl rfl (by simp [ltOB, i8C, AV.lt]) rfl)
  · have hie : i = N := by (have := of_decide_eq_false h38; rw [List.length_map, ← hN] at this; omega)
    refine W_exit ?_
    repeat (first | refine pass_then ?_ | refine pass_for ?_)
    refine blockQ_hit ?_
    refine zs ?_
    refine zR ?_
    refine L_give (f := i8C) (xs := updF (List.replicate N 0) R i) 11 rfl rfl (by rw [updF_len hRl (by rw [hrl]; omega), hrl]; simp) rfl rfl (fun _ => rfl) (fun _ => rfl) ?_
    refine zLO ?_
    refine zLO ?_
    refine zn ?_
    refine zt ?_
    (refine ends (l := [.ro _]) (q := .ro _) (.inr rfl) rfl ⟨trivial, trivial⟩ rfl rfl ?_)
    rw [hie, updF_end hRl hrl]
def eachA (o : MOp) (x : Int) : Int := if o.Kind = 8 then x else applyV x o.SA
def eachU (o : MOp) (x y : Int) : Int := if o.Kind = 6 then w64 (eachA o x + applyV y o.SB) else eachA o x
def eachV (o : MOp) (x y : Int) : Int := homeV o (eachU o x y)
def eachF (o : MOp) (a b : List Int) : List Int := (List.range a.length).map fun i => eachV o (a.getD i default) (b.getD i default)
theorem bif_ne {α : Type} (a b : Int) (x y : α) : (bif a != b then x else y) = if a = b then y else x := by
  by_cases c : a = b
  · rw [if_pos c, show (a != b) = false by simpa using c]; rfl
  · rw [if_neg c, show (a != b) = true by simpa using c]; rfl
theorem plain_each (o : MOp) (a b : List Int) (hal : a.length ≤ 16384) (ha : B8 a) (hb : B8 b) (ho : EndsOk o) (hbl : o.Kind = 6 → b.length = a.length) :
    Ok Try.prog 32 [.agg (opC o), .ro (a.map i8C), .ro (b.map i8C)] (.ro ((eachF o a b).map i8C)) := by
  have mk3 : ((Tb.at 62).bytes : Int) * (a.length : Int) ≤ 281474976710656 := by rw [show (Tb.at 62).bytes = 1 from rfl]; omega
  obtain ⟨R, hR⟩ : ∃ R, R = eachF o a b := ⟨_, rfl⟩
  have hRg : ∀ i, i < a.length → R.getD i default = eachV o (a.getD i default) (b.getD i default) := fun i hi => by rw [hR]; simp [eachF, List.getD_eq_getElem?_getD, hi]
  have hRl0 : R.length = a.length := by rw [hR]; simp [eachF]
  rw [← hR]
  obtain ⟨N, hN⟩ : ∃ N, N = a.length := ⟨_, rfl⟩
  rw [← hN] at mk3 hal hRg hRl0 hbl
  have hrl : (List.replicate N (0 : Int)).length = N := List.length_replicate
  have hRl : R.length = (List.replicate N (0 : Int)).length := by rw [hRl0, hrl]
  --@@2
  skip
  refine fn_ok Tb_ok (fn := Try.f32) Try.func32 rfl rfl (e := [(0, _), (1, _), (2, _)]) rfl (by decide) rfl ?_
  refine zs ?_
  refine zR ?_
  refine zbx [.int _ _, .int _ _, .int _ _, .int _ _, .int _ _, .int _ _, .int _ _, .int _ _, .int _ _, .int _ _, .int _ _, .int _ _, _, _, .int _ _, .int _ _, .int _ _, .int _ _, .int _ _, .int _ _, .int _ _, .int _ _] 22 ?_
  refine zLN ?_
  refine zn ?_
  refine zs ?_
  refine zR ?_
  refine zLO ?_
  refine zLI ?_
  simp only [List.length_map]
  rw [← hN]
  refine L_make Tb_ok (el := 62) (sz := 1) (z := [.int .i8 0]) rfl rfl rfl rfl rfl rfl rfl rfl ⟨trivial, trivial⟩ (by omega) (by omega) rfl ?_
  refine zLW ?_
  refine zn ?_
  refine zs ?_
  refine zs ?_
  refine zR ?_
  refine zLO ?_
  refine zLI ?_
  refine zLI ?_
  refine zn ?_
  refine W_block ?_
  refine W_forE (N) [(1, .ro _), (2, .ro _), (3, .ptr 0 0 0), (7, .row 1 0 _), (16, .int _ _)] (fun (i : Nat) => [(17, .int .i64 (i : Int))]) [(0, some ⟨_, _, _, _⟩)] (fun (i : Nat) => [(1, some ⟨62, 1, 0, (updF (List.replicate N 0) R i).map i8C⟩)]) [] (fun (i : Nat) => []) 2 (le_fit (sub_cat ⟨rfl, trivial⟩ ⟨rfl, rfl, rfl, rfl, rfl, trivial⟩) (subO_cat ⟨.inr (by show some (Ob.mk 62 1 0 (List.replicate (((N : Nat) : Int)).toNat [AV.int .i8 0])) = _; rw [Int.toNat_natCast, updF_zero, List.map_replicate]; rfl), trivial⟩ ⟨.inr rfl, trivial⟩) (subK_cat trivial trivial) rfl rfl rfl (by (simp [ltOB, i8C, intC, spanC, AV.lt]; done)) rfl) ?_
  intro i hi
  refine W.of_le (s' := ⟨[(17, .int .i64 (i : Int)), (1, .ro _), (2, .ro _), (3, .ptr 0 0 0), (7, .row 1 0 _), (16, .int _ _)], [(1, some ⟨62, 1, 0, (updF (List.replicate N 0) R i).map i8C⟩), (0, some ⟨_, _, _, _⟩)], [], 2⟩) (le_fit ⟨rfl, rfl, rfl, rfl, rfl, rfl, trivial⟩ ⟨.inr rfl, .inr rfl, trivial⟩ trivial rfl rfl rfl (by (simp [ltOB, i8C, intC, spanC, AV.lt]; done)) rfl) ?_
  refine zs ?_
  refine zR ?_
  refine zLB ?_
  refine zn ?_
  refine zs ?_
  refine W_cond (b := _) rfl (fun h18 => ?_) (fun h18 => ?_)
  · have hit : i < N := by (have := of_decide_eq_true h18; rw [List.length_map, ← hN] at this; omega)
    have hxb := ha.at i
    have hyb := hb.at i
    have hxi : IntKind.i64.wrap (a.getD i default) = a.getD i default := w64_id (by omega)
    have hyi : IntKind.i64.wrap (b.getD i default) = b.getD i default := w64_id (by omega)
    have hri := hRg i hit
    refine zk ?_
    refine zs ?_
    refine W_block ?_
    refine zs ?_
    refine zR ?_
    refine zLI ?_
    refine zLI ?_
    refine zn ?_
    refine zs ?_
    refine zR ?_
    refine zLO ?_
    refine zLI ?_
    (refine L_v Tb_ok (v := _) (ave_index_ro rfl rfl rfl (fun _ => rfl) rfl (by first | omega | (rw [← hN]; omega)) (by first | omega | (rw [← hN]; omega)) trivial) rfl ?_)
    refine zLI ?_
    refine zLI ?_
    refine zLI ?_
    refine zn ?_
    refine zs ?_
    refine zs ?_
    refine zR ?_
    simp only [Int.toNat_natCast, hxi]
    refine zLP ?_
    refine zLI ?_
    refine zLB ?_
    refine zn ?_
    refine W_iftB (b := _) rfl [(1, .ro _), (2, .ro _), (3, .ptr 0 0 0), (7, .row 1 0 _), (8, .int _ _), (16, .int _ _), (17, .int _ _)] (fun (z : Bool) => [(9, .int .i64 (bif z then applyV (a.getD i default) o.SA else a.getD i default))]) [(0, some ⟨_, _, _, _⟩), (1, some ⟨_, _, _, _⟩)] (fun (z : Bool) => []) [] (fun (z : Bool) => []) 2 ⟨rfl, rfl, rfl, rfl, rfl, rfl, rfl, trivial⟩ ⟨.inr rfl, .inr rfl, trivial⟩ trivial (fun h27 => ?_) (fun h27 => ?_) ?_
    · refine zR ?_
      refine zLI ?_
      refine zLP ?_
      refine zLG [.int _ _, .int _ _] ?_
      refine zLc (fixq_Apply (a.getD i default) o.SA (by omega)) ?_
      refine zLT [_, _] ?_
      refine zLI ?_
      refine zLI ?_
      refine zLI ?_
      refine zn ?_
      exact ⟨trivial, (le_fit (sub_cat ⟨rfl, trivial⟩ ⟨rfl, rfl, rfl, rfl, rfl, rfl, rfl, trivial⟩) (subO_cat trivial ⟨.inr rfl, .inr rfl, trivial⟩) (subK_cat trivial trivial) rfl rfl rfl (by (simp [ltOB, i8C, intC, spanC, AV.lt]; done)) rfl)⟩
    · refine zk ?_
      exact ⟨trivial, (le_fit (sub_cat ⟨rfl, trivial⟩ ⟨rfl, rfl, rfl, rfl, rfl, rfl, rfl, trivial⟩) (subO_cat trivial ⟨.inr rfl, .inr rfl, trivial⟩) (subK_cat trivial trivial) rfl rfl rfl (by (simp [ltOB, i8C, intC, spanC, AV.lt]; done)) rfl)⟩
    refine W.of_le (s' := ⟨[(9, .int .i64 (bif _ then applyV (a.getD i default) o.SA else a.getD i default)), (1, .ro _), (2, .ro _), (3, .ptr 0 0 0), (7, .row 1 0 _), (8, .int _ _), (16, .int _ _), (17, .int _ _)], [(0, some ⟨_, _, _, _⟩), (1, some ⟨_, _, _, _⟩)], [], 2⟩) (le_fit ⟨rfl, rfl, rfl, rfl, rfl, rfl, rfl, rfl, trivial⟩ ⟨.inr rfl, .inr rfl, trivial⟩ trivial rfl rfl rfl (by (simp [ltOB, i8C, intC, spanC, AV.lt]; done)) rfl) ?_
    have hb1 : (bif o.Kind != 8 then applyV (a.getD i default) o.SA else a.getD i default) = eachA o (a.getD i default) := bif_ne _ _ _ _
    simp only [hb1]
    refine zs ?_
    refine zs ?_
    refine zR ?_
    refine zLP ?_
    refine zLI ?_
    refine zLB ?_
    refine zn ?_
    refine W_iftB (b := _) rfl [(1, .ro _), (2, .ro _), (3, .ptr 0 0 0), (7, .row 1 0 _), (8, .int _ _), (16, .int _ _), (17, .int _ _)] (fun (z : Bool) => [(9, .int .i64 (bif z then w64 (eachA o (a.getD i default) + applyV (b.getD i default) o.SB) else eachA o (a.getD i default)))]) [(0, some ⟨_, _, _, _⟩), (1, some ⟨_, _, _, _⟩)] (fun (z : Bool) => []) [] (fun (z : Bool) => []) 2 ⟨rfl, rfl, rfl, rfl, rfl, rfl, rfl, trivial⟩ ⟨.inr rfl, .inr rfl, trivial⟩ trivial (fun h37 => ?_) (fun h37 => ?_) ?_
    · refine zs ?_
      refine W_draw 13 Tb_mixed rfl (by decide) (by kernel_rfl) (by kernel_rfl) ?_
      refine zEO ?_
      refine zEI ?_
      (refine E_v Tb_ok (v := _) (ave_index_ro rfl rfl rfl (fun _ => rfl) rfl (by first | omega | (rw [hbl (by simpa using h37)]; omega)) (by first | omega | (rw [hbl (by simpa using h37)]; omega)) trivial) rfl ?_)
      refine zEI ?_
      refine zEI ?_
      simp only [Int.toNat_natCast, hyi]
      refine zEP ?_
      refine zEG [.int _ _, .int _ _] ?_
      refine zEc (fixq_Apply (b.getD i default) o.SB (by omega)) ?_
      refine zET [_, _] ?_
      refine zEI ?_
      refine zEI ?_
      refine zEI ?_
      refine zEI ?_
      refine LexE_nil ?_
      refine zn ?_
      refine zR ?_
      refine zLI ?_
      refine zLI ?_
      refine zLI ?_
      refine zLI ?_
      refine zn ?_
      exact ⟨trivial, (le_fit (sub_cat ⟨rfl, trivial⟩ ⟨rfl, rfl, rfl, rfl, rfl, rfl, rfl, trivial⟩) (subO_cat trivial ⟨.inr rfl, .inr rfl, trivial⟩) (subK_cat trivial trivial) rfl rfl rfl (by (simp [ltOB, i8C, intC, spanC, AV.lt]; done)) rfl)⟩
    · refine zk ?_
      exact ⟨trivial, (le_fit (sub_cat ⟨rfl, trivial⟩ ⟨rfl, rfl, rfl, rfl, rfl, rfl, rfl, trivial⟩) (subO_cat trivial ⟨.inr rfl, .inr rfl, trivial⟩) (subK_cat trivial trivial) rfl rfl rfl (by (simp [ltOB, i8C, intC, spanC, AV.lt]; done)) rfl)⟩
    refine W.of_le (s' := ⟨[(9, .int .i64 (bif _ then w64 (eachA o (a.getD i default) + applyV (b.getD i default) o.SB) else eachA o (a.getD i default))), (1, .ro _), (2, .ro _), (3, .ptr 0 0 0), (7, .row 1 0 _), (8, .int _ _), (16, .int _ _), (17, .int _ _)], [(0, some ⟨_, _, _, _⟩), (1, some ⟨_, _, _, _⟩)], [], 2⟩) (le_fit ⟨rfl, rfl, rfl, rfl, rfl, rfl, rfl, rfl, trivial⟩ ⟨.inr rfl, .inr rfl, trivial⟩ trivial rfl rfl rfl (by (simp [ltOB, i8C, intC, spanC, AV.lt]; done)) rfl) ?_
    have hb2 : (bif o.Kind == 6 then w64 (eachA o (a.getD i default) + applyV (b.getD i default) o.SB) else eachA o (a.getD i default)) = eachU o (a.getD i default) (b.getD i default) := cond_beq' _ _ _ _
    simp only [hb2]
    have hH := plain_home o (eachU o (a.getD i default) (b.getD i default)) (by
      apply I64_of
      have q1 := applyV_bd o.SA (x := a.getD i default) (by omega)
      unfold eachU
      split
      · exact w64_range' _
      · unfold eachA; split <;> omega) ho
    refine zR ?_
    refine zLW ?_
    refine zLI ?_
    refine zLG [.int _ _, .int _ _, .int _ _, .int _ _, .int _ _, .int _ _, .int _ _, .int _ _, .int _ _, .int _ _, .int _ _, .int _ _, _, _, .int _ _, .int _ _, .int _ _, .int _ _, .int _ _, .int _ _, .int _ _, .int _ _] ?_
    refine zLI ?_
    refine zLc (hH) ?_
    (refine L_v Tb_ok (v := _) (ave_index_row rfl rfl rfl rfl rfl rfl (by first | omega | (rw [← hN]; omega)) (by first | omega | (rw [← hN]; omega)) trivial) rfl ?_)
    refine L_store_at Tb_ok (f := i8C) (xs := updF (List.replicate N 0) R i) (i) (eachV o (a.getD i default) (b.getD i default)) rfl rfl (by simp) (by rw [updF_len hRl (by rw [hrl]; omega), hrl]; omega) rfl rfl rfl rfl rfl rfl rfl ⟨trivial, trivial⟩ ?_
    refine zn ?_
    refine zR ?_
    refine zLI ?_
    refine zLI ?_
    refine zn ?_
    refine for_end hit (le_fit (sub_cat ⟨congrArg _ (w_succ hit (by omega)), trivial⟩ ⟨rfl, rfl, rfl, rfl, rfl, trivial⟩) (subO_cat ⟨.inr (by rw [← updF_set hRl (by rw [hrl]; exact hit) hri]; rfl), trivial⟩ ⟨.inr rfl, trivial⟩) (subK_cat trivial trivial) rfl rfl rfl (by (simp [ltOB, i8C, intC, spanC, AV.lt]; done)) rfl)
  · have hie : i = N := by (have := of_decide_eq_false h18; rw [List.length_map, ← hN] at this; omega)
    refine W_exit ?_
    repeat (first | refine pass_then ?_ | refine pass_for ?_)
    refine blockQ_hit ?_
    refine zs ?_
    refine zR ?_
    refine L_give (f := i8C) (xs := updF (List.replicate N 0) R i) 7 rfl rfl (by rw [updF_len hRl (by rw [hrl]; omega), hrl]; simp) rfl rfl (fun _ => rfl) (fun _ => rfl) ?_
    refine zLO ?_
    refine zLO ?_
    refine zn ?_
    refine zt ?_
    (refine ends (l := [.ro _]) (q := .ro _) (.inr rfl) rfl ⟨trivial, trivial⟩ rfl rfl ?_)
    rw [hie, updF_end hRl hrl]
end Go.AM
end
section
open Go Go.AM
set_option linter.unusedVariables false
set_option linter.unusedSimpArgs false
namespace Go.AM
theorem neg_pad {S : Site} (hS : SiteOk S) {ch at_ : Int} (hch : 1 ≤ ch ∧ ch ≤ S.Out.C) (hat : 0 ≤ at_ ∧ at_ < S.Out.H * S.Out.W) {t : Term} (ht : t ∈ tlF S ch at_) (hn : t.At < 0) : qPads S.Op.Win = true := by
  cases hq : qPads S.Op.Win with
  | true => rfl
  | false =>
    exfalso
    have B := shapeB_iff.1 hS.inB
    obtain ⟨i, hi⟩ := List.getElem?_of_mem ht
    have hlt : i < S.Len.toNat := by rw [← tlF_len hS ch at_]; exact (List.getElem?_eq_some_iff.1 hi).1
    have hg := tlF_get hS hch at_ hlt
    rw [List.getD_eq_getElem?_getD, hi] at hg
    simp only [Option.getD_some] at hg
    rw [hg] at hn
    dsimp only at hn
    unfold atF at hn
    by_cases k1 : S.Op.Kind = 1
    · rw [if_pos k1] at hn; omega
    · rw [if_neg k1] at hn
      obtain ⟨t1, t2, t3⟩ := taps_win hS k1
      by_cases k2 : S.Op.Kind = 2
      · rw [if_pos k2] at hn
        have hk : i / S.In.C.toNat < tapN S.Op.Win := by
          have hTn : tapN S.Op.Win * S.In.C.toNat = S.Len.toNat := by unfold tapN; rw [t1, hS.len2 k2, ← Int.toNat_mul (by omega) (by omega)]
          rw [Nat.div_lt_iff_lt_mul (by omega), hTn]; exact hlt
        have hm : i % S.In.C.toNat < S.In.C.toNat := Nat.mod_lt _ (by omega)
        rcases tapAt_range hS at_ (i / S.In.C.toNat) with h | h
        · exact no_pad hS hat hq k1 hk h
        · rw [if_neg (by omega)] at hn
          obtain ⟨e, h1, _⟩ := pc_val hS h (c := ((i % S.In.C.toNat : Nat) : Int)) ⟨Int.natCast_nonneg _, by have := Int.ofNat_lt.2 hm; omega⟩
          rw [e] at hn; omega
      · rw [if_neg k2] at hn
        have hk : i < tapN S.Op.Win := by unfold tapN; rw [t1, ← hS.len3 (by have := hS.kind; omega)]; exact hlt
        have o3 := hS.out3 (by have := hS.kind; omega)
        rcases tapAt_range hS at_ i with h | h
        · exact no_pad hS hat hq k1 hk h
        · rw [if_neg (by omega)] at hn
          obtain ⟨e, h1, _⟩ := pc_val hS h (c := ch - 1) ⟨by omega, by omega⟩
          rw [e] at hn; omega
theorem held {m : Model} (hm : m.Wf) {op ch : Int} {s : Span} (hq : quickE m op ch s = 0) {a : List Int} (ha : (a.length : Int) = (findS m op).In.H * (findS m op).In.W * (findS m op).In.C) (hs : ∀ x ∈ a, s.Lo ≤ x ∧ x ≤ s.Hi)
    {i : Nat} (hi : (i : Int) < (findS m op).Out.H * (findS m op).Out.W) : (quickS m op ch s).Lo ≤ oneSum m op a i (ch - 1).toNat ∧ oneSum m op a i (ch - 1).toNat ≤ (quickS m op ch s).Hi := by
  obtain ⟨e0, hb, hr, hQ⟩ := quick_ok hm hq
  obtain ⟨f0, fb, _⟩ := ofE_op e0
  obtain ⟨hS, _, hop, _⟩ := site_ok f0
  obtain ⟨hch, _⟩ := (ofBad_iff hS).1 fb
  have hat : 0 ≤ (i : Int) ∧ (i : Int) < (findS m op).Out.H * (findS m op).Out.W := ⟨by omega, hi⟩
  have hbi : ofBad (findS m op) ch i = false := (ofBad_iff hS).2 ⟨hch, hat⟩
  have ec : (((ch - 1).toNat : Nat) : Int) + 1 = ch := by omega
  have eb : biasF m op ch i = biasF m op ch 0 := by
    have hb0 : ofBad (findS m op) ch 0 = false := fb
    simp [biasF, f0, hbi, hb0]
  have hW := termsF_W hm op ch i
  have hl := termsF_len m op ch i
  have hv : ∀ t ∈ termsF m op ch i, -(reachV (findS m op).Op s) ≤ vT a (findS m op).Op.Pad t ∧ vT a (findS m op).Op.Pad t ≤ reachV (findS m op).Op s := by
    intro t ht
    rw [termsF_eq f0 hbi] at ht
    have hin := tlF_at hS hch i t ht
    unfold vT
    split
    · rename_i h0
      have hx : s.Lo ≤ a.getD t.At.toNat default ∧ a.getD t.At.toNat default ≤ s.Hi := by
        have hlt : t.At.toNat < a.length := by omega
        rw [List.getD_eq_getElem?_getD, List.getElem?_eq_getElem hlt]
        exact hs _ (List.getElem_mem hlt)
      rw [show w64 (a.getD t.At.toNat default) = a.getD t.At.toNat default from w64_id (by omega)]
      unfold reachV; split <;> omega
    · rename_i h0
      have hp := neg_pad hS hch hat ht (by omega)
      unfold reachV; rw [if_pos hp]; omega
  -- the weights are the same at each position
  have same : ∀ (j : Int), 0 ≤ j ∧ j < (findS m op).Out.H * (findS m op).Out.W → (termsF m op ch j).map Term.W = (List.range (findS m op).Len.toNat).map fun i => wtF (findS m op) ch i := by
    intro j hj
    have hbj : ofBad (findS m op) ch j = false := (ofBad_iff hS).2 ⟨hch, hj⟩
    rw [termsF_eq f0 hbj]
    apply List.ext_getElem?
    intro q
    rw [List.getElem?_map, List.getElem?_map]
    by_cases hlt : q < (findS m op).Len.toNat
    · have hg := tlF_get hS hch j hlt
      have hlt2 : q < (tlF (findS m op) ch j).length := by rw [tlF_len hS]; exact hlt
      rw [List.getD_eq_getElem?_getD, List.getElem?_eq_getElem hlt2] at hg
      simp only [Option.getD_some] at hg
      rw [List.getElem?_eq_getElem hlt2, hg, List.getElem?_range hlt]; rfl
    · rw [List.getElem?_eq_none (by rw [tlF_len hS]; omega), List.getElem?_eq_none (by simp; omega)]
      rfl
  have posW : ∀ l l' : List Term, l.map Term.W = l'.map Term.W → posS l = posS l' ∧ negS l = negS l' := by
    intro l
    induction l with
    | nil => intro l' h; cases l' with | nil => exact ⟨rfl, rfl⟩ | cons _ _ => simp at h
    | cons t r ih =>
      intro l' h
      cases l' with
      | nil => simp at h
      | cons t' r' =>
        simp only [List.map_cons, List.cons.injEq] at h
        obtain ⟨i1, i2⟩ := ih r' h.2
        simp only [posS, negS, h.1, i1, i2, and_self]
  have p0 : 0 ≤ (0 : Int) ∧ (0 : Int) < (findS m op).Out.H * (findS m op).Out.W := by have := out_pos hS; omega
  obtain ⟨q1, q2⟩ := posW _ _ ((same i hat).trans (same 0 p0).symm)
  have hW0 := termsF_W hm op ch 0
  have hl0 := termsF_len m op ch 0
  have u : upF (termsF m op ch 0) = posS (termsF m op ch i) := by
    have := up_exact hW0 0 (by omega) (by omega)
    rw [q1]; unfold upF; rw [this]; omega
  have d : downF (termsF m op ch 0) = negS (termsF m op ch i) := by
    have := down_exact hW0 0 (by omega) (by omega)
    rw [q2]; unfold downF; rw [this]; omega
  have hbd := biasF_bd hm op ch 0
  have := sum_bound (a := a) (pad := (findS m op).Op.Pad) hr hW hv (biasF m op ch 0) (by omega) (by omega)
  unfold oneSum
  rw [ec, eb, ← hop, hQ, u, d]
  exact this
end Go.AM
end
section
open Go Go.AM Go.Proofs
set_option maxRecDepth 10000
set_option linter.unusedVariables false
set_option linter.unusedSimpArgs false
namespace Go.AM
/-- an op that takes the greatest -/
structure MaxOk (o : MOp) (s t : Shape) : Prop where
  inB : shapeB s = true
  outB : shapeB t = true
  wb : windowB o.Win = true
  oe : outE s o.Win = 0
  h : t.H = outH s o.Win
  w : t.W = outW s o.Win
  c : t.C = s.C
  pz : o.Win.Top = 0 ∧ o.Win.Left = 0 ∧ o.Win.Bottom = 0 ∧ o.Win.Right = 0
theorem taps_winM {o : MOp} {s t : Shape} (H : MaxOk o s t) : w64 (o.Win.KH * o.Win.KW) = o.Win.KH * o.Win.KW ∧ 0 ≤ o.Win.KH * o.Win.KW ∧ o.Win.KH * o.Win.KW ≤ 1024 := by
  have W := windowB_iff H.wb
  have h0 : 0 ≤ o.Win.KH * o.Win.KW := Int.mul_nonneg (by omega) (by omega)
  have h1 : o.Win.KH * o.Win.KW ≤ 32 * 32 := Int.mul_le_mul W.1.2 W.2.1.2 (by omega) (by omega)
  exact ⟨w64_id (by omega), h0, by omega⟩
theorem no_padM {o : MOp} {s t : Shape} (H : MaxOk o s t) {at_ : Int} (hat : 0 ≤ at_ ∧ at_ < t.H * t.W) {k : Nat} (hk : k < tapN o.Win) : 0 ≤ tapPlace s o.Win (tapsTop s o.Win at_) (tapsLeft s o.Win at_) k ∧ tapPlace s o.Win (tapsTop s o.Win at_) (tapsLeft s o.Win at_) k < s.H * s.W := by
  have W := windowB_iff H.wb
  have B := shapeB_iff.1 H.inB
  have O := shapeB_iff.1 H.outB
  have hz := H.pz
  obtain ⟨_, _, o3, o4⟩ := outE_zero H.oe
  obtain ⟨t1, t2, t3⟩ := taps_winM H
  have hH : t.H = (s.H - o.Win.KH) / o.Win.SH + 1 ∧ 0 ≤ s.H - o.Win.KH := by
    have e : spanH s o.Win = s.H - o.Win.KH := by unfold spanH; rw [hz.1, hz.2.2.1]; simp only [Int.add_zero]; rw [show w64 s.H = s.H from w64_id (by omega), show w64 s.H = s.H from w64_id (by omega)]; exact w64_id (by omega)
    rw [e] at o3
    refine ⟨?_, o3⟩
    have h0 : 0 ≤ (s.H - o.Win.KH) / o.Win.SH := Int.ediv_nonneg o3 (by omega)
    have h1 : (s.H - o.Win.KH) / o.Win.SH ≤ s.H - o.Win.KH := Int.ediv_le_self _ o3
    rw [H.h]; unfold outH
    rw [if_pos H.inB, if_pos H.wb, if_neg (by omega), e, Int.tdiv_eq_ediv_of_nonneg o3, show w64 ((s.H - o.Win.KH) / o.Win.SH) = _ from w64_id (by omega)]
    exact w64_id (by omega)
  have hW : t.W = (s.W - o.Win.KW) / o.Win.SW + 1 ∧ 0 ≤ s.W - o.Win.KW := by
    have e : spanW s o.Win = s.W - o.Win.KW := by unfold spanW; rw [hz.2.1, hz.2.2.2]; simp only [Int.add_zero]; rw [show w64 s.W = s.W from w64_id (by omega), show w64 s.W = s.W from w64_id (by omega)]; exact w64_id (by omega)
    rw [e] at o4
    refine ⟨?_, o4⟩
    have h0 : 0 ≤ (s.W - o.Win.KW) / o.Win.SW := Int.ediv_nonneg o4 (by omega)
    have h1 : (s.W - o.Win.KW) / o.Win.SW ≤ s.W - o.Win.KW := Int.ediv_le_self _ o4
    rw [H.w]; unfold outW
    rw [if_pos H.inB, if_pos H.wb, if_neg (by omega), e, Int.tdiv_eq_ediv_of_nonneg o4, show w64 ((s.W - o.Win.KW) / o.Win.SW) = _ from w64_id (by omega)]
    exact w64_id (by omega)
  -- the row and the column of the window
  have r0 : 0 ≤ at_ / t.W := Int.ediv_nonneg hat.1 (by omega)
  have r1 : at_ / t.W < t.H := Int.ediv_lt_of_lt_mul (by omega) hat.2
  have c0 : 0 ≤ at_ % t.W := Int.emod_nonneg _ (by omega)
  have c1 : at_ % t.W < t.W := Int.emod_lt_of_pos _ (by omega)
  have hkN : (k : Int) < o.Win.KH * o.Win.KW := by unfold tapN at hk; rw [t1] at hk; omega
  have y0 : 0 ≤ (k : Int) / o.Win.KW := Int.ediv_nonneg (by omega) (by omega)
  have y1 : (k : Int) / o.Win.KW < o.Win.KH := Int.ediv_lt_of_lt_mul (by omega) hkN
  have x0 : 0 ≤ (k : Int) % o.Win.KW := Int.emod_nonneg _ (by omega)
  have x1 : (k : Int) % o.Win.KW < o.Win.KW := Int.emod_lt_of_pos _ (by omega)
  have yy : at_ / t.W * o.Win.SH ≤ s.H - o.Win.KH := by
    have h1 : at_ / t.W ≤ (s.H - o.Win.KH) / o.Win.SH := by omega
    exact Int.le_trans (Int.mul_le_mul_of_nonneg_right h1 (by omega)) (Int.ediv_mul_le _ (by omega))
  have xx : at_ % t.W * o.Win.SW ≤ s.W - o.Win.KW := by
    have h1 : at_ % t.W ≤ (s.W - o.Win.KW) / o.Win.SW := by omega
    exact Int.le_trans (Int.mul_le_mul_of_nonneg_right h1 (by omega)) (Int.ediv_mul_le _ (by omega))
  have yy0 : 0 ≤ at_ / t.W * o.Win.SH := Int.mul_nonneg r0 (by omega)
  have xx0 : 0 ≤ at_ % t.W * o.Win.SW := Int.mul_nonneg c0 (by omega)
  unfold tapPlace tapsTop tapsLeft
  dsimp only
  rw [← H.w, hz.1, hz.2.1, Int.tdiv_eq_ediv_of_nonneg hat.1, Int.tmod_eq_emod_of_nonneg hat.1, Int.tdiv_eq_ediv_of_nonneg (show 0 ≤ (k : Int) by omega), Int.tmod_eq_emod_of_nonneg (show 0 ≤ (k : Int) by omega)]
  have e1 : w64 (at_ / t.W) = at_ / t.W := w64_id (by omega)
  rw [e1]
  simp only [Int.sub_zero]
  generalize at_ / t.W * o.Win.SH = Y at *
  generalize at_ % t.W * o.Win.SW = X at *
  generalize (k : Int) / o.Win.KW = ky at *
  generalize (k : Int) % o.Win.KW = kx at *
  have a1 : w64 (w64 (w64 Y) + w64 ky) = Y + ky := by rw [show w64 Y = Y from w64_id (by omega), show w64 Y = Y from w64_id (by omega), show w64 ky = ky from w64_id (by omega)]; exact w64_id (by omega)
  have a2 : w64 (w64 (w64 X) + kx) = X + kx := by rw [show w64 X = X from w64_id (by omega), show w64 X = X from w64_id (by omega)]; exact w64_id (by omega)
  rw [a1, a2, show w64 (s.H - 1) = s.H - 1 from w64_id (by omega), show w64 (s.W - 1) = s.W - 1 from w64_id (by omega)]
  have b1 : inB (Y + ky) 0 (s.H - 1) = true := by simp [inB]; omega
  have b2 : inB (X + kx) 0 (s.W - 1) = true := by simp [inB]; omega
  rw [b1, b2]
  have z := yx_lt (y := Y + ky) (x := X + kx) (H := s.H) (W := s.W) (by omega) (by omega)
  have z2 : s.H * s.W ≤ 1024 * 1024 := Int.mul_le_mul B.1.2 B.2.1.2 (by omega) (by omega)
  have z0 : 0 ≤ (Y + ky) * s.W := Int.mul_nonneg (by omega) (by omega)
  show 0 ≤ w64 (w64 ((Y + ky) * s.W) + (X + kx)) ∧ w64 (w64 ((Y + ky) * s.W) + (X + kx)) < s.H * s.W
  rw [show w64 ((Y + ky) * s.W) = (Y + ky) * s.W from w64_id (by omega), show w64 _ = _ from w64_id (by omega)]
  omega
/-- the positions, one by one -/
def posX (h w : Nat) : List (List AV) := (List.range (h * w)).map fun i => [.int .i64 ((i / w : Nat) : Int), .int .i64 ((i % w : Nat) : Int)]
theorem posX_get {h w y x : Nat} (hy : y < h) (hx : x < w) : (posX h w)[y * w + x]? = some [.int .i64 (y : Int), .int .i64 (x : Int)] := by
  have hl : y * w + x < h * w := mul_lt_two' hy hx
  have e1 : (y * w + x) / w = y := by rw [Nat.mul_comm, Nat.mul_add_div (by omega), Nat.div_eq_of_lt hx, Nat.add_zero]
  have e2 : (y * w + x) % w = x := by rw [Nat.mul_comm, Nat.mul_add_mod, Nat.mod_eq_of_lt hx]
  unfold posX
  rw [List.getElem?_map, List.getElem?_range hl]
  simp only [Option.map_some, e1, e2]
theorem posX_len (h w : Nat) : (posX h w).length = h * w := by simp [posX]
theorem window_Positions1 (h w : Nat) (hh : h ≤ 1048576) (hw : w ≤ 1048576) : ItOk Try.prog 75 [.rptr [.int .i64 (h : Int)], .rptr [.int .i64 (w : Int)]] (posX h w) := by
  --@@1
  skip
  refine it_ok (fn := Try.f75) Try.func75 rfl (n := 21) rfl rfl rfl rfl ?_
  intro ic cc hok hxs hpin
  simp only [pinEnv, Nat.reduceAdd]
  refine V_seq ?_
  refine V_of_W ?_
  refine zR ?_
  refine zLI ?_
  refine zLI ?_
  refine zn ?_
  refine V_block ?_
  refine V_inv (ι := {y : Nat // y ≤ h}) (fun y => (y.1 * w, ⟨[(0, .yl ic.l), (1, .pin (cc 0) (.rptr [.int .i64 (h : Int)])), (2, .pin (cc 1) (.rptr [.int .i64 (w : Int)])), (6, .int .i64 (h : Int)), (7, .int .i64 (y.1 : Int))], [], [], 100⟩)) (fun y => h - y.1) ⟨0, Nat.zero_le _⟩ (by rw [Nat.zero_mul]) (le_env ⟨rfl, rfl, rfl, rfl, rfl, trivial⟩) ?_
  rintro ⟨y, hy⟩
  dsimp only
  refine V_seq ?_
  refine V_of_W ?_
  refine zR ?_
  refine zLB ?_
  refine zn ?_
  refine V_seq ?_
  refine V_cond (b := _) rfl (fun h8 => ?_) (fun h8 => ?_)
  · have hyt : y < h := by have := of_decide_eq_true h8; omega
    refine V_skip ?_
    refine V_seq ?_
    refine V_block ?_
    refine V_seq ?_
    refine V_of_W ?_
    refine zR ?_
    refine zLI ?_
    refine zLI ?_
    refine zn ?_
    refine V_seq ?_
    refine V_of_W ?_
    refine zR ?_
    refine zLI ?_
    refine zLI ?_
    refine zn ?_
    refine V_block ?_
    refine V_inv (ι := {x : Nat // x ≤ w}) (fun x => (y * w + x.1, ⟨[(0, .yl ic.l), (1, .pin (cc 0) (.rptr [.int .i64 (h : Int)])), (2, .pin (cc 1) (.rptr [.int .i64 (w : Int)])), (4, .int .i64 (y : Int)), (6, .int .i64 (h : Int)), (7, .int .i64 (y : Int)), (10, .int .i64 (w : Int)), (11, .int .i64 (x.1 : Int))], [], [], 100⟩)) (fun x => w - x.1) ⟨0, Nat.zero_le _⟩ (by rw [Nat.add_zero]) (le_env ⟨rfl, rfl, rfl, rfl, rfl, rfl, rfl, rfl, trivial⟩) ?_
    rintro ⟨x, hx⟩
    dsimp only
    refine V_seq ?_
    refine V_of_W ?_
    refine zR ?_
    refine zLB ?_
    refine zn ?_
    refine V_seq ?_
    refine V_cond (b := _) rfl (fun h12 => ?_) (fun h12 => ?_)
    · have hxt : x < w := by have := of_decide_eq_true h12; omega
      refine V_skip ?_
      refine V_seq ?_
      refine V_block ?_
      refine V_seq ?_
      refine V_of_W ?_
      refine zR ?_
      refine zLI ?_
      refine zLI ?_
      refine zn ?_
      refine V_seq ?_
      refine V_region rfl ?_
      refine VL_pre [_, _, _] _ rfl ?_
      refine zLY ?_
      refine zLI ?_
      refine zLI ?_
      refine zn ?_
      refine VL_yield hok rfl trivial rfl rfl trivial (by rw [hxs]; exact posX_get hyt hxt) (by rw [hpin]; simp [pinsIn, pinsOf]) rfl ?_ ?_
      · refine VL_pre [_] [] rfl ?_
        refine zLB ?_
        refine zn ?_
        refine VL_nil ?_
        refine V_cond_f (b := _) rfl (by rfl) ?_
        refine V_skip ?_
        refine V_of_W ?_
        refine zR ?_
        refine zLI ?_
        refine zLI ?_
        refine zn ?_
        refine roundV_end ⟨x + 1, by omega⟩ (by dsimp only; omega) (by dsimp only; rfl) (le_fit ⟨rfl, rfl, rfl, rfl, rfl, rfl, rfl, congrArg _ (w_succ hxt (by omega)), trivial⟩ trivial trivial rfl rfl rfl rfl rfl)
      · refine VL_pre [_] [] rfl ?_
        refine zLB ?_
        refine zn ?_
        refine VL_nil ?_
        refine V_cond_t (b := _) rfl (by rfl) ?_
        refine V_ret ?_
        exact ⟨by first | exact .inl rfl | exact .inr rfl, by first | exact .inl rfl | exact .inr (by rw [hye, posX_len])⟩
    · have hxe : x = w := by have := of_decide_eq_false h12; omega
      refine V_exit ?_
      repeat (first | refine passV_then ?_ | refine passV_round ?_ | refine passV_for ?_ | refine blockV_miss rfl ?_)
      refine blockV_hit ?_
      refine V_of_W ?_
      refine zR ?_
      refine zLI ?_
      refine zLI ?_
      refine zn ?_
      refine roundV_end ⟨y + 1, by omega⟩ (by dsimp only; omega) (by dsimp only; rw [hxe, Nat.add_mul, Nat.one_mul]) (le_fit ⟨rfl, rfl, rfl, rfl, congrArg _ (w_succ hyt (by omega)), trivial⟩ trivial trivial rfl rfl rfl rfl rfl)
  · have hye : y = h := by have := of_decide_eq_false h8; omega
    refine V_exit ?_
    repeat (first | refine passV_then ?_ | refine passV_round ?_ | refine passV_for ?_ | refine blockV_miss rfl ?_)
    refine blockV_hit ?_
    exact ⟨by first | exact .inl rfl | exact .inr rfl, by first | exact .inl rfl | exact .inr (by rw [hye, posX_len])⟩
def posF (s : Shape) (w : Window) : AV := .fn 75 [] [.rptr [.int .i64 (outH s w)], .rptr [.int .i64 (outW s w)]]
theorem window_Positions (s : Shape) (w : Window) : Ok Try.prog 57 [.agg (shapeC s), .agg (windowC w)] (posF s w) := by
  --@@2
  skip
  refine fn_ok Tb_ok (fn := Try.f57) Try.func57 rfl rfl (e := [(0, _), (1, _)]) rfl (by decide) rfl ?_
  refine zs ?_
  refine zR ?_
  refine zbx [.int _ _, .int _ _, .int _ _] 3 ?_
  refine zbx [.int _ _, .int _ _, .int _ _, .int _ _, .int _ _, .int _ _, .int _ _, .int _ _] 8 ?_
  refine L_v Tb_ok (v := .nilf) (av rfl ⟨trivial, trivial⟩) rfl ?_
  refine zn ?_
  refine zs ?_
  refine zR ?_
  refine zLG [.int _ _, .int _ _, .int _ _] ?_
  refine zLG [.int _ _, .int _ _, .int _ _, .int _ _, .int _ _, .int _ _, .int _ _, .int _ _] ?_
  refine zLc (window_Out s w) ?_
  refine zLT [_, _, _] ?_
  refine zLI ?_
  refine zLI ?_
  refine zLI ?_
  refine zal [.int .i64 0] 1 ?_
  refine zal [.int .i64 0] 1 ?_
  refine zst (.int _ _) [_] [[_]] ?_
  refine zst (.int _ _) [_] [[_]] ?_
  refine zLI ?_
  refine zn ?_
  refine zs ?_
  refine zR ?_
  refine L_freezeP (t := 5) (c' := _) rfl rfl rfl rfl ?_
  refine L_freezeP (t := 6) (c' := _) rfl rfl rfl rfl ?_
  refine zLF ?_
  refine zLF ?_
  refine zn ?_
  refine zt ?_
  refine ends (l := [.fn _ [] [_, _]]) (q := .fn _ [] [_, _]) (.inr rfl) rfl ⟨trivial, trivial⟩ rfl rfl ?_
  rfl
end Go.AM
end
section
namespace Go.AM
open Go.RowKit
set_option linter.unusedVariables false
set_option linter.unusedSimpArgs false
section
variable {P : Program} {T : Tab} {nt lo : Nat} {ops : Array Oper} {K : Toks} {Q : Exit → St → Prop} {Om : Objs} {m1 : Nat}
theorem build_wp (hT : Tab.Ok P T) {s : St} {o : Oper} {t len : Nat} {ps : Array (Nat × Operand)} (ho : o.op = .buildSlice t len ps) {el sz : Nat} (hk : (T.at t).kind = .slice el) (hsz : (T.at el).size = sz) {z : List AV} (hz : (T.at el).zero = z) (hzl : z.length = sz) (hszp : 0 < sz)
    (hsg : sgs (ps.toList.map fun q => ev s.e q.2)) {es : List (List AV)} (hes : afill (fun i => some (i * sz, sz)) (List.replicate len z).flatten (ps.toList.map fun q => (q.1, strip (ev s.e q.2))) = some es.flatten) (hel : es.length = len) (hall : allSz sz es) (hone : es.all (fun c => c.all AV.one) = true) (hbig : len * sz ≤ 16777216)
    {β : Bs} {a : Act} {w : World} (hr : Rel β nt lo s a w) {K' : Act → World → Prop} {Q' : Exit → Act → World → Prop} (hn : ∀ a' w', Rel β nt lo ⟨wr nt s.e o.dst (.row s.nx 0 len), (s.nx, some ⟨el, sz, 0, es⟩) :: s.O, s.K, s.nx + 1⟩ a' w' → K' a' w') : o.wp P a w K' Q' := by
  obtain ⟨hd, μ, F, hE, hX⟩ := hr
  obtain ⟨ti, hti, h1, _⟩ := hT.info (Tab.ne_none hk (by simp))
  rw [h1] at hk
  have hu := kind_slice hk
  obtain ⟨ei, hei, _, hes', _, ⟨zv, hzv, hzz⟩, _⟩ := hT.info (t := el) (Tab.ne_none' (by omega))
  rw [hzz] at hz
  rw [hsz] at hes'
  subst hz
  have hall0 : RelA μ F (List.replicate len (zeroOf zv)).flatten ((Array.range (len * sz)).map (zv.cells[· % zv.cells.size]!)) := zeros_rel hzl hszp len _ rfl
  obtain ⟨B, hB, hBr⟩ := afill_run (ps.toList.map fun q => (q.1, strip (ev s.e q.2))) (ps.toList.map fun q => (q.1, a.eval q.2)) _ _ _ hall0 hes (by simp) (fun j p q hp hq => by
    rw [List.getElem?_map] at hp hq
    cases hx : ps.toList[j]? with
    | none => simp [hx] at hp
    | some x =>
      simp [hx] at hp hq; subst hp; subst hq
      refine ⟨rfl, (hE.ev x.2).strip (sgs_mem hsg _ (List.mem_map.2 ⟨x, List.mem_of_getElem? hx, rfl⟩))⟩)
  have hBs : B.size = len * sz := by rw [hBr.1, flat_length hall, hel]
  have hmaxl : len ≤ maxLen := by
    have : len * 1 ≤ len * sz := Nat.mul_le_mul_left _ hszp
    show len ≤ 9223372036854775807; omega
  have hblk := Go.heap_alloc_new w (.cells B el)
  obtain ⟨hX', hle⟩ := hX.newOb (o := ⟨el, sz, 0, es⟩) (below_alloc w (.cells B el)) (Nat.le_refl _) hblk (by rw [hBs, hel]; exact Nat.le_refl _) hall.get (rel_of_flat hall hBr hone)
  have hrun : (execOp a.eval o).run P w = .ok (.value (.slice (some ⟨w.heap.size, 0, none⟩) len len)) (w.alloc (.cells B el)) := by
    obtain ⟨dst, op, ty, pos, after, gd⟩ := o
    dsimp only at ho; subst ho
    have hps : (ps.map fun (i, x) => (i, a.eval x)).toList = ps.toList.map fun q => (q.1, a.eval q.2) := by simp
    have hbig' : ¬ (len * sz > 16777216) := by omega
    by_cases h0 : len * sz = 0
    · have hl0 : len = 0 := by
        rcases Nat.mul_eq_zero.1 h0 with h | h
        · exact h
        · omega
      have hB' : Instr.fill (fun i => some (i * sz, sz)) #[] (ps.toList.map fun q => (q.1, a.eval q.2)) = some B := by
        rw [← hB]; subst hl0; simp [Array.range_zero']
      simp only [execOp, Instr.buildSlice, Sem.run_bind, run_und hu, Result.andThen_ok, run_size hei, Sem.run_ite, if_neg hbig', if_pos h0, Sem.run_pure, ← hes', hps]
      subst hl0
      simp [hB', newRow, Array.range_zero']
    · simp only [execOp, Instr.buildSlice, Sem.run_bind, run_und hu, Result.andThen_ok, run_size hei, Sem.run_ite, if_neg hbig', if_neg h0, Sem.run_pure, zeroValue, run_info hei, hzv, ← hes', hps, hB]
      simp [newRow]
  unfold Oper.wp
  rw [hrun]
  refine hn _ _ (Rel.put (s := s) (hd.keep (KeepsOthers.alloc _ _)) (hE.mono hle (fun _ _ q => q)) ?_ hX')
  exact .row (Pm.add_same _ _ _) (Nat.le_refl _) hmaxl (fun _ => ⟨by simp, by rw [hBs]; simp⟩)

/-- whatever order is picked, until the first m1 are done -/
def AnyG (P : Program) (nt lo : Nat) (ops : Array Oper) (K : Toks) (Om : Objs) (m1 : Nat) (tail : Array Bool → Objs × Nat → Env → Prop) : Nat → Array Bool → Objs × Nat → Env → Prop
  | 0, listed, O, e => allQ m1 listed = true ∧ tail listed O e
  | m + 1, listed, O, e => (allQ m1 listed = true → tail listed O e) ∧ (allQ m1 listed = false → Region.ready .any ops listed ≠ [] ∧ ∀ i ∈ Region.ready .any ops listed, ∃ o v O', ops[i]? = some o ∧ OSub Om O'.1 ∧ Ys P nt lo ops K O o v e O' ∧ AnyG P nt lo ops K Om m1 tail m (listed.setIfInBounds i true) O' (wr nt e o.dst v))
theorem AnyG.eqE {tail : Array Bool → Objs × Nat → Env → Prop} (ht : ∀ l O e e', EqE e e' → tail l O e → tail l O e') : ∀ (m : Nat) (listed : Array Bool) (O : Objs × Nat) {e e' : Env}, EqE e e' → AnyG P nt lo ops K Om m1 tail m listed O e → AnyG P nt lo ops K Om m1 tail m listed O e'
  | 0, l, O, e, e', he, h => ⟨h.1, ht l O e e' he h.2⟩
  | m + 1, l, O, e, e', he, h => ⟨fun ha => ht l O e e' he (h.1 ha), fun ha => ⟨(h.2 ha).1, fun i hi => by
    obtain ⟨o, v, O', h1, hs, h2, h3⟩ := (h.2 ha).2 i hi
    exact ⟨o, v, O', h1, hs, h2.eqOn (fun t _ => (he t).symm), AnyG.eqE ht m _ O' (he.wr o.dst v) h3⟩⟩⟩
/-- the others wait for the first m1, at once or over others -/
def reachB (ops : Array Oper) (i : Nat) : Nat → Nat → Bool
  | 0, _ => false
  | f + 1, k => match ops[k]? with
    | some o => (o.after.toList.any fun e => Region.binds .any e && e.on == i) || o.after.toList.any fun e => Region.binds .any e && reachB ops i f e.on
    | none => false
def LoudT (ops : Array Oper) (m1 : Nat) : Prop := ∀ k ok, ops[k]? = some ok → m1 ≤ k → ∀ i, i < m1 → ∃ f, reachB ops i f k = true
def loudT (ops : Array Oper) (m1 : Nat) : Bool := (List.range' m1 (ops.size - m1)).all fun k => (List.range m1).all fun i => reachB ops i 5 k
theorem loudT_of (h : loudT ops m1 = true) : LoudT ops m1 := by
  intro k ok hk hm i hi
  have hlt : k < ops.size := (Array.getElem?_eq_some_iff.1 hk).1
  have h1 := List.all_eq_true.1 h k (by rw [List.mem_range']; exact ⟨k - m1, by omega, by omega⟩)
  exact ⟨5, List.all_eq_true.1 h1 i (by simpa using hi)⟩
/-- what is listed has all listed that it waits for -/
def DownC (ops : Array Oper) (listed : Array Bool) : Prop := ∀ j oj, ops[j]? = some oj → listed.getD j false = true → ∀ e ∈ oj.after, Region.binds .any e = true → listed.getD e.on false = true
theorem DownC.add {listed : Array Bool} (h : DownC ops listed) {i : Nat} (hi : i ∈ Region.ready .any ops listed) : DownC ops (listed.setIfInBounds i true) := by
  intro j oj hj hl e he hb
  apply getD_set_true
  by_cases hji : j = i
  · subst hji
    obtain ⟨_, o, ho, hall⟩ := mem_ready.1 hi
    rw [hj] at ho; cases ho
    exact hall e he hb
  · rw [getD_set_ne false (Ne.symm hji)] at hl
    exact h j oj hj hl e he hb
theorem DownC.zero (n : Nat) : DownC ops (Array.replicate n false) := by
  intro j oj _ hl
  rw [Array.getD_eq_getD_getElem?] at hl
  by_cases c : j < n <;> simp [c] at hl
theorem reach_listed {listed : Array Bool} (hD : DownC ops listed) {i : Nat} : ∀ (f k : Nat), reachB ops i f k = true → (∀ o, ops[k]? = some o → ∀ e ∈ o.after, Region.binds .any e = true → listed.getD e.on false = true) → listed.getD i false = true
  | 0, _, h, _ => by cases h
  | f + 1, k, h, hk => by
    unfold reachB at h
    cases ho : ops[k]? with
    | none => rw [ho] at h; cases h
    | some o =>
      rw [ho] at h
      simp only [Bool.or_eq_true] at h
      rcases h with h | h
      · obtain ⟨e, he, hb⟩ := List.any_eq_true.1 h
        simp only [Bool.and_eq_true, beq_iff_eq] at hb
        rw [← hb.2]; exact hk o ho e (by simpa using he) hb.1
      · obtain ⟨e, he, hb⟩ := List.any_eq_true.1 h
        simp only [Bool.and_eq_true] at hb
        have hl := hk o ho e (by simpa using he) hb.1
        exact reach_listed hD f e.on hb.2 (fun o' ho' => hD e.on o' ho' hl)
theorem ready_quietT (hL : LoudT ops m1) {listed : Array Bool} (hD : DownC ops listed) {i j : Nat} (hi : i < m1) (hun : listed.getD i true = false) (hj : j ∈ Region.ready .any ops listed) : j < m1 := by
  obtain ⟨_, oj, hoj, hall⟩ := mem_ready.1 hj
  rcases Nat.lt_or_ge j m1 with h | h
  · exact h
  · obtain ⟨f, hf⟩ := hL j oj hoj h i hi
    have := reach_listed hD f j hf (fun o ho => by rw [hoj] at ho; cases ho; exact hall)
    rw [Array.getD_eq_getD_getElem?] at this hun
    cases hg : listed[i]? with
    | none => rw [hg] at hun; cases hun
    | some b => rw [hg] at this hun; simp at this hun; rw [this] at hun; cases hun
theorem AnyG_first {tail : Array Bool → Objs × Nat → Env → Prop} (ht : ∀ l O e e', EqE e e' → tail l O e → tail l O e') (hL : LoudT ops m1) {i : Nat} (him : i < m1) {oi : Oper} {v : AV} (hi : ops[i]? = some oi) :
    ∀ (m : Nat) (listed : Array Bool) (O : Objs × Nat) (e : Env), DownC ops listed → OSub Om O.1 →
      (∀ j oj, ops[j]? = some oj → j ≠ i → listed.getD j true = false → (∀ e ∈ oj.after, Region.binds .any e = true → e.on ≠ i) → oi.apart ops oj = true) →
      i ∈ Region.ready .any ops listed → (∀ O', OSub Om O'.1 → Ys P nt lo ops K O' oi v e O') →
      AnyG P nt lo ops K Om m1 tail m (listed.setIfInBounds i true) O (wr nt e oi.dst v) → AnyG P nt lo ops K Om m1 tail (m + 1) listed O e := by
  intro m
  induction m with
  | zero =>
    intro listed O e hD hO _ hr hy H
    have hun := (mem_ready.1 hr).1
    refine ⟨fun ha => (by rw [allQ_false him hun] at ha; cases ha), fun _ => ⟨fun h => (by rw [h] at hr; cases hr), fun j hj => ?_⟩⟩
    by_cases hji : j = i
    · subst hji; exact ⟨oi, v, O, hi, hO, hy O hO, H⟩
    · have hjm := ready_quietT hL hD him hun hj
      have hju := (mem_ready.1 (ready_mono hj hji)).1
      have := H.1
      rw [allQ_false hjm hju] at this; cases this
  | succ m ih =>
    intro listed O e hD hO hfree hr hy H
    have hun := (mem_ready.1 hr).1
    refine ⟨fun ha => (by rw [allQ_false him hun] at ha; cases ha), fun _ => ⟨fun h => (by rw [h] at hr; cases hr), fun j hj => ?_⟩⟩
    by_cases hji : j = i
    · subst hji; exact ⟨oi, v, O, hi, hO, hy O hO, H⟩
    · have hjm := ready_quietT hL hD him hun hj
      have hju := (mem_ready.1 (ready_mono hj hji)).1
      obtain ⟨oj, vj, O', h1, hs, h2, h3⟩ := (H.2 (allQ_false hjm hju)).2 j (ready_mono hj hji)
      obtain ⟨hjun, oj', hoj, hall⟩ := mem_ready.1 hj
      rw [h1] at hoj; cases hoj
      have hnot : ∀ e ∈ oj.after, Region.binds .any e = true → e.on ≠ i := fun e he hb heq => by
        have h1 := hall e he hb
        have h0 := (mem_ready.1 hr).1
        rw [heq] at h1
        rcases Nat.lt_or_ge i listed.size with h' | h'
        · simp [h'] at h0 h1; rw [h0] at h1; cases h1
        · simp [Array.getElem?_eq_none h'] at h1
      have hap := hfree j oj h1 hji hjun hnot
      obtain ⟨p1, p2, p3⟩ := Oper.apart_spec hap
      have hyj : Ys P nt lo ops K O oj vj e O' := h2.eqOn (fun t ht' => by
        rw [get_wr, if_neg]
        rintro ⟨hd, _⟩; exact p1 t hd ht')
      have hyi : ∀ O', OSub Om O'.1 → Ys P nt lo ops K O' oi v (wr nt e oj.dst vj) O' := fun O' hO' => (hy O' hO').eqOn (fun t ht' => by
        rw [get_wr, if_neg]
        rintro ⟨hd, _⟩; exact p3 t hd ht')
      refine ⟨oj, vj, O', h1, hs, hyj, ih (listed.setIfInBounds j true) O' (wr nt e oj.dst vj) (hD.add hj) hs (fun k ok hk hki hun hno => ?_) (ready_mono hr (Ne.symm hji)) hyi ?_⟩
      · refine hfree k ok hk hki ?_ hno
        by_cases hjk : j = k
        · subst hjk; exact hjun
        · rw [getD_set_ne true hjk] at hun; exact hun
      · rw [Array.setIfInBounds_comm _ _ hji]
        exact AnyG.eqE ht m _ O' (wr_comm e v vj (fun x hx => p2 x hx)) h3
theorem AnyG.sound {tail : Array Bool → Objs × Nat → Env → Prop} {R : Exit → Act → World → Prop} {β : Bs} {ft : Nat} (hT : ∀ listed O e, tail listed O e → ∀ a w, Rel β nt lo ⟨e, O.1, K, O.2⟩ a w → ∀ f, ft ≤ f → wpY β.lp P ops R f listed a w) :
    ∀ (m : Nat) (listed : Array Bool) (O : Objs × Nat) (e : Env), AnyG P nt lo ops K Om m1 tail m listed O e → ∀ a w, Rel β nt lo ⟨e, O.1, K, O.2⟩ a w → wpY β.lp P ops R (m + ft) listed a w
  | 0, listed, O, e, h, a, w, hr => hT _ _ _ h.2 a w hr _ (by omega)
  | m + 1, listed, O, e, h, a, w, hr => by
    cases ha : allQ m1 listed with
    | true => exact hT _ _ _ (h.1 ha) a w hr _ (by omega)
    | false =>
      have e1 : m + 1 + ft = (m + ft) + 1 := by omega
      rw [e1]
      refine ⟨fun h0 => absurd h0 (h.2 ha).1, fun i hi => ?_⟩
      obtain ⟨o, v, O', h1, _, h2, h3⟩ := (h.2 ha).2 i hi
      have ih := AnyG.sound hT m _ _ _ h3
      unfold wpO
      simp only [h1]
      rcases h2 β a w e (fun _ _ => rfl) hr with ⟨hw, hx⟩ | ⟨hw, hx⟩
      · rw [if_pos hw]
        exact .inl (hx _ _ (fun a' w' hr' => ih _ _ hr'))
      · rw [if_neg (by simp [hw])]
        exact ih _ _ hx
/-- the Bool over the region: quiet ones, then those that come one by one; then the rest -/
def gB (ops : Array Oper) (f : Nat) : Nat → Nat → Array Bool → Bool
  | 0, k, listed => tB ops f k listed
  | m + 1, k, listed => Region.ready .any ops listed == [k] && gB ops f m (k + 1) (listed.setIfInBounds k true)
def hB (ops : Array Oper) (f m : Nat) : Nat → Nat → Array Bool → Bool
  | 0, k, listed => gB ops f m k listed
  | n + 1, k, listed => (Region.ready .any ops listed).contains k && Region.free .any ops listed k && hB ops f m n (k + 1) (listed.setIfInBounds k true)
theorem AnyG_one {tail : Array Bool → Objs × Nat → Env → Prop} {f : Nat} {G : Env → Objs × Nat → Prop} (hG : ∀ listed O e, tB ops f m1 listed = true → G e O → tail listed O e) : ∀ (m k : Nat) (listed : Array Bool) (O : Objs × Nat) (e : Env), k + m = m1 → m1 ≤ listed.size →
    (∀ j, j < k → listed.getD j false = true) → gB ops f m k listed = true → TailL P nt lo ops K Om G (List.range' k m) O e → AnyG P nt lo ops K Om m1 tail m listed O e
  | 0, k, listed, O, e, hk, _, hall, hB, h => by
    have ha : allQ m1 listed = true := List.all_eq_true.2 (fun j hj => hall j (by simp at hj; omega))
    have hk' : k = m1 := by omega
    subst hk'
    exact ⟨ha, hG listed O e hB h⟩
  | m + 1, k, listed, O, e, hk, hs, hall, hB, h => by
    simp only [gB, Bool.and_eq_true, beq_iff_eq] at hB
    obtain ⟨hr, hB⟩ := hB
    rw [List.range'_succ] at h
    obtain ⟨o, v, O', h0, hs', hy, hn⟩ := h
    have hun : listed.getD k true = false := (mem_ready.1 (by rw [hr]; simp : k ∈ Region.ready .any ops listed)).1
    refine ⟨fun ha => (by rw [allQ_false (show k < m1 by omega) hun] at ha; cases ha), fun _ => ⟨fun h0 => (by rw [hr] at h0; cases h0), fun i hi => ?_⟩⟩
    rw [hr] at hi
    obtain rfl := List.mem_singleton.1 hi
    refine ⟨o, v, O', h0, hs', hy, AnyG_one hG m (i + 1) _ O' _ (by omega) (by simpa using hs) (fun j hj => ?_) hB hn⟩
    by_cases hji : j = i
    · subst hji
      have : j < listed.size := by omega
      simp [Array.getD, this]
    · exact getD_set_true (hall j (by omega))
theorem AnyG_lex {tail : Array Bool → Objs × Nat → Env → Prop} (ht : ∀ l O e e', EqE e e' → tail l O e → tail l O e') (hL : LoudT ops m1) {f m : Nat} {G : Env → Objs × Nat → Prop} (hG : ∀ listed O e, tB ops f m1 listed = true → G e O → tail listed O e) {O : Objs × Nat} (hO : OSub Om O.1) : ∀ (l : List Oper) (k : Nat) (listed : Array Bool) (e : Env), (∀ j, j < l.length → l[j]? = ops[k + j]?) → k + l.length + m = m1 → m1 ≤ listed.size → DownC ops listed →
    (∀ j, j < k → listed.getD j false = true) → hB ops f m l.length k listed = true → LexS P nt lo ops K Om l e (TailL P nt lo ops K Om G (List.range' (k + l.length) m) O) → AnyG P nt lo ops K Om m1 tail (l.length + m) listed O e
  | [], k, listed, e, _, hk, hs, hD, hall, hB', h => by
    have := AnyG_one hG m k listed O e (by simpa using hk) hs hall hB' (by simpa [LexS] using h)
    simpa using this
  | o :: l, k, listed, e, hl, hk, hs, hD, hall, hB', h => by
    have h0 : ops[k]? = some o := by simpa using (hl 0 (by simp)).symm
    simp only [List.length_cons, hB, Bool.and_eq_true] at hB'
    obtain ⟨⟨hr, hf⟩, hB'⟩ := hB'
    obtain ⟨v, hy, hK⟩ := h
    simp only [List.length_cons] at hk
    have e1 : (o :: l).length + m = (l.length + m) + 1 := by simp; omega
    have e2 : k + (o :: l).length = k + 1 + l.length := by simp; omega
    rw [e2] at hK
    rw [e1]
    refine AnyG_first ht hL (by omega) h0 (l.length + m) listed O e hD hO (Region.free_spec h0 hf) (by simpa using hr) hy
      (AnyG_lex ht hL hG hO l (k + 1) _ _ (fun j hj => by have := hl (j + 1) (by simpa using hj); simpa [Nat.add_assoc, Nat.add_comm 1 j] using this) (by omega) (by simpa using hs) (hD.add (by simpa using hr)) (fun j hj => ?_) hB' hK)
    by_cases hjk : j = k
    · subst hjk
      have : j < listed.size := by omega
      simp [Array.getD, this]
    · exact getD_set_true (hall j (by omega))
/-- a region that draws: m0 quiet ones, m that make rows beside them, the others in order -/
theorem W_drawG {s : St} {id : Nat} {l : List Oper} (m0 m : Nat) (r : List Nat) (hrr : List.range' m0 m = r) (hm : P.follows .mixedOrders = true) (hnd : nodef l = true) (hle : m0 + m ≤ l.length) (hL : loudT l.toArray (m0 + m) = true) (hBB : hB l.toArray (l.length - (m0 + m)) m m0 0 (Array.replicate l.length false) = true)
    (h : LexS P nt lo l.toArray s.K s.O (l.take m0) s.e (TailL P nt lo l.toArray s.K s.O (fun e O => WL P nt lo l.toArray (l.drop (m0 + m)) ⟨e, O.1, s.K, O.2⟩ Q) r (s.O, s.nx))) : W P nt lo (.region id l.toArray true) s Q := by
  subst hrr
  intro β a w hr
  refine wpIn_region_any hm (wpY_in (by simpa using hnd) _ _ _ _ ?_)
  have hdraw : Rel β nt lo s a { w with drawn := w.drawn + 1 } := by
    obtain ⟨hd, μ, F, hE, hX⟩ := hr
    have hb : Below w.heap.size w { w with drawn := w.drawn + 1 } := ⟨rfl, rfl, rfl, Nat.le_refl _, fun _ _ => rfl⟩
    exact ⟨hd.keep ⟨Nat.le_refl _, fun _ _ h _ => h⟩, μ, F, hE, ⟨hX.s.keep hb, hX.fa, hX.fb, hX.m0, hX.f0, hX.lo0, hX.lo1, hX.dzl⟩⟩
  let tail : Array Bool → Objs × Nat → Env → Prop := fun listed O e => tB l.toArray (l.length - (m0 + m)) (m0 + m) listed = true ∧ ∀ e', EqE e e' → WL P nt lo l.toArray (l.drop (m0 + m)) ⟨e', O.1, s.K, O.2⟩ Q
  have hlt : (l.take m0).length = m0 := by rw [List.length_take]; omega
  have hget : ∀ j, j < (l.take m0).length → (l.take m0)[j]? = l.toArray[0 + j]? := by
    intro j hj
    have h1 : j < m0 := by omega
    simp [List.getElem?_take, h1]
  have key := AnyG_lex (P := P) (nt := nt) (lo := lo) (ops := l.toArray) (K := s.K) (Om := s.O) (m1 := m0 + m) (tail := tail) (fun l O e e' he h => ⟨h.1, fun e2 h2 => h.2 e2 (fun t => (he t).trans (h2 t))⟩) (loudT_of hL) (f := l.length - (m0 + m)) (m := m)
    (G := fun e O => WL P nt lo l.toArray (l.drop (m0 + m)) ⟨e, O.1, s.K, O.2⟩ Q) (fun listed O e h1 h2 => ⟨h1, fun e' he β a w hr => h2 β a w (hr.eqE (fun t => (he t).symm))⟩) (O := (s.O, s.nx)) (OSub.refl _)
    (l.take m0) 0 (Array.replicate l.length false) s.e hget (by rw [hlt]; omega) (by simp; exact hle) (DownC.zero _) (fun j hj => by omega) (by rw [hlt]; exact hBB) (by rw [hlt, Nat.zero_add]; exact h)
  have hft : ∀ listed O e, tail listed O e → ∀ a w, Rel β nt lo ⟨e, O.1, s.K, O.2⟩ a w → ∀ f, l.length - (m0 + m) ≤ f → wpY β.lp P l.toArray (fun e a' w' => ∃ s', Q e s' ∧ Rel β nt lo s' a' w') f listed a w := by
    intro listed O e ⟨h1, h2⟩ a w hr f hf
    have hlen : (l.drop (m0 + m)).length = l.length - (m0 + m) := by simp
    exact tail_run (l.drop (m0 + m)) (m0 + m) listed a w (fun j => by simp [List.getElem?_drop]) (by rw [hlen]; exact h1) (h2 e (fun _ => rfl) β a w hr) f (by rw [hlen]; exact hf)
  have := AnyG.sound hft _ _ _ _ key a _ hdraw
  have hsz : (l.take m0).length + m + (l.length - (m0 + m)) = l.toArray.size := by simp; omega
  rw [hsz] at this
  have e1 : Array.replicate l.toArray.size false = Array.replicate l.length false := by simp
  rw [e1]
  exact this
section
variable {O : Objs} {nx d k : Nat} {e : Env} {ks : List Nat} {ty : TypeId} {pos : String} {after : Array Edge} {G : Env → Objs × Nat → Prop}
theorem G_end {rest : List Oper} (h : WL P nt lo ops rest ⟨e, O, K, nx⟩ Q) : TailL P nt lo ops K Om (fun e O => WL P nt lo ops rest ⟨e, O.1, K, O.2⟩ Q) [] (O, nx) e := h
theorem TT_build (hT : Tab.Ok P T) (hsub : OSub Om O) {t len : Nat} {ps : Array (Nat × Operand)} (hkk : ops[k]? = some ⟨some d, .buildSlice t len ps, ty, pos, after, none⟩) {el sz : Nat} {es : List (List AV)} {z : List AV} (hk : (T.at t).kind = .slice el) (hsz : (T.at el).size = sz) (hz : (T.at el).zero = z) (hzl : z.length = sz) (hpos : Nat.blt 0 sz = true) (hbig : len * sz ≤ 16777216) (hsg : sgs (ps.toList.map fun q => ev e q.2))
    (hes : afill (fun i => some (i * sz, sz)) (List.replicate len z).flatten (ps.toList.map fun q => (q.1, strip (ev e q.2))) = some es.flatten) (hel : es.length = len) (hall : es.all (fun c => Nat.beq c.length sz) = true) (hone : es.all (fun c => c.all AV.one) = true) (hd : Nat.blt d nt = true) (hm : lk Om nx = none)
    (hn : OSub Om ((nx, some ⟨el, sz, 0, es⟩) :: O) → TailL P nt lo ops K Om G ks ((nx, some ⟨el, sz, 0, es⟩) :: O, nx + 1) ((d, .row nx 0 len) :: e)) : TailL P nt lo ops K Om G (k :: ks) (O, nx) e := by
  refine ⟨_, .row nx 0 len, ((nx, some ⟨el, sz, 0, es⟩) :: O, nx + 1), hkk, hsub.set hm, fun β a w e' he hr => .inl ⟨wanted_none rfl _, fun K' Q' hk' => ?_⟩, by dsimp only; rw [wr_some hd]; exact hn (hsub.set hm)⟩
  have hev : ∀ q ∈ ps.toList, ev e' q.2 = ev e q.2 := fun q hq => ev_on he q.2 (by simp [Op.operands]; exact ⟨q.1, by simpa using hq⟩)
  have hm1 : (ps.toList.map fun q => ev e' q.2) = (ps.toList.map fun q => ev e q.2) := List.map_congr_left hev
  have hm2 : (ps.toList.map fun q => (q.1, strip (ev e' q.2))) = (ps.toList.map fun q => (q.1, strip (ev e q.2))) := List.map_congr_left (fun q hq => by rw [hev q hq])
  exact build_wp (s := ⟨e', O, K, nx⟩) hT rfl hk hsz hz hzl (by simpa [Nat.blt_eq] using hpos) (by rw [hm1]; exact hsg) (by rw [hm2]; exact hes) hel (fun c hc => Nat.eq_of_beq_eq_true (List.all_eq_true.1 hall c hc)) hone hbig hr hk'
end
end
end Go.AM
end
section
open Go Go.AM Go.Proofs
set_option maxRecDepth 10000
set_option linter.unusedVariables false
set_option linter.unusedSimpArgs false
namespace Go.AM
theorem tap_invM {s : Shape} {w : Window} {top left : Int} {k : Nat} {x : List AV} (h : (tapList s w top left)[k]? = some x) : k < tapN w ∧ x = [.int .i64 (k : Int), .int .i64 (tapPlace s w top left k)] := by
  simp only [tapList, List.getElem?_map] at h
  by_cases hk : k < tapN w
  · simp [hk] at h; exact ⟨hk, h.symm⟩
  · simp [hk] at h
theorem tapList_len (s : Shape) (w : Window) (top left : Int) : (tapList s w top left).length = tapN w := by simp [tapList]
theorem posX_inv {h w k : Nat} {x : List AV} (hx : (posX h w)[k]? = some x) : k < h * w ∧ x = [.int .i64 ((k / w : Nat) : Int), .int .i64 ((k % w : Nat) : Int)] := by
  have hk := (List.getElem?_eq_some_iff.1 hx).1
  rw [posX_len] at hk
  refine ⟨hk, ?_⟩
  unfold posX at hx
  rw [List.getElem?_map, List.getElem?_range hk] at hx
  simpa using hx.symm
/-- the greatest, k places seen -/
def grB (a : List Int) (C c : Int) (pl : Nat → Int) : Nat → Int
  | 0 => -128
  | k + 1 => if a.getD (pl k * C + c).toNat default > grB a C c pl k then a.getD (pl k * C + c).toNat default else grB a C c pl k
def grV (o : MOp) (s : Shape) (a : List Int) (at_ c : Nat) : Int := grB a s.C c (fun k => tapPlace s o.Win (tapsTop s o.Win at_) (tapsLeft s o.Win at_) k) (tapN o.Win)
def greatestF (o : MOp) (s t : Shape) (a : List Int) : List Int := (List.range ((t.H * t.W).toNat * s.C.toNat)).map fun i => homeV o (grV o s a (i / s.C.toNat) (i % s.C.toNat))
theorem grB_bd {a : List Int} (ha : B8 a) (C c : Int) (pl : Nat → Int) : ∀ k, -128 ≤ grB a C c pl k ∧ grB a C c pl k ≤ 127
  | 0 => by unfold grB; omega
  | k + 1 => by
    have ih := grB_bd ha C c pl k
    have := ha.at (pl k * C + c).toNat
    unfold grB; split <;> omega
theorem plain_greatest (o : MOp) (s t : Shape) (a : List Int) (H : MaxOk o s t) (ho : EndsOk o) (ha : B8 a) (hal : (a.length : Int) = s.H * s.W * s.C) :
    Ok Try.prog 31 [.agg (opC o), .agg (shapeC s), .ro (a.map i8C)] (.ro ((greatestF o s t a).map i8C)) := by
  have B := shapeB_iff.1 H.inB
  have O := shapeB_iff.1 H.outB
  obtain ⟨t1, t2, t3⟩ := taps_winM H
  have hkw := (windowB_iff H.wb).2.1
  obtain ⟨h, hh⟩ : ∃ h : Nat, h = t.H.toNat := ⟨_, rfl⟩
  obtain ⟨w, hw⟩ : ∃ w : Nat, w = t.W.toNat := ⟨_, rfl⟩
  have hP := window_Positions s o.Win
  have hPos := window_Positions1 h w (by omega) (by omega)
  have eh : outH s o.Win = (h : Int) := by rw [← H.h]; omega
  have ew : outW s o.Win = (w : Int) := by rw [← H.w]; omega
  unfold posF at hP
  rw [eh, ew] at hP
  have hhw : t.H * t.W = ((h * w : Nat) : Int) := by rw [Int.natCast_mul]; rw [show (h : Int) = t.H by omega, show (w : Int) = t.W by omega]
  obtain ⟨C, hC⟩ : ∃ C : Nat, C = s.C.toNat := ⟨_, rfl⟩
  have hsC : s.C = (C : Int) := by omega
  obtain ⟨L, hL⟩ : ∃ L, L = greatestF o s t a := ⟨_, rfl⟩
  have hLl : L.length = h * w * C := by rw [hL, greatestF, List.length_map, List.length_range, hhw, Int.toNat_natCast, ← hC]
  have hget : ∀ i j, i < h * w → j < C → L.getD (i * C + j) default = homeV o (grV o s a i j) := by
    intro i j hi hj
    have hlt := mul_lt_two' hi hj
    have e1 : (i * C + j) / C = i := by rw [Nat.mul_comm, Nat.mul_add_div (by omega), Nat.div_eq_of_lt hj, Nat.add_zero]
    have e2 : (i * C + j) % C = j := by rw [Nat.mul_comm, Nat.mul_add_mod, Nat.mod_eq_of_lt hj]
    rw [hL, greatestF, hhw, Int.toNat_natCast, ← hC]
    simp [List.getD_eq_getElem?_getD, hlt, e1, e2]
  have hLs : L.length ≤ 16384 := by
    have : ((h * w * C : Nat) : Int) = t.H * t.W * t.C := by rw [Int.natCast_mul, ← hhw, H.c, hsC]
    omega
  have hhw2 : ((h * w : Nat) : Int) ≤ 1024 * 1024 := by rw [← hhw]; exact Int.mul_le_mul O.1.2 O.2.1.2 (by omega) (by omega)
  have hbad : ∀ k : Nat, k < h * w → tapsBad s o.Win (k : Int) = false := fun k hk => by
    unfold tapsBad
    rw [H.oe, eh, ew, show w64 ((h : Int) * (w : Int)) = ((h * w : Nat) : Int) by rw [← Int.natCast_mul]; exact w64_id (by omega)]
    simp; omega
  have hnp : ∀ k : Nat, k < h * w → ∀ q, q < tapN o.Win → 0 ≤ tapPlace s o.Win (tapsTop s o.Win k) (tapsLeft s o.Win k) q ∧ tapPlace s o.Win (tapsTop s o.Win k) (tapsLeft s o.Win k) q < s.H * s.W := fun k hk q hq => no_padM H (by omega) hq
  have hix : ∀ p c : Int, 0 ≤ p → p < s.H * s.W → 0 ≤ c → c < s.C → IntKind.i64.wrap (IntKind.i64.wrap (p * s.C) + c) = p * s.C + c ∧ 0 ≤ p * s.C + c ∧ p * s.C + c < (a.length : Int) := fun p c h1 h2 h3 h4 => by
    have y := yx_lt (y := p) (x := c) (H := s.H * s.W) (W := s.C) ⟨h1, h2⟩ ⟨h3, h4⟩
    have a0 : 0 ≤ p * s.C := Int.mul_nonneg h1 (by omega)
    rw [hal]
    refine ⟨?_, by omega, by omega⟩
    rw [show IntKind.i64.wrap (p * s.C) = p * s.C from w64_id (by omega)]; exact w64_id (by omega)
  have hT : tapN o.Win ≤ 1024 := by unfold tapN; omega
  rw [← hL]
  have gBd := fun (C c : Int) (pl : Nat → Int) (k : Nat) => grB_bd ha C c pl k
  --@@1
  skip
  refine fn_ok Tb_ok (fn := Try.f31) Try.func31 rfl rfl (e := [(0, _), (1, _), (2, _)]) rfl (by decide) rfl ?_
  refine zs ?_
  refine zR ?_
  refine zbx [.int _ _, .int _ _, .int _ _, .int _ _, .int _ _, .int _ _, .int _ _, .int _ _, .int _ _, .int _ _, .int _ _, .int _ _, _, _, .int _ _, .int _ _, .int _ _, .int _ _, .int _ _, .int _ _, .int _ _, .int _ _] 22 ?_
  refine zbx [.int _ _, .int _ _, .int _ _] 3 ?_
  (refine L_box1 Tb_ok (v := .ro _) rfl rfl rfl trivial ?_)
  refine zLN ?_
  refine zn ?_
  refine zs ?_
  refine zR ?_
  refine zal [.nils] 1 ?_
  refine zn ?_
  refine zs ?_
  refine zR ?_
  refine zal [.int .i64 0] 1 ?_
  refine zst (.int _ _) [_] [[_]] ?_
  refine zn ?_
  refine zs ?_
  refine zs ?_
  refine zR ?_
  refine zLG [.int _ _, .int _ _, .int _ _] ?_
  refine zLP ?_
  refine zLG [.int _ _, .int _ _, .int _ _, .int _ _, .int _ _, .int _ _, .int _ _, .int _ _] ?_
  refine zLc (hP) ?_
  refine zn ?_
  refine W_block ?_
  refine W_nilO (id := 3) (j := 0) (el := 62) (esz := 1) rfl rfl rfl rfl ?_
  refine W_range (xs := posX h w) rfl trivial rfl rfl hPos rfl (fun x hx => by obtain ⟨k, hk⟩ := List.getElem?_of_mem hx; rw [(posX_inv hk).2]; rfl)
    (fun k => ([(0, some ⟨39, 22, 0, [opC o]⟩), (1, some ⟨23, 3, 0, [shapeC s]⟩), (2, some ⟨27, 1, 0, [[.ro (a.map i8C)]]⟩), (3, some ⟨27, 1, 0, [[.app 5 ((L.take (k * C)).map i8C)]]⟩), (4, some ⟨3, 1, 0, [[.int .i64 (k : Int)]]⟩)], [(5, some (62, 1, (L.take (k * C)).length))], 6))
    (le_fit trivial ⟨.inr rfl, .inr rfl, .inr rfl, .inr (by rw [Nat.zero_mul]; rfl), .inr rfl, trivial⟩ ⟨.inr (by rw [Nat.zero_mul]; rfl), trivial⟩ rfl rfl rfl rfl rfl) ?_ ?_
  · intro k x hx
    obtain ⟨hk, rfl⟩ := posX_inv hx
    refine zk ?_
    refine W_block ?_
    refine zs ?_
    refine zs ?_
    refine zR ?_
    refine zLP ?_
    refine zLI ?_
    refine zLI ?_
    refine zn ?_
    refine W_block ?_
    refine W_forE (C) [(3, .ptr 0 0 0), (4, .ptr 1 0 0), (5, .ptr 2 0 0), (7, .ptr 3 0 0), (8, .ptr 4 0 0), (20, .int _ _)] (fun (c : Nat) => [(21, .int .i64 (c : Int))]) [(0, some ⟨_, _, _, _⟩), (1, some ⟨_, _, _, _⟩), (2, some ⟨_, _, _, _⟩), (4, some ⟨_, _, _, _⟩)] (fun (c : Nat) => [(3, some ⟨27, 1, 0, [[.app 5 ((L.take (k * C + c)).map i8C)]]⟩)]) [] (fun (c : Nat) => [(5, some (62, 1, (L.take (k * C + c)).length))]) 6 (le_fit (sub_cat ⟨rfl, trivial⟩ ⟨rfl, rfl, rfl, rfl, rfl, rfl, trivial⟩) (subO_cat ⟨.inr rfl, trivial⟩ ⟨.inr rfl, .inr rfl, .inr rfl, .inr rfl, trivial⟩) (subK_cat ⟨.inr rfl, trivial⟩ trivial) rfl rfl rfl (by rfl) rfl) ?_
    intro c hc
    refine W.of_le (s' := ⟨[(21, .int .i64 (c : Int)), (3, .ptr 0 0 0), (4, .ptr 1 0 0), (5, .ptr 2 0 0), (7, .ptr 3 0 0), (8, .ptr 4 0 0), (20, .int _ _)], [(3, some ⟨27, 1, 0, [[.app 5 ((L.take (k * C + c)).map i8C)]]⟩), (0, some ⟨_, _, _, _⟩), (1, some ⟨_, _, _, _⟩), (2, some ⟨_, _, _, _⟩), (4, some ⟨_, _, _, _⟩)], [(5, some (62, 1, (L.take (k * C + c)).length))], 6⟩) (le_fit ⟨rfl, rfl, rfl, rfl, rfl, rfl, rfl, trivial⟩ ⟨.inr rfl, .inr rfl, .inr rfl, .inr rfl, .inr rfl, trivial⟩ ⟨.inr rfl, trivial⟩ rfl rfl rfl (by rfl) rfl) ?_
    refine zs ?_
    refine zR ?_
    refine zLB ?_
    refine zn ?_
    refine zs ?_
    refine W_cond (b := _) rfl (fun h22 => ?_) (fun h22 => ?_)
    · have hct : c < C := by (have := of_decide_eq_true h22; omega)
      have hap := take_snoc1 (l := L) (by rw [hLl]; exact mul_lt_two' hk hct) (hget k c hk hct)
      have hgb := gBd s.C c (fun q => tapPlace s o.Win (tapsTop s o.Win k) (tapsLeft s o.Win k) q) (tapN o.Win)
      have hgw : IntKind.i64.wrap (grB a s.C c (fun q => tapPlace s o.Win (tapsTop s o.Win k) (tapsLeft s o.Win k) q) (tapN o.Win)) = grV o s a k c := w64_id (by omega)
      refine zk ?_
      refine zs ?_
      refine W_block ?_
      refine zs ?_
      refine zR ?_
      refine zLI ?_
      refine zal [.int .i64 0] 1 ?_
      refine zst (.int _ _) [_] [[_]] ?_
      refine zn ?_
      refine zs ?_
      refine zR ?_
      refine zal [.int .i8 0] 1 ?_
      refine zst (.int _ _) [_] [[_]] ?_
      refine zn ?_
      refine zs ?_
      refine zs ?_
      refine zR ?_
      refine zLG [.int _ _, .int _ _, .int _ _] ?_
      refine zLP ?_
      refine zLG [.int _ _, .int _ _, .int _ _, .int _ _, .int _ _, .int _ _, .int _ _, .int _ _] ?_
      refine zLI ?_
      refine zLc (window_Taps_yes s o.Win k (hbad k hk)) ?_
      refine zn ?_
      refine W_block ?_
      refine W_range (xs := tapList s o.Win (tapsTop s o.Win k) (tapsLeft s o.Win k)) rfl trivial rfl rfl (window_Taps2 _ _ _ _ (by omega) (by omega) (by omega)) rfl (fun x hx => by obtain ⟨q, hq⟩ := List.getElem?_of_mem hx; rw [(tap_invM hq).2]; rfl)
        (fun q => ([(0, some ⟨39, 22, 0, [opC o]⟩), (1, some ⟨23, 3, 0, [shapeC s]⟩), (2, some ⟨27, 1, 0, [[.ro (a.map i8C)]]⟩), (3, some ⟨27, 1, 0, [[.app 5 ((L.take (k * C + c)).map i8C)]]⟩), (4, some ⟨3, 1, 0, [[.int .i64 (k : Int)]]⟩), (6, some ⟨3, 1, 0, [[.int .i64 (c : Int)]]⟩), (7, some ⟨62, 1, 0, [[.int .i8 (grB a s.C c (fun q => tapPlace s o.Win (tapsTop s o.Win k) (tapsLeft s o.Win k) q) q)]]⟩)], [(5, some (62, 1, (L.take (k * C + c)).length))], 8))
        (le_fit trivial ⟨.inr rfl, .inr rfl, .inr rfl, .inr rfl, .inr rfl, .inr rfl, .inr rfl, trivial⟩ ⟨.inr rfl, trivial⟩ rfl rfl rfl rfl rfl) ?_ ?_
      · intro q x hx
        obtain ⟨hq, rfl⟩ := tap_invM hx
        obtain ⟨hp0, hp1⟩ := hnp k hk q hq
        obtain ⟨hi0, hi1, hi2⟩ := hix _ (c : Int) hp0 hp1 (by omega) (by omega)
        refine zR ?_
        refine zLI ?_
        refine zn ?_
        refine W_block ?_
        refine W_draw 11 Tb_mixed rfl (by decide) (by kernel_rfl) (by kernel_rfl) ?_
        refine zEI ?_
        refine zEO ?_
        refine zEI ?_
        refine zEP ?_
        refine zEI ?_
        refine zEI ?_
        refine zEI ?_
        refine zEI ?_
        simp only [hi0]
        (refine E_v Tb_ok (v := _) (ave_index_ro rfl rfl rfl (fun _ => rfl) rfl (by first | exact hi1 | exact hi2) (by first | exact hi1 | exact hi2) trivial) rfl ?_)
        refine zEI ?_
        refine zEI ?_
        refine LexE_nil ?_
        refine zst (.int _ _) [_] [[_]] ?_
        refine zn ?_
        refine le_fit trivial ⟨.inr rfl, .inr rfl, .inr rfl, .inr rfl, .inr rfl, .inr rfl, .inr rfl, trivial⟩ ⟨.inr rfl, trivial⟩ rfl rfl rfl rfl rfl
      refine W_drawG 5 1 [5] rfl Tb_mixed rfl (by decide) (by kernel_rfl) (by kernel_rfl) ?_
      simp only [tapList_len]
      refine zSA ?_
      refine zSG [.int _ _, .int _ _, .int _ _, .int _ _, .int _ _, .int _ _, .int _ _, .int _ _, .int _ _, .int _ _, .int _ _, .int _ _, _, _, .int _ _, .int _ _, .int _ _, .int _ _, .int _ _, .int _ _, .int _ _, .int _ _] ?_
      refine zSI ?_
      refine zSI ?_
      simp only [hgw]
      refine zSc (plain_home o (grV o s a k c) (I64_of (by unfold grV; omega)) ho) ?_
      refine S_nil ?_
      refine TT_build Tb_ok (OSub.refl _) rfl (el := 62) (sz := 1) (es := [[_]]) (z := [.int .i8 0]) rfl rfl rfl rfl rfl (by decide) trivial rfl rfl rfl rfl rfl rfl (fun ht1 => ?_)
      try clear ht1
      refine G_end ?_
      refine L_app1 Tb_ok (f := i8C) (v := homeV o (grV o s a k c)) (tok := 5) (el := 62) (sz := 1) rfl rfl rfl rfl rfl ⟨trivial, trivial⟩ (fun _ => ⟨rfl, rfl⟩) (by rw [show (Tb.at 62).bytes = 1 from rfl, List.length_take]; omega) rfl ?_
      refine zst (.app _ _) [_] [[_]] ?_
      refine zn ?_
      refine zR ?_
      refine zLI ?_
      refine zLI ?_
      refine zn ?_
      refine for_end hct (le_fit (sub_cat ⟨congrArg _ (w_succ hct (by omega)), trivial⟩ ⟨rfl, rfl, rfl, rfl, rfl, rfl, trivial⟩) (subO_cat ⟨.inr (congrArg (fun z => some (Ob.mk 27 1 0 [[.app 5 (List.map i8C z)]])) hap), trivial⟩ ⟨.inr rfl, .inr rfl, .inr rfl, .inr rfl, trivial⟩) (subK_cat ⟨.inr (congrArg (fun z => some (62, 1, List.length z)) hap), trivial⟩ trivial) rfl rfl rfl (by rfl) rfl)
    · have hce : c = C := by (have := of_decide_eq_false h22; omega)
      refine W_exit ?_
      repeat (first | refine pass_then ?_ | refine pass_for ?_)
      refine blockQ_hit ?_
      refine zR ?_
      refine zLI ?_
      refine zLI ?_
      refine zst (.int _ _) [_] [[_]] ?_
      refine zn ?_
      refine le_fit trivial ⟨.inr rfl, .inr rfl, .inr rfl, .inr (by rw [hce, ← Nat.succ_mul]; rfl), .inr ?_, trivial⟩ ⟨.inr (by rw [hce, ← Nat.succ_mul]; rfl), trivial⟩ rfl rfl rfl rfl rfl
      show some (Ob.mk 3 1 0 [[.int .i64 (IntKind.i64.wrap ((k : Int) + 1))]]) = _
      rw [w_succ hk (by omega)]
  refine zs ?_
  refine zR ?_
  refine zLA ?_
  refine zLA ?_
  refine zn ?_
  refine zt ?_
  (refine ends (l := [.app _ _]) (q := .ro _) (.inr rfl) rfl ⟨trivial, trivial⟩ rfl rfl ?_)
  rw [posX_len, ← hLl, List.take_length]
end Go.AM
end
section
namespace Go.AM
open Go.RowKit
set_option linter.unusedVariables false
set_option linter.unusedSimpArgs false
section
variable {P : Program} {T : Tab} {nt lo : Nat} {Q : Exit → St → Prop} {ops : Array Oper} {O : Objs} {K : Toks} {nx d : Nat} {e : Env} {rest : List Oper} {ty : TypeId} {pos : String} {after : Array Edge}
theorem run_eq_slice {t el : TypeId} {w : World} (hu : P.underlying t = some (.slice el)) (a : Option Addr) (n c : Nat) : (binOp .eql t (.slice a n c) (.slice none 0 0)).run P w = .ok (.bool a.isNone) w := by
  have he : ∀ a b, Op.equal t a b = Op.equalIn (9999 + 1) t a b := fun _ _ => rfl
  cases a <;> simp only [binOp, he] <;> generalize 9999 = q9 <;> simp [Op.equalIn, run_und hu]
theorem L_isnil (hT : Tab.Ok P T) {t el : Nat} {x : Operand} {l : List (List AV)} {yt : TypeId} (hx : strip (ev e x) = .ro l) (hk : (T.at t).kind = .slice el) (hs : sg (ev e x)) (hd : Nat.blt d nt = true)
    (hn : ∀ b : Bool, (l ≠ [] → b = false) → WL P nt lo ops rest ⟨(d, .bool b) :: e, O, K, nx⟩ Q) : WL P nt lo ops (⟨some d, .binOp .eql t x (.const (.slice none 0 0)) yt, ty, pos, after, none⟩ :: rest) ⟨e, O, K, nx⟩ Q := by
  intro β a w ⟨hdm, μ, F, hE, hX⟩
  have rx := (hE.ev x).strip hs
  dsimp only at rx
  rw [hx] at rx
  obtain ⟨i, hi, h1, _⟩ := hT.info (Tab.ne_none hk (by simp))
  rw [h1] at hk
  have hu := kind_slice hk
  obtain ⟨q, n, c, hv, hb⟩ : ∃ (q : Option Addr) (n c : Nat), a.eval x = .slice q n c ∧ (l ≠ [] → q.isNone = false) := by
    generalize a.eval x = cv at rx
    cases rx with
    | ro0 => exact ⟨none, 0, 0, rfl, fun h => absurd rfl h⟩
    | @ro _ _ b o cap sz a' f hz' hc hr hn hm ha => exact ⟨some a', _, cap, rfl, fun _ => rfl⟩
  unfold wpL
  rw [wanted_none rfl, if_pos rfl]
  left
  unfold Oper.wp
  have hrun : (execOp a.eval ⟨some d, .binOp .eql t x (.const (.slice none 0 0)) yt, ty, pos, after, none⟩).run P w = .ok (.value (.bool q.isNone)) w := by
    have hc0 : a.eval (.const (.slice none 0 0)) = .slice none 0 0 := rfl
    simp [execOp, hv, hc0, eqGuard, run_eq_slice hu]
  rw [hrun]
  have := Rel.put (d := some d) (v := .bool q.isNone) hdm hE (.bool _) hX
  rw [wr_some hd] at this
  exact hn q.isNone hb β _ w this
theorem L_app_rowm (hT : Tab.Ok P T) {α : Type} {f : α → List AV} (xs ys : List α) {x y : Operand} {t id n el sz fz : Nat} (hx : strip (ev e x) = .row id 0 n) (hob : lk O id = some ⟨el, sz, fz, xs.map f⟩) (hnl : n = xs.length) (hfz : Nat.ble fz n = true) (hf : ∀ x, (f x).map demC = f x) (hg : ∀ x, (f x).all grC = true) (hlen : ∀ x, (f x).length = sz) (hkd : (T.at t).kind = .slice el) (hm : srcA ((id, none) :: O) (strip (ev e y)) = some (ys.map f))
    (hty : Nat.blt 0 sz && Nat.beq (T.at el).size sz && Nat.beq (T.at el).zero.length sz && !Nat.beq (T.at el).bytes 0 = true) (hs : sg (ev e x) ∧ sg (ev e y)) (hbytes : (xs.length + ys.length) * (T.at el).bytes ≤ 140737488355328) (hd : Nat.blt d nt = true)
    (hn : WL P nt lo ops rest ⟨(d, .app nx ((xs ++ ys).map f)) :: e, (id, none) :: O, (nx, some (el, sz, (xs ++ ys).length)) :: K, nx + 1⟩ Q) : WL P nt lo ops (⟨some d, .call { callee := .builtin .append, args := #[x, y], argTypes := #[t, t] }, ty, pos, after, none⟩ :: rest) ⟨e, O, K, nx⟩ Q := by
  have e1 : xs.map f ++ ys.map f = (xs ++ ys).map f := (List.map_append).symm
  refine L_app_row hT hx hob (by rw [hnl]; simp) hfz (map_dem hf xs) (map_gr hg xs) hkd hm hty hs (allSz.map hlen xs) (allSz.map hlen ys) (map_gr hg ys) (by simpa using hbytes) hd ?_
  rw [e1, show ((xs ++ ys).map f).length = (xs ++ ys).length by simp]
  exact hn
end
end Go.AM
end
section
open Go Go.AM Go.Proofs
set_option maxRecDepth 10000
set_option linter.unusedVariables false
set_option linter.unusedSimpArgs false
namespace Go.AM
theorem i8_nil {a : List Int} : a.map i8C = [] ↔ a = [] := by simp
theorem slices_Clone (a : List Int) (hl : a.length ≤ 1048576) : Ok Try.prog 28 [.ro (a.map i8C)] (.ro (a.map i8C)) := by
  --@@1
  skip
  refine fn_ok Tb_ok (fn := Try.f28) Try.func28 rfl rfl (e := [(0, _)]) rfl (by decide) rfl ?_
  refine zs ?_
  refine zR ?_
  refine zLN ?_
  refine zn ?_
  refine zs ?_
  refine zs ?_
  refine zR ?_
  refine zLO ?_
  refine L_isnil Tb_ok (l := a.map i8C) rfl rfl trivial rfl ?_
  intro b hb
  refine zn ?_
  refine W_cond (b := _) rfl (fun h4 => ?_) (fun h4 => ?_)
  · have ha : a = [] := by
      by_cases c : a.map i8C = []
      · exact i8_nil.1 c
      · rw [hb c] at h4; cases h4
    refine zs ?_
    refine zR ?_
    refine zLN ?_
    refine zn ?_
    refine zt ?_
    (refine ends (l := [.nils]) (q := .ro _) (.inr rfl) rfl ⟨trivial, trivial⟩ rfl rfl ?_)
    rw [ha]; rfl
  · refine zk ?_
    refine zs ?_
    refine zR ?_
    refine L_build Tb_ok (t := 27) (len := 0) (el := 62) (sz := 1) (es := []) (z := [.int .i8 0]) rfl rfl rfl rfl rfl (by decide) trivial rfl rfl rfl rfl rfl ?_
    refine zLO ?_
    refine L_app_rowm Tb_ok (f := i8C) [] a rfl rfl rfl rfl (fun _ => rfl) (fun _ => rfl) (fun _ => rfl) rfl rfl rfl ⟨trivial, trivial⟩ (by rw [show (Tb.at 62).bytes = 1 from rfl]; simp; omega) rfl ?_
    refine zLA ?_
    refine zn ?_
    refine zt ?_
    (refine ends (l := [.app _ _]) (q := .ro _) (.inr rfl) rfl ⟨trivial, trivial⟩ rfl rfl ?_)
    rfl
/-- the first number that a function takes, or -1 -/
def firstP (l : List Int) (p : Int → Bool) : Int := if l.findIdx p < l.length then (l.findIdx p : Int) else -1
theorem firstP_ge (l : List Int) (p : Int → Bool) : decide (firstP l p ≥ 0) = l.any p := by
  unfold firstP
  by_cases h : l.findIdx p < l.length
  · rw [if_pos h, decide_eq_true (by omega)]
    symm
    rw [List.any_eq_true]
    exact ⟨_, List.getElem_mem h, List.findIdx_getElem⟩
  · rw [if_neg h, decide_eq_false (by omega)]
    symm
    rw [List.any_eq_false]
    intro x hx hp
    exact h (List.findIdx_lt_length_of_exists ⟨x, hx, hp⟩)
theorem firstP_at {l : List Int} {p : Int → Bool} {k : Nat} (hk : k < l.length) (h : ∀ i, i < k → p (l.getD i default) = false) (he : p (l.getD k default) = true) : firstP l p = (k : Int) := by
  have e : l.findIdx p = k := by
    rw [List.findIdx_eq hk]
    refine ⟨by simpa [List.getD_eq_getElem?_getD, hk] using he, fun i hi => ?_⟩
    have := h i hi
    simpa [List.getD_eq_getElem?_getD, show i < l.length by omega] using this
  unfold firstP; rw [e, if_pos hk]
theorem firstP_none {l : List Int} {p : Int → Bool} (h : ∀ i, i < l.length → p (l.getD i default) = false) : firstP l p = -1 := by
  unfold firstP
  rw [if_neg]
  intro q
  have h1 := List.findIdx_getElem (w := q)
  have h2 := h _ q
  rw [show l.getD (l.findIdx p) default = l[l.findIdx p] by simp [List.getD_eq_getElem?_getD, q]] at h2
  rw [h1] at h2; cases h2
theorem all_snocP {p : Nat → Prop} {k : Nat} (h : ∀ i, i < k → p i) (hk : p k) : ∀ i, i < k + 1 → p i := fun i hi => by
  by_cases e : i = k
  · rw [e]; exact hk
  · exact h i (by omega)
theorem slices_IndexFunc (l : List Int) (hl : l.length ≤ 1048576) (g : FuncId) (c : List AV) (p : Int → Bool) (hg : ∀ x ∈ l, Ok Try.prog g [.int .i8 x, .rptr c] (.bool (p x))) : Ok Try.prog 55 [.ro (l.map i8C), .fn g [] [.rptr c]] (.int .i64 (firstP l p)) := by
  --@@2
  skip
  refine fn_ok Tb_ok (fn := Try.f55) Try.func55 rfl rfl (e := [(0, _), (1, _)]) rfl (by decide) rfl ?_
  refine zs ?_
  refine zR ?_
  refine zLI ?_
  refine zn ?_
  refine zs ?_
  refine zs ?_
  refine zR ?_
  refine zLO ?_
  refine zLI ?_
  refine zLI ?_
  refine zn ?_
  refine W_block ?_
  refine W_forEF (l.length) (fun (k : Nat) => ∀ i, i < k → p (l.getD i default) = false) (fun i hi => absurd hi (Nat.not_lt_zero _)) [(0, .ro _), (1, .fn _ _ _), (7, .int _ _)] (fun (k : Nat) => [(8, .int .i64 (k : Int))]) [] (fun (k : Nat) => []) [] (fun (k : Nat) => []) 0 (le_fit (sub_cat ⟨rfl, trivial⟩ ⟨rfl, rfl, rfl, trivial⟩) (subO_cat trivial trivial) (subK_cat trivial trivial) rfl rfl rfl (by rfl) rfl) ?_
  intro k hk hfk
  refine W.of_le (s' := ⟨[(8, .int .i64 (k : Int)), (0, .ro _), (1, .fn _ _ _), (7, .int _ _)], [], [], 0⟩) (le_fit ⟨rfl, rfl, rfl, rfl, trivial⟩ trivial trivial rfl rfl rfl (by rfl) rfl) ?_
  refine zs ?_
  refine zR ?_
  refine zLB ?_
  refine zn ?_
  refine zs ?_
  refine W_cond (b := _) rfl (fun h9 => ?_) (fun h9 => ?_)
  · have hkt : k < l.length := by (have := of_decide_eq_true h9; simp only [List.length_map, List.length_take, List.length_drop] at this; omega)
    refine zk ?_
    refine zs ?_
    refine W_block ?_
    refine zs ?_
    refine zR ?_
    refine zLI ?_
    refine zLI ?_
    refine zn ?_
    refine zs ?_
    refine zR ?_
    refine zLF ?_
    refine zLO ?_
    refine zLI ?_
    (refine L_v Tb_ok (v := _) (ave_index_ro rfl rfl rfl (fun _ => rfl) rfl (by first | omega | assumption | decide | (simp_all; done) | (simp_all; omega)) (by first | omega | assumption | decide | (simp_all; done) | (simp_all; omega)) trivial) rfl ?_)
    refine zLI ?_
    simp only [Int.toNat_natCast]
    refine zLc (hg (l.getD k default) (by rw [List.getD_eq_getElem?_getD, List.getElem?_eq_getElem hkt]; exact List.getElem_mem hkt)) ?_
    refine zn ?_
    refine W_cond (b := _) rfl (fun h16 => ?_) (fun h16 => ?_)
    · refine zs ?_
      refine zR ?_
      refine zLI ?_
      refine zLI ?_
      refine zn ?_
      refine zt ?_
      refine ends (l := [.int _ _]) (q := .int _ _) (.inr rfl) rfl ⟨trivial, trivial⟩ rfl rfl ?_
      rw [firstP_at hkt hfk h16]
    · refine zk ?_
      refine zR ?_
      refine zLI ?_
      refine zLI ?_
      refine zn ?_
      refine forF_end hkt (all_snocP hfk h16) (le_fit (sub_cat ⟨congrArg _ (w_succ hkt (by omega)), trivial⟩ ⟨rfl, rfl, rfl, trivial⟩) (subO_cat trivial trivial) (subK_cat trivial trivial) rfl rfl rfl (by rfl) rfl)
  · have hke : k = l.length := by (have := of_decide_eq_false h9; simp only [List.length_map, List.length_take, List.length_drop] at this; omega)
    refine W_exit ?_
    repeat (first | refine pass_then ?_ | refine pass_forF ?_)
    refine blockQ_hit ?_
    refine zs ?_
    refine zR ?_
    refine zLI ?_
    refine zn ?_
    refine zt ?_
    refine ends (l := [.int _ _]) (q := .int _ _) (.inr rfl) rfl ⟨trivial, trivial⟩ rfl rfl ?_
    rw [firstP_none (fun i hi => hfk i (by omega))]
theorem slices_ContainsFunc (l : List Int) (hl : l.length ≤ 1048576) (g : FuncId) (c : List AV) (p : Int → Bool) (hg : ∀ x ∈ l, Ok Try.prog g [.int .i8 x, .rptr c] (.bool (p x))) : Ok Try.prog 27 [.ro (l.map i8C), .fn g [] [.rptr c]] (.bool (l.any p)) := by
  have hI := slices_IndexFunc l hl g c p hg
  --@@3
  skip
  refine fn_ok Tb_ok (fn := Try.f27) Try.func27 rfl rfl (e := [(0, _), (1, _)]) rfl (by decide) rfl ?_
  refine zs ?_
  refine zR ?_
  refine zLB ?_
  refine zn ?_
  refine zs ?_
  refine zR ?_
  refine zLO ?_
  refine zLF ?_
  refine zLc (hI) ?_
  refine zLB ?_
  refine zLB ?_
  refine zn ?_
  refine zt ?_
  refine ends (l := [.bool _]) (q := .bool _) (.inr rfl) rfl ⟨trivial, trivial⟩ rfl rfl ?_
  rw [firstP_ge]
def outP (m : Model) (v : Int) : Bool := bif decide (v < m.Lo) then true else decide (v > m.Hi)
theorem plain_beyond (m : Model) (v : Int) (hv : -128 ≤ v ∧ v ≤ 127) : Ok Try.prog 26 [.int .i8 v, .rptr (modelC m)] (.bool (outP m v)) := by
  have hw : IntKind.i64.wrap v = v := w64_id (by omega)
  --@@4
  skip
  refine fn_ok Tb_ok (fn := Try.f26) Try.func26 rfl rfl (e := [(0, _), (1, _)]) rfl (by decide) rfl ?_
  refine zs ?_
  refine zR ?_
  refine zLB ?_
  refine zn ?_
  refine zs ?_
  refine zR ?_
  refine zLI ?_
  refine zLI ?_
  refine zLQ ?_
  refine zLI ?_
  refine zLB ?_
  refine zLB ?_
  refine zgLI ?_
  refine zgLI ?_
  refine zgLQ ?_
  refine zgLI ?_
  refine zgLB ?_
  refine zpLB ?_
  refine zLB ?_
  refine zn ?_
  refine zt ?_
  refine ends (l := [.bool _]) (q := .bool _) (.inr rfl) rfl ⟨trivial, trivial⟩ rfl rfl ?_
  rw [hw]; rfl
end Go.AM
end
section
open Go Go.AM Go.Proofs
set_option maxRecDepth 10000
set_option linter.unusedVariables false
set_option linter.unusedSimpArgs false
namespace Go.AM
def shAt (m : Model) (n : Nat) : Shape := (wholeF m).1.getD n default
structure OpAt (m : Model) (i : Nat) (o : MOp) : Prop where
  kind : 1 ≤ o.Kind ∧ o.Kind ≤ 8
  A : 0 ≤ o.A ∧ o.A < (i : Int) + 1
  B : 0 ≤ o.B ∧ o.B < (i : Int) + 1
  ends : EndsOk o
  pad : -128 ≤ o.Pad ∧ o.Pad ≤ 127
  inB : shapeB (shAt m o.A.toNat) = true
  outB : shapeB (shAt m (i + 1)) = true
  max : o.Kind = 5 → MaxOk o (shAt m o.A.toNat) (shAt m (i + 1))
  flat : 6 ≤ o.Kind → shAt m (i + 1) = shAt m o.A.toNat
  add : o.Kind = 6 → shAt m o.B.toNat = shAt m o.A.toNat
  sa : o.Kind = 1 ∨ o.Kind = 2 ∨ o.Kind = 3 ∨ o.Kind = 6 ∨ o.Kind = 7 → sclB o.SA = true
  sb : o.Kind = 6 → sclB o.SB = true
theorem ofU_at {k : Int} (h : 1 ≤ k ∧ k ≤ 8) : k = 1 ∨ k = 2 ∨ k = 3 ∨ k = 4 ∨ k = 5 ∨ k = 6 ∨ k = 7 ∨ k = 8 := by omega
theorem shape_ext {a b : Shape} (h1 : a.H = b.H) (h2 : a.W = b.W) (h3 : a.C = b.C) : a = b := by cases a; cases b; simp_all
theorem op_at {m : Model} (h : (wholeF m).2.2.Err = 0) {i : Nat} (hi : i < m.Ops.length) : OpAt m i (m.Ops.getD i default) := by
  obtain ⟨w1, w2, w3, w4, w5, w6⟩ := whole_ok h
  obtain ⟨e1, e2⟩ := w6 i hi
  have hA := whole_A h hi
  have hsA := shapes_ok h (i := (m.Ops.getD i default).A.toNat) (by omega)
  have hst := shapes_ok h (i := i + 1) (by omega)
  generalize m.Ops.getD i default = o at *
  obtain ⟨q1, q2, q3, q4, q5, q6, q7, q8, q9, q10⟩ := opE_ok e1
  have e2' : shAt m (i + 1) = mkS o (inA o ((wholeF m).1.take (i + 1))) := by unfold shAt; rw [e2, opS_ok e1]
  have ein : ∀ q : Int, 0 ≤ q → q < (i : Int) + 1 → ((wholeF m).1.take (i + 1)).getD q.toNat default = shAt m q.toNat := fun q h0 h1 => by
    unfold shAt
    rw [List.getD_eq_getElem?_getD, List.getElem?_take, if_pos (by omega), List.getD_eq_getElem?_getD]
  have hinA : inA o ((wholeF m).1.take (i + 1)) = shAt m o.A.toNat := ein _ hA.1 hA.2
  unfold op6 at q6
  rw [hinA] at e2' q5 q6
  obtain ⟨o1, o2, o3⟩ := op2_ok q2
  have hlt : (((wholeF m).1.take (i + 1)).length : Int) = (i : Int) + 1 := by rw [List.length_take]; omega
  have hk : 1 ≤ o.Kind ∧ o.Kind ≤ 8 := by simp [op1, inB] at q1; exact q1
  have hends := op_ends q10
  have hem : emptyB (bareF (ofU o.Kind) o) = true := by simpa [op3] using q3
  have hB0 : o.Kind ≠ 6 → o.B = 0 := fun k6 => by
    have hb : (ofU o.Kind).b = false := by rcases ofU_at hk with k | k | k | k | k | k | k | k <;> simp [ofU, k] at * 
    have e : (bareF (ofU o.Kind) o).B = o.B := by
      unfold bareF bare8 bare7 bare6 bare5 bare4 bare3 bare2 bare1
      rw [hb]
      cases (ofU o.Kind).m <;> cases (ofU o.Kind).win <;> cases (ofU o.Kind).pads <;> cases (ofU o.Kind).weights <;> cases (ofU o.Kind).sa <;> cases (ofU o.Kind).sb <;> cases (ofU o.Kind).pad <;> rfl
    unfold emptyB at hem
    simp only [Bool.and_eq_true, beq_iff_eq] at hem
    rw [← e]; exact hem.1.1.1.1.1.1.1.1.1.1.2
  have hBb : 0 ≤ o.B ∧ o.B < (i : Int) + 1 := by
    by_cases k6 : o.Kind = 6
    · have := o3 (by simp [ofU, k6]); rw [hlt] at this; exact this
    · rw [hB0 k6]; omega
  refine ⟨hk, hA, hBb, hends.1, hends.2, hsA, hst, fun k5 => ?_, fun k6 => ?_, fun k6 => ?_, fun ks => ?_, fun k6 => ?_⟩
  · have hu : ofU o.Kind = ⟨false, false, true, false, false, false, false, false⟩ := by simp [ofU, k5]
    have hoe : outE (shAt m o.A.toNat) o.Win = 0 := by unfold mkE at q5; rw [hu] at q5; exact q5
    have hmk : mkS o (shAt m o.A.toNat) = ⟨outH (shAt m o.A.toNat) o.Win, outW (shAt m o.A.toNat) o.Win, (shAt m o.A.toNat).C⟩ := by
      unfold mkS; rw [if_pos q5, if_neg (by omega), if_neg (by omega), mkX, hu]; rfl
    obtain ⟨_, hwb, _, _⟩ := outE_zero hoe
    have hz : o.Win.Top = 0 ∧ o.Win.Left = 0 ∧ o.Win.Bottom = 0 ∧ o.Win.Right = 0 := by
      rw [hu] at hem
      unfold emptyB winEq at hem
      simp only [Bool.and_eq_true, beq_iff_eq] at hem
      have := hem.1.1.1.1.1.1.1.1.2
      exact ⟨this.2.2.2.2.1, this.2.2.2.2.2.1, this.2.2.2.2.2.2.1, this.2.2.2.2.2.2.2⟩
    exact ⟨hsA, hst, hwb, hoe, by rw [e2', hmk], by rw [e2', hmk], by rw [e2', hmk], hz⟩
  · have hw : (ofU o.Kind).win = false := by rcases (show o.Kind = 6 ∨ o.Kind = 7 ∨ o.Kind = 8 by omega) with k | k | k <;> simp [ofU, k]
    rw [e2']; unfold mkS; rw [if_pos q5, if_neg (by omega), if_neg (by omega), mkX, hw]; rfl
  · have hb : (ofU o.Kind).b = true := by simp [ofU, k6]
    rw [hb] at q6
    have hs : shapeE (mkS o (shAt m o.A.toNat)) = 0 := by
      have : shapeB (mkS o (shAt m o.A.toNat)) = true := by rw [← e2']; exact hst
      unfold shapeE; rw [this]; rfl
    rw [hs] at q6
    have hq : shapeQ (inS o ((wholeF m).1.take (i + 1))) (shAt m o.A.toNat) = true := by simpa using q6
    have hinS : inS o ((wholeF m).1.take (i + 1)) = shAt m o.B.toNat := ein _ hBb.1 hBb.2
    rw [hinS] at hq
    unfold shapeQ at hq
    simp only [Bool.and_eq_true, beq_iff_eq] at hq
    exact shape_ext hq.1 hq.2.1 hq.2.2.1
  · have hu : (ofU o.Kind).sa = true := by rcases ks with k | k | k | k | k <;> simp [ofU, k]
    unfold op9 at q9; rw [hu] at q9
    cases hs : scaleB o.SA with
    | true => exact hs
    | false => rw [hs] at q9; simp at q9
  · have hu : (ofU o.Kind).sb = true := by simp [ofU, k6]
    unfold op9 at q9; rw [hu] at q9
    cases hs : scaleB o.SB with
    | true => exact hs
    | false => rw [hs] at q9; simp at q9
/-- an op that reduces is a site -/
theorem red_find {m : Model} (h : (wholeF m).2.2.Err = 0) {i : Nat} (hi : i < m.Ops.length) (hk : inB (m.Ops.getD i default).Kind 1 4 = true) : findE m ((i : Int) + 1) = 0 := by
  have e : opAt m ((i : Int) + 1) = m.Ops.getD i default := by unfold opAt; rw [show ((i : Int) + 1 - 1).toNat = i by omega]
  unfold findE
  rw [if_neg (by simp [fi1, h]), if_neg (by simp [fi2]; omega), if_neg (by rw [fi3, e, hk]; simp)]
theorem red_site {m : Model} {i : Nat} (h0 : findE m ((i : Int) + 1) = 0) : (findS m ((i : Int) + 1)).Op = m.Ops.getD i default ∧ (findS m ((i : Int) + 1)).In = shAt m (m.Ops.getD i default).A.toNat ∧ (findS m ((i : Int) + 1)).Out = shAt m (i + 1) := by
  obtain ⟨_, _, _, _, e⟩ := site_ok h0
  have eo : opAt m ((i : Int) + 1) = m.Ops.getD i default := by unfold opAt; rw [show ((i : Int) + 1 - 1).toNat = i by omega]
  rw [e]
  refine ⟨eo, ?_, ?_⟩
  · show aAt m ((i : Int) + 1) = _
    unfold aAt shAt; rw [eo]
  · show (wholeF m).1.getD ((i : Int) + 1).toNat default = _
    unfold shAt; rw [show ((i : Int) + 1).toNat = i + 1 by omega]
/-- what an op makes -/
def makeF (m : Model) (i : Nat) (all : List (List Int)) : List Int :=
  if inB (m.Ops.getD i default).Kind 1 4 = true then reduceF m ((i : Int) + 1) (all.getD (m.Ops.getD i default).A.toNat default)
  else if (m.Ops.getD i default).Kind = 5 then greatestF (m.Ops.getD i default) (shAt m (m.Ops.getD i default).A.toNat) (shAt m (i + 1)) (all.getD (m.Ops.getD i default).A.toNat default)
  else eachF (m.Ops.getD i default) (all.getD (m.Ops.getD i default).A.toNat default) (all.getD (m.Ops.getD i default).B.toNat default)
def tensG (m : Model) (x : List Int) : Nat → List (List Int)
  | 0 => [x]
  | i + 1 => tensG m x i ++ [makeF m i (tensG m x i)]
theorem tensG_len (m : Model) (x : List Int) : ∀ i, (tensG m x i).length = i + 1
  | 0 => rfl
  | i + 1 => by unfold tensG; rw [List.length_append, tensG_len m x i]; rfl
theorem tensG_get (m : Model) (x : List Int) {n : Nat} : ∀ {i : Nat}, n ≤ i → (tensG m x i).getD n default = (tensG m x n).getD n default
  | 0, h => by obtain rfl : n = 0 := by omega
               rfl
  | i + 1, h => by
    by_cases e : n = i + 1
    · rw [e]
    · rw [← tensG_get m x (i := i) (by omega)]
      show (tensG m x i ++ _).getD n default = _
      rw [List.getD_eq_getElem?_getD, List.getElem?_append_left (by rw [tensG_len]; omega), List.getD_eq_getElem?_getD]
def tens (m : Model) (x : List Int) (n : Nat) : List Int := (tensG m x n).getD n default
theorem tens_succ (m : Model) (x : List Int) (i : Nat) : tens m x (i + 1) = makeF m i (tensG m x i) := by
  unfold tens
  show (tensG m x i ++ [makeF m i (tensG m x i)]).getD (i + 1) default = _
  rw [List.getD_eq_getElem?_getD, List.getElem?_append_right (by rw [tensG_len]; exact Nat.le_refl _), tensG_len, Nat.sub_self]; rfl
def elemsN (s : Shape) : Int := s.H * s.W * s.C
def TensOk (m : Model) (x : List Int) (n : Nat) : Prop := B8 (tens m x n) ∧ ((tens m x n).length : Int) = elemsN (shAt m n)
theorem B8.map {α : Type} {l : List α} {f : α → Int} (h : ∀ x ∈ l, -128 ≤ f x ∧ f x ≤ 127) : B8 (l.map f) := fun v hv => by
  obtain ⟨x, hx, rfl⟩ := List.mem_map.1 hv
  exact h x hx
theorem tens_ok {m : Model} (h : (wholeF m).2.2.Err = 0) {x : List Int} (hx : B8 x) (hxl : (x.length : Int) = elemsN m.In) : ∀ n, n ≤ m.Ops.length → TensOk m x n := by
  intro n
  induction n using Nat.strongRecOn with
  | _ n ih =>
    intro hn
    cases n with
    | zero =>
      refine ⟨hx, ?_⟩
      unfold shAt
      rw [(whole_ok h).2.2.2.2.1]
      exact hxl
    | succ i =>
      have O := op_at h (i := i) (by omega)
      have hA := O.A
      have hBB := O.B
      have ka := ih (m.Ops.getD i default).A.toNat (by omega) (by omega)
      have kb := ih (m.Ops.getD i default).B.toNat (by omega) (by omega)
      have ga : (tensG m x i).getD (m.Ops.getD i default).A.toNat default = tens m x (m.Ops.getD i default).A.toNat := tensG_get m x (by omega)
      have gb : (tensG m x i).getD (m.Ops.getD i default).B.toNat default = tens m x (m.Ops.getD i default).B.toNat := tensG_get m x (by omega)
      unfold TensOk
      rw [tens_succ, makeF, ga, gb]
      by_cases k1 : inB (m.Ops.getD i default).Kind 1 4 = true
      · rw [if_pos k1]
        have h0 := red_find h (by omega) k1
        obtain ⟨s1, s2, s3⟩ := red_site h0
        refine ⟨B8.map fun t _ => homeV_bd (by rw [show ((i : Int) + 1 - 1).toNat = i by omega]; exact O.ends) _, ?_⟩
        have Ob := shapeB_iff.1 O.outB
        rw [reduceF, List.length_map, sumsF, List.length_map, List.length_range, s3]
        unfold elemsN
        have : 0 ≤ (shAt m (i + 1)).H * (shAt m (i + 1)).W * (shAt m (i + 1)).C := Int.mul_nonneg (Int.mul_nonneg (by omega) (by omega)) (by omega)
        omega
      · rw [if_neg k1]
        by_cases k5 : (m.Ops.getD i default).Kind = 5
        · rw [if_pos k5]
          have M := O.max k5
          refine ⟨B8.map fun t _ => homeV_bd O.ends _, ?_⟩
          have Ob := shapeB_iff.1 O.outB
          have Ib := shapeB_iff.1 O.inB
          rw [greatestF, List.length_map, List.length_range]
          unfold elemsN
          have : 0 ≤ (shAt m (i + 1)).H * (shAt m (i + 1)).W := Int.mul_nonneg (by omega) (by omega)
          rw [Int.natCast_mul, M.c]
          rw [show (((shAt m (i + 1)).H * (shAt m (i + 1)).W).toNat : Int) = (shAt m (i + 1)).H * (shAt m (i + 1)).W by omega, show ((shAt m (m.Ops.getD i default).A.toNat).C.toNat : Int) = (shAt m (m.Ops.getD i default).A.toNat).C by omega]
        · rw [if_neg k5]
          have k6 : 6 ≤ (m.Ops.getD i default).Kind := by
            have := O.kind
            rw [inB] at k1; simp only [Bool.and_eq_true, decide_eq_true_eq] at k1; omega
          refine ⟨B8.map fun t _ => homeV_bd O.ends _, ?_⟩
          rw [eachF, List.length_map, List.length_range, O.flat k6]; exact ka.2
end Go.AM
end
