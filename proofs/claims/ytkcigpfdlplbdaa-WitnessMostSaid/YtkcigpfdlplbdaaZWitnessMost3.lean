/- The law WitnessMost answers true, whatever its arguments: part 4 of 6 of its proof (the machine on trees, the functions' contracts). -/
import Derived.Laws.MathBits
import Derived.Test.YtkcigpfdlplbdaaZWitnessMost2
section
open Go Go.AM Go.Proofs
set_option maxRecDepth 10000
set_option linter.unusedVariables false
set_option linter.unusedSimpArgs false
namespace Go.AM
/-- the place doesn't lie in the site -/
def ofBad (S : Site) (ch at_ : Int) : Bool := bif bif bif decide (ch < 1) then true else decide (ch > S.Out.C) then true else decide (at_ < 0) then true else decide (at_ ≥ w64 (S.Out.H * S.Out.W))
theorem terms_Of_bad (m : Model) (op ch at_ : Int) (h : (findE m op != 0) = true ∨ ((findE m op != 0) = false ∧ ofBad (findS m op) ch at_ = true)) :
    Ok Try.prog 52 [.agg (modelC m), .int .i64 op, .int .i64 ch, .int .i64 at_] (.tup [.ro [], .int .i64 0, .int .i64 (if findE m op = 0 then 3 else findE m op)]) := by
  rcases h with hc26 | ⟨hc26, hc51⟩
  · --@@1
    skip
    refine fn_ok Tb_ok (fn := Try.f52) Try.func52 rfl rfl (e := [(0, _), (1, _), (2, _), (3, _)]) rfl (by decide) rfl ?_
    refine zs ?_
    refine zR ?_
    refine zbx [.int _ _, .int _ _, .int _ _, .int _ _, .int _ _, _, .int _ _] 7 ?_
    refine zLN ?_
    refine zLI ?_
    refine zLI ?_
    refine zn ?_
    refine zs ?_
    refine zR ?_
    refine zLG [.int _ _, .int _ _, .int _ _, .int _ _, .int _ _, _, .int _ _] ?_
    refine zLI ?_
    refine zLc (terms_find m op) ?_
    refine zLT [_, _] ?_
    refine zLG [.int _ _, .int _ _, .int _ _, .int _ _, .int _ _, .int _ _, .int _ _, .int _ _, .int _ _, .int _ _, .int _ _, .int _ _, _, _, .int _ _, .int _ _, .int _ _, .int _ _, .int _ _, .int _ _, .int _ _, .int _ _, .int _ _, .int _ _, .int _ _, .int _ _, .int _ _, .int _ _, .int _ _] ?_
    refine zLI ?_
    refine zal [.int .i64 0, .int .i64 0, .int .i64 0, .int .i64 0, .int .i64 0, .int .i64 0, .int .i64 0, .int .i64 0, .int .i64 0, .int .i64 0, .int .i64 0, .int .i64 0, .nils, .nils, .int .i64 0, .int .i64 0, .int .i64 0, .int .i64 0, .int .i64 0, .int .i64 0, .int .i64 0, .int .i64 0, .int .i64 0, .int .i64 0, .int .i64 0, .int .i64 0, .int .i64 0, .int .i64 0, .int .i64 0] 29 ?_
    refine zst (.agg [.int _ _, .int _ _, .int _ _, .int _ _, .int _ _, .int _ _, .int _ _, .int _ _, .int _ _, .int _ _, .int _ _, .int _ _, _, _, .int _ _, .int _ _, .int _ _, .int _ _, .int _ _, .int _ _, .int _ _, .int _ _, .int _ _, .int _ _, .int _ _, .int _ _, .int _ _, .int _ _, .int _ _]) [_, _, _, _, _, _, _, _, _, _, _, _, _, _, _, _, _, _, _, _, _, _, _, _, _, _, _, _, _] [[_, _, _, _, _, _, _, _, _, _, _, _, _, _, _, _, _, _, _, _, _, _, _, _, _, _, _, _, _]] ?_
    refine zLI ?_
    refine zn ?_
    refine zs ?_
    refine zs ?_
    refine zR ?_
    refine zLI ?_
    refine zLB ?_
    refine zn ?_
    refine W_cond_t (b := _) rfl (by exact hc26) ?_
    refine zs ?_
    refine zR ?_
    refine zLI ?_
    refine zLN ?_
    refine zLI ?_
    refine zLI ?_
    refine zn ?_
    refine zt ?_
    (refine ends (l := [.nils, .int _ _, .int _ _]) (q := .tup [.ro _, .int _ _, .int _ _]) (.inr rfl) rfl ⟨trivial, trivial, trivial, trivial⟩ rfl rfl ?_)
    (have h0 : findE m op ≠ 0 := by simpa using hc26); simp [h0]
  · --@@2
    skip
    refine fn_ok Tb_ok (fn := Try.f52) Try.func52 rfl rfl (e := [(0, _), (1, _), (2, _), (3, _)]) rfl (by decide) rfl ?_
    refine zs ?_
    refine zR ?_
    refine zbx [.int _ _, .int _ _, .int _ _, .int _ _, .int _ _, _, .int _ _] 7 ?_
    refine zLN ?_
    refine zLI ?_
    refine zLI ?_
    refine zn ?_
    refine zs ?_
    refine zR ?_
    refine zLG [.int _ _, .int _ _, .int _ _, .int _ _, .int _ _, _, .int _ _] ?_
    refine zLI ?_
    refine zLc (terms_find m op) ?_
    refine zLT [_, _] ?_
    refine zLG [.int _ _, .int _ _, .int _ _, .int _ _, .int _ _, .int _ _, .int _ _, .int _ _, .int _ _, .int _ _, .int _ _, .int _ _, _, _, .int _ _, .int _ _, .int _ _, .int _ _, .int _ _, .int _ _, .int _ _, .int _ _, .int _ _, .int _ _, .int _ _, .int _ _, .int _ _, .int _ _, .int _ _] ?_
    refine zLI ?_
    refine zal [.int .i64 0, .int .i64 0, .int .i64 0, .int .i64 0, .int .i64 0, .int .i64 0, .int .i64 0, .int .i64 0, .int .i64 0, .int .i64 0, .int .i64 0, .int .i64 0, .nils, .nils, .int .i64 0, .int .i64 0, .int .i64 0, .int .i64 0, .int .i64 0, .int .i64 0, .int .i64 0, .int .i64 0, .int .i64 0, .int .i64 0, .int .i64 0, .int .i64 0, .int .i64 0, .int .i64 0, .int .i64 0] 29 ?_
    refine zst (.agg [.int _ _, .int _ _, .int _ _, .int _ _, .int _ _, .int _ _, .int _ _, .int _ _, .int _ _, .int _ _, .int _ _, .int _ _, _, _, .int _ _, .int _ _, .int _ _, .int _ _, .int _ _, .int _ _, .int _ _, .int _ _, .int _ _, .int _ _, .int _ _, .int _ _, .int _ _, .int _ _, .int _ _]) [_, _, _, _, _, _, _, _, _, _, _, _, _, _, _, _, _, _, _, _, _, _, _, _, _, _, _, _, _] [[_, _, _, _, _, _, _, _, _, _, _, _, _, _, _, _, _, _, _, _, _, _, _, _, _, _, _, _, _]] ?_
    refine zLI ?_
    refine zn ?_
    refine zs ?_
    refine zs ?_
    refine zR ?_
    refine zLI ?_
    refine zLB ?_
    refine zn ?_
    refine W_cond_f (b := _) rfl (by exact hc26) ?_
    refine zk ?_
    refine zs ?_
    refine zs ?_
    refine zR ?_
    refine zLI ?_
    refine zLB ?_
    refine zLB ?_
    refine zgLI ?_
    refine zgLP ?_
    refine zgLP ?_
    refine zgLI ?_
    refine zgLB ?_
    refine zpLB ?_
    refine zLB ?_
    refine zgLI ?_
    refine zgLB ?_
    refine zpLB ?_
    refine zLB ?_
    refine zgLI ?_
    refine zgLP ?_
    refine zgLP ?_
    refine zgLI ?_
    refine zgLP ?_
    refine zgLP ?_
    refine zgLI ?_
    refine zgLI ?_
    refine zgLB ?_
    refine zpLB ?_
    refine zn ?_
    refine W_cond_t (b := _) rfl (by exact hc51) ?_
    refine zs ?_
    refine zR ?_
    refine zLN ?_
    refine zLI ?_
    refine zLI ?_
    refine zn ?_
    refine zt ?_
    (refine ends (l := [.nils, .int _ _, .int _ _]) (q := .tup [.ro _, .int _ _, .int _ _]) (.inr rfl) rfl ⟨trivial, trivial, trivial, trivial⟩ rfl rfl ?_)
    (have h0 : findE m op = 0 := by simpa using hc26); simp [h0]
end Go.AM
end
section
open Go Go.AM Go.Proofs
set_option maxRecDepth 10000
set_option linter.unusedVariables false
set_option linter.unusedSimpArgs false
namespace Go.AM
/-- the list, k of its places told -/
def ofP (pl : List Int) (k : Nat) : List Term := (pl.take k).map (fun p => ⟨1, p⟩) ++ List.replicate (pl.length - k) ⟨0, 0⟩
theorem ofP_len (pl : List Int) (k : Nat) (h : k ≤ pl.length) : (ofP pl k).length = pl.length := by simp [ofP]; omega
theorem ofP_set (pl : List Int) (k : Nat) (h : k < pl.length) : (ofP pl k).set k ⟨1, pl.getD k 0⟩ = ofP pl (k + 1) := by
  have e : pl.length - k = (pl.length - (k + 1)) + 1 := by omega
  have hl : ((pl.take k).map (fun p => (⟨1, p⟩ : Term))).length = k := by simp; omega
  rw [ofP, ofP, e, List.replicate_succ, List.set_append_right _ _ (by omega), hl, Nat.sub_self, List.set_cons_zero, List.take_add_one, List.map_append, List.append_assoc]
  simp [h]
theorem terms_Of_pl (m : Model) (op ch at_ : Int) (hc26 : (findE m op != 0) = false) (hc51 : ofBad (findS m op) ch at_ = false) (hc74 : ((findS m op).Op.Kind != 4) = false) (pl : List Int)
    (hpl : Ok Try.prog 81 [.agg (siteC (findS m op)), .int .i64 ch, .int .i64 at_] (.ro (pl.map intC))) (hpn : (findS m op).Len = (pl.length : Int)) (hps : pl.length ≤ 1048576) :
    Ok Try.prog 52 [.agg (modelC m), .int .i64 op, .int .i64 ch, .int .i64 at_] (.tup [.ro ((ofP pl pl.length).map termC), .int .i64 0, .int .i64 0]) := by
  refine fn_ok Tb_ok (fn := Try.f52) Try.func52 rfl rfl (e := [(0, _), (1, _), (2, _), (3, _)]) rfl (by decide) rfl ?_
  refine zs ?_
  refine zR ?_
  refine zbx [.int _ _, .int _ _, .int _ _, .int _ _, .int _ _, _, .int _ _] 7 ?_
  refine zLN ?_
  refine zLI ?_
  refine zLI ?_
  refine zn ?_
  refine zs ?_
  refine zR ?_
  refine zLG [.int _ _, .int _ _, .int _ _, .int _ _, .int _ _, _, .int _ _] ?_
  refine zLI ?_
  refine zLc (terms_find m op) ?_
  refine zLT [_, _] ?_
  refine zLG [.int _ _, .int _ _, .int _ _, .int _ _, .int _ _, .int _ _, .int _ _, .int _ _, .int _ _, .int _ _, .int _ _, .int _ _, _, _, .int _ _, .int _ _, .int _ _, .int _ _, .int _ _, .int _ _, .int _ _, .int _ _, .int _ _, .int _ _, .int _ _, .int _ _, .int _ _, .int _ _, .int _ _] ?_
  refine zLI ?_
  refine zal [.int .i64 0, .int .i64 0, .int .i64 0, .int .i64 0, .int .i64 0, .int .i64 0, .int .i64 0, .int .i64 0, .int .i64 0, .int .i64 0, .int .i64 0, .int .i64 0, .nils, .nils, .int .i64 0, .int .i64 0, .int .i64 0, .int .i64 0, .int .i64 0, .int .i64 0, .int .i64 0, .int .i64 0, .int .i64 0, .int .i64 0, .int .i64 0, .int .i64 0, .int .i64 0, .int .i64 0, .int .i64 0] 29 ?_
  refine zst (.agg [.int _ _, .int _ _, .int _ _, .int _ _, .int _ _, .int _ _, .int _ _, .int _ _, .int _ _, .int _ _, .int _ _, .int _ _, _, _, .int _ _, .int _ _, .int _ _, .int _ _, .int _ _, .int _ _, .int _ _, .int _ _, .int _ _, .int _ _, .int _ _, .int _ _, .int _ _, .int _ _, .int _ _]) [_, _, _, _, _, _, _, _, _, _, _, _, _, _, _, _, _, _, _, _, _, _, _, _, _, _, _, _, _] [[_, _, _, _, _, _, _, _, _, _, _, _, _, _, _, _, _, _, _, _, _, _, _, _, _, _, _, _, _]] ?_
  refine zLI ?_
  refine zn ?_
  refine zs ?_
  refine zs ?_
  refine zR ?_
  refine zLI ?_
  refine zLB ?_
  refine zn ?_
  refine W_cond_f (b := _) rfl (by exact hc26) ?_
  refine zk ?_
  refine zs ?_
  refine zs ?_
  refine zR ?_
  refine zLI ?_
  refine zLB ?_
  refine zLB ?_
  refine zgLI ?_
  refine zgLP ?_
  refine zgLP ?_
  refine zgLI ?_
  refine zgLB ?_
  refine zpLB ?_
  refine zLB ?_
  refine zgLI ?_
  refine zgLB ?_
  refine zpLB ?_
  refine zLB ?_
  refine zgLI ?_
  refine zgLP ?_
  refine zgLP ?_
  refine zgLI ?_
  refine zgLP ?_
  refine zgLP ?_
  refine zgLI ?_
  refine zgLI ?_
  refine zgLB ?_
  refine zpLB ?_
  refine zn ?_
  refine W_cond_f (b := _) rfl (by exact hc51) ?_
  refine zk ?_
  refine zs ?_
  refine zR ?_
  refine zLI ?_
  refine zn ?_
  refine zs ?_
  refine zR ?_
  refine zLP ?_
  refine zLI ?_
  refine L_make Tb_ok (el := 112) (sz := 2) (z := [.int .i64 0, .int .i64 0]) rfl rfl rfl rfl rfl rfl rfl rfl ⟨trivial, trivial⟩ (by (rw [hpn]; omega)) (by (rw [hpn, show (Tb.at 112).bytes = 16 from rfl]; omega)) rfl ?_
  refine zLW ?_
  refine zn ?_
  refine zs ?_
  refine zs ?_
  refine zR ?_
  refine zLG [.int _ _, .int _ _, .int _ _, .int _ _, .int _ _, .int _ _, .int _ _, .int _ _, .int _ _, .int _ _, .int _ _, .int _ _, _, _, .int _ _, .int _ _, .int _ _, .int _ _, .int _ _, .int _ _, .int _ _, .int _ _, .int _ _, .int _ _, .int _ _, .int _ _, .int _ _, .int _ _, .int _ _] ?_
  refine zLI ?_
  refine zLI ?_
  refine zLc (hpl) ?_
  refine zLI ?_
  refine zLI ?_
  refine zn ?_
  refine W_block ?_
  refine W_inv (ι := {k : Nat // k ≤ pl.length}) (fun k => ⟨[(2, .int .i64 ch), (11, .ptr 1 0 0), (13, .int .i64 0), (14, .row 2 0 (findS m op).Len.toNat), (58, .ro (pl.map intC)), (59, .int .i64 ((pl.map intC).length : Int)), (60, .int .i64 (k.1 : Int))], [(1, some ⟨121, 29, 0, [siteC (findS m op)]⟩), (2, some ⟨112, 2, 0, (ofP pl k.1).map termC⟩)], [], 3⟩) (fun k => pl.length - k.1) ⟨0, Nat.zero_le _⟩ (le_fit ⟨rfl, rfl, rfl, rfl, rfl, rfl, rfl, trivial⟩ ⟨.inr rfl, .inr ?_, trivial⟩ trivial rfl rfl rfl ?_ rfl) ?_
  · show some (Ob.mk _ _ _ (List.replicate (findS m op).Len.toNat _)) = _
    simp [ofP, hpn, termC]
  · simp [ltOB, termC, siteC, opC, shapeC, AV.lt]
  rintro ⟨k, hk⟩
  refine zs ?_
  refine zR ?_
  refine zLB ?_
  refine zn ?_
  refine zs ?_
  refine W_cond (b := _) rfl (fun h61 => ?_) (fun h61 => ?_)
  · have hlt : k < pl.length := by simpa using h61
    refine zk ?_
    refine zs ?_
    refine W_block ?_
    refine zs ?_
    refine zR ?_
    refine zLI ?_
    (refine L_v Tb_ok (v := _) (ave_index_ro rfl rfl rfl (fun _ => rfl) rfl (by first | omega | assumption | decide | (simp_all; done) | (simp_all; omega)) (by first | omega | assumption | decide | (simp_all; done) | (simp_all; omega)) trivial) rfl ?_)
    refine zLI ?_
    refine zLI ?_
    refine zLI ?_
    refine zn ?_
    refine zR ?_
    refine zLW ?_
    refine zLI ?_
    refine zLI ?_
    refine zLG [.int _ _, .int _ _] ?_
    (refine L_v Tb_ok (v := _) (ave_index_row rfl rfl rfl rfl rfl rfl (by first | omega | assumption | decide | (simp_all; done) | (simp_all; omega)) (by first | omega | assumption | decide | (simp_all; done) | (simp_all; omega)) trivial) rfl ?_)
    refine L_store_row Tb_ok (f := termC) (xs := ofP pl k) (v' := ⟨1, pl.getD k 0⟩) rfl rfl rfl rfl rfl rfl rfl rfl (by rw [ofP_len _ _ hk]; simp; omega) rfl ⟨trivial, trivial⟩ ?_
    refine zn ?_
    refine zR ?_
    refine zLI ?_
    refine zLI ?_
    refine zn ?_
    refine round_end ⟨k + 1, hlt⟩ (by dsimp only; omega) (le_fit ⟨rfl, rfl, rfl, rfl, rfl, rfl, congrArg _ (w_succ hlt (by omega)), trivial⟩ ⟨.inr rfl, .inr ?_, trivial⟩ trivial rfl rfl rfl ?_ rfl)
    · show some (Ob.mk 112 2 0 (((ofP pl k).set (0 + ((k : Nat) : Int).toNat) ⟨1, pl.getD k 0⟩).map termC)) = _
      rw [Nat.zero_add, Int.toNat_natCast, ofP_set pl k hlt]
    · simp [ltOB, termC, siteC, opC, shapeC, AV.lt]
  · refine W_exit ?_
    repeat (first | refine pass_then ?_ | refine pass_round ?_)
    refine blockQ_hit ?_
    refine zs ?_
    refine zs ?_
    refine zR ?_
    refine zLP ?_
    refine zLP ?_
    refine zLI ?_
    refine zLB ?_
    refine zn ?_
    refine W_cond_f (b := _) rfl (by exact hc74) ?_
    refine zk ?_
    refine zs ?_
    refine zR ?_
    have hke : k = pl.length := by simp at h61; omega
    refine L_freeze (t := 14) (id := 2) (n := (findS m op).Len.toNat) (l := (ofP pl k).map termC) rfl rfl ?_ rfl rfl ?_ ?_ ?_
    · show _ = ((ofP pl k).map termC).length
      rw [List.length_map, ofP_len pl k hk, hpn]; rfl
    · show ((ofP pl k).map termC).map (·.map demC) = _
      simp [termC, demC]
    · simp [termC, grC]
    refine zLO ?_
    refine zLI ?_
    refine zLO ?_
    refine zLI ?_
    refine zLI ?_
    refine zn ?_
    refine zt ?_
    (refine ends (l := [.ro _, .int _ _, .int _ _]) (q := .tup [.ro _, .int _ _, .int _ _]) (.inr rfl) rfl ⟨trivial, trivial, trivial, trivial⟩ rfl rfl ?_)
    rw [hke]
/-- the channel's weights -/
def ofWs (S : Site) (ch : Int) : List Int := (S.Op.Weights.drop (w64 (w64 (ch - 1) * S.Len)).toNat).take ((w64 (ch * S.Len)).toNat - (w64 (w64 (ch - 1) * S.Len)).toNat)
def ofQ (pl ws : List Int) (k : Nat) : List Term := (List.range pl.length).map fun i => ⟨if i < k then ws.getD i 0 else 1, pl.getD i 0⟩
theorem ofQ_len (pl ws : List Int) (k : Nat) : (ofQ pl ws k).length = pl.length := by simp [ofQ]
theorem ofQ_zero (pl ws : List Int) : ofQ pl ws 0 = ofP pl pl.length := by
  apply List.ext_getElem
  · simp [ofQ, ofP]
  · intro i h1 h2
    simp [ofQ] at h1
    simp [ofQ, ofP, List.getElem_append, h1]
theorem ofQ_set (pl ws : List Int) (k : Nat) (h : k < pl.length) : (ofQ pl ws k).set k ⟨ws.getD k 0, ((ofQ pl ws k).getD k default).At⟩ = ofQ pl ws (k + 1) := by
  apply List.ext_getElem
  · simp [ofQ]
  · intro i h1 h2
    have hi : i < pl.length := by simpa [ofQ] using h2
    by_cases e : k = i
    · subst e; simp [ofQ, h]
    · rw [List.getElem_set_ne e]
      have e2 : (i < k) = (i < k + 1) := by simp; omega
      simp [ofQ, e2]
end Go.AM
end
section
open Go Go.AM Go.Proofs
set_option maxRecDepth 10000
set_option linter.unusedVariables false
set_option linter.unusedSimpArgs false
namespace Go.AM
theorem terms_Of_w (m : Model) (op ch at_ : Int) (hc26 : (findE m op != 0) = false) (hc51 : ofBad (findS m op) ch at_ = false) (hc74 : ((findS m op).Op.Kind != 4) = true) (pl : List Int)
    (hpl : Ok Try.prog 81 [.agg (siteC (findS m op)), .int .i64 ch, .int .i64 at_] (.ro (pl.map intC))) (hpn : (findS m op).Len = (pl.length : Int)) (hps : pl.length ≤ 1048576)
    (hb0 : 0 ≤ w64 (ch - 1)) (hb1 : w64 (ch - 1) < (findS m op).Op.Bias.length) (hw0 : 0 ≤ w64 (w64 (ch - 1) * (findS m op).Len)) (hw1 : w64 (ch * (findS m op).Len) - w64 (w64 (ch - 1) * (findS m op).Len) = (findS m op).Len) (hw2 : w64 (ch * (findS m op).Len) ≤ (findS m op).Op.Weights.length) :
    Ok Try.prog 52 [.agg (modelC m), .int .i64 op, .int .i64 ch, .int .i64 at_] (.tup [.ro ((ofQ pl ((ofWs (findS m op) ch).map w64) pl.length).map termC), .int .i64 (w64 ((findS m op).Op.Bias.getD (w64 (ch - 1)).toNat default)), .int .i64 0]) := by
  have hwl : (ofWs (findS m op) ch).length = pl.length := by simp [ofWs]; omega
  refine fn_ok Tb_ok (fn := Try.f52) Try.func52 rfl rfl (e := [(0, _), (1, _), (2, _), (3, _)]) rfl (by decide) rfl ?_
  refine zs ?_
  refine zR ?_
  refine zbx [.int _ _, .int _ _, .int _ _, .int _ _, .int _ _, _, .int _ _] 7 ?_
  refine zLN ?_
  refine zLI ?_
  refine zLI ?_
  refine zn ?_
  refine zs ?_
  refine zR ?_
  refine zLG [.int _ _, .int _ _, .int _ _, .int _ _, .int _ _, _, .int _ _] ?_
  refine zLI ?_
  refine zLc (terms_find m op) ?_
  refine zLT [_, _] ?_
  refine zLG [.int _ _, .int _ _, .int _ _, .int _ _, .int _ _, .int _ _, .int _ _, .int _ _, .int _ _, .int _ _, .int _ _, .int _ _, _, _, .int _ _, .int _ _, .int _ _, .int _ _, .int _ _, .int _ _, .int _ _, .int _ _, .int _ _, .int _ _, .int _ _, .int _ _, .int _ _, .int _ _, .int _ _] ?_
  refine zLI ?_
  refine zal [.int .i64 0, .int .i64 0, .int .i64 0, .int .i64 0, .int .i64 0, .int .i64 0, .int .i64 0, .int .i64 0, .int .i64 0, .int .i64 0, .int .i64 0, .int .i64 0, .nils, .nils, .int .i64 0, .int .i64 0, .int .i64 0, .int .i64 0, .int .i64 0, .int .i64 0, .int .i64 0, .int .i64 0, .int .i64 0, .int .i64 0, .int .i64 0, .int .i64 0, .int .i64 0, .int .i64 0, .int .i64 0] 29 ?_
  refine zst (.agg [.int _ _, .int _ _, .int _ _, .int _ _, .int _ _, .int _ _, .int _ _, .int _ _, .int _ _, .int _ _, .int _ _, .int _ _, _, _, .int _ _, .int _ _, .int _ _, .int _ _, .int _ _, .int _ _, .int _ _, .int _ _, .int _ _, .int _ _, .int _ _, .int _ _, .int _ _, .int _ _, .int _ _]) [_, _, _, _, _, _, _, _, _, _, _, _, _, _, _, _, _, _, _, _, _, _, _, _, _, _, _, _, _] [[_, _, _, _, _, _, _, _, _, _, _, _, _, _, _, _, _, _, _, _, _, _, _, _, _, _, _, _, _]] ?_
  refine zLI ?_
  refine zn ?_
  refine zs ?_
  refine zs ?_
  refine zR ?_
  refine zLI ?_
  refine zLB ?_
  refine zn ?_
  refine W_cond_f (b := _) rfl (by exact hc26) ?_
  refine zk ?_
  refine zs ?_
  refine zs ?_
  refine zR ?_
  refine zLI ?_
  refine zLB ?_
  refine zLB ?_
  refine zgLI ?_
  refine zgLP ?_
  refine zgLP ?_
  refine zgLI ?_
  refine zgLB ?_
  refine zpLB ?_
  refine zLB ?_
  refine zgLI ?_
  refine zgLB ?_
  refine zpLB ?_
  refine zLB ?_
  refine zgLI ?_
  refine zgLP ?_
  refine zgLP ?_
  refine zgLI ?_
  refine zgLP ?_
  refine zgLP ?_
  refine zgLI ?_
  refine zgLI ?_
  refine zgLB ?_
  refine zpLB ?_
  refine zn ?_
  refine W_cond_f (b := _) rfl (by exact hc51) ?_
  refine zk ?_
  refine zs ?_
  refine zR ?_
  refine zLI ?_
  refine zn ?_
  refine zs ?_
  refine zR ?_
  refine zLP ?_
  refine zLI ?_
  refine L_make Tb_ok (el := 112) (sz := 2) (z := [.int .i64 0, .int .i64 0]) rfl rfl rfl rfl rfl rfl rfl rfl ⟨trivial, trivial⟩ (by (rw [hpn]; omega)) (by (rw [hpn, show (Tb.at 112).bytes = 16 from rfl]; omega)) rfl ?_
  refine zLW ?_
  refine zn ?_
  refine zs ?_
  refine zs ?_
  refine zR ?_
  refine zLG [.int _ _, .int _ _, .int _ _, .int _ _, .int _ _, .int _ _, .int _ _, .int _ _, .int _ _, .int _ _, .int _ _, .int _ _, _, _, .int _ _, .int _ _, .int _ _, .int _ _, .int _ _, .int _ _, .int _ _, .int _ _, .int _ _, .int _ _, .int _ _, .int _ _, .int _ _, .int _ _, .int _ _] ?_
  refine zLI ?_
  refine zLI ?_
  refine zLc (hpl) ?_
  refine zLI ?_
  refine zLI ?_
  refine zn ?_
  refine W_block ?_
  refine W_inv (ι := {k : Nat // k ≤ pl.length}) (fun k => ⟨[(2, .int .i64 ch), (11, .ptr 1 0 0), (13, .int .i64 0), (14, .row 2 0 (findS m op).Len.toNat), (58, .ro (pl.map intC)), (59, .int .i64 ((pl.map intC).length : Int)), (60, .int .i64 (k.1 : Int))], [(1, some ⟨121, 29, 0, [siteC (findS m op)]⟩), (2, some ⟨112, 2, 0, (ofP pl k.1).map termC⟩)], [], 3⟩) (fun k => pl.length - k.1) ⟨0, Nat.zero_le _⟩ (le_fit ⟨rfl, rfl, rfl, rfl, rfl, rfl, rfl, trivial⟩ ⟨.inr rfl, .inr ?_, trivial⟩ trivial rfl rfl rfl ?_ rfl) ?_
  · show some (Ob.mk _ _ _ (List.replicate (findS m op).Len.toNat _)) = _
    simp [ofP, hpn, termC]
  · simp [ltOB, termC, siteC, opC, shapeC, AV.lt]
  rintro ⟨k, hk⟩
  refine zs ?_
  refine zR ?_
  refine zLB ?_
  refine zn ?_
  refine zs ?_
  refine W_cond (b := _) rfl (fun h61 => ?_) (fun h61 => ?_)
  · have hlt : k < pl.length := by simpa using h61
    refine zk ?_
    refine zs ?_
    refine W_block ?_
    refine zs ?_
    refine zR ?_
    refine zLI ?_
    (refine L_v Tb_ok (v := _) (ave_index_ro rfl rfl rfl (fun _ => rfl) rfl (by first | omega | assumption | decide | (simp_all; done) | (simp_all; omega)) (by first | omega | assumption | decide | (simp_all; done) | (simp_all; omega)) trivial) rfl ?_)
    refine zLI ?_
    refine zLI ?_
    refine zLI ?_
    refine zn ?_
    refine zR ?_
    refine zLW ?_
    refine zLI ?_
    refine zLI ?_
    refine zLG [.int _ _, .int _ _] ?_
    (refine L_v Tb_ok (v := _) (ave_index_row rfl rfl rfl rfl rfl rfl (by first | omega | assumption | decide | (simp_all; done) | (simp_all; omega)) (by first | omega | assumption | decide | (simp_all; done) | (simp_all; omega)) trivial) rfl ?_)
    refine L_store_row Tb_ok (f := termC) (xs := ofP pl k) (v' := ⟨1, pl.getD k 0⟩) rfl rfl rfl rfl rfl rfl rfl rfl (by rw [ofP_len _ _ hk]; simp; omega) rfl ⟨trivial, trivial⟩ ?_
    refine zn ?_
    refine zR ?_
    refine zLI ?_
    refine zLI ?_
    refine zn ?_
    refine round_end ⟨k + 1, hlt⟩ (by dsimp only; omega) (le_fit ⟨rfl, rfl, rfl, rfl, rfl, rfl, congrArg _ (w_succ hlt (by omega)), trivial⟩ ⟨.inr rfl, .inr ?_, trivial⟩ trivial rfl rfl rfl ?_ rfl)
    · show some (Ob.mk 112 2 0 (((ofP pl k).set (0 + ((k : Nat) : Int).toNat) ⟨1, pl.getD k 0⟩).map termC)) = _
      rw [Nat.zero_add, Int.toNat_natCast, ofP_set pl k hlt]
    · simp [ltOB, termC, siteC, opC, shapeC, AV.lt]
  · have hke : k = pl.length := by simp at h61; omega
    subst hke
    refine W_exit ?_
    repeat (first | refine pass_then ?_ | refine pass_round ?_)
    refine blockQ_hit ?_
    refine zs ?_
    refine zs ?_
    refine zR ?_
    refine zLP ?_
    refine zLP ?_
    refine zLI ?_
    refine zLB ?_
    refine zn ?_
    refine W_cond_t (b := _) rfl (by exact hc74) ?_
    refine zs ?_
    refine zR ?_
    refine zLP ?_
    refine zLP ?_
    refine zLO ?_
    refine zLI ?_
    refine zLI ?_
    (refine L_v Tb_ok (v := _) (ave_index_ro rfl rfl rfl (fun _ => rfl) rfl (by first | exact hb0 | exact hb1) (by first | exact hb0 | exact hb1) trivial) rfl ?_)
    refine zLI ?_
    refine zLI ?_
    refine zLI ?_
    refine zn ?_
    refine zs ?_
    refine zR ?_
    refine zLP ?_
    refine zLP ?_
    refine zLO ?_
    refine zLI ?_
    refine zLI ?_
    refine zLP ?_
    refine zLI ?_
    refine zLI ?_
    refine zLI ?_
    refine zLP ?_
    refine zLI ?_
    refine zLI ?_
    refine L_slice Tb_ok (el := 107) (sz := 1) rfl rfl rfl rfl rfl rfl (fun c hc => by obtain ⟨x, _, rfl⟩ := List.mem_map.1 hc; rfl) (by exact hw0) (by (show w64 (w64 (ch - 1) * (findS m op).Len) ≤ w64 (ch * (findS m op).Len); omega)) (by (show w64 (ch * (findS m op).Len) ≤ ((((findS m op).Op.Weights.map i16C).length : Nat) : Int); rw [List.length_map]; exact hw2)) ⟨trivial, trivial, trivial⟩ rfl ?_
    refine zLI ?_
    refine zLI ?_
    refine zn ?_
    refine W_block ?_
    refine W_inv (ι := {k : Nat // k ≤ pl.length}) (fun k => ⟨[(13, .int .i64 (w64 ((findS m op).Op.Bias.getD (w64 (ch - 1)).toNat default))), (14, .row 2 0 (findS m op).Len.toNat), (95, .ro ((ofWs (findS m op) ch).map i16C)), (96, .int .i64 (pl.length : Int)), (97, .int .i64 (k.1 : Int))], [(2, some ⟨112, 2, 0, (ofQ pl ((ofWs (findS m op) ch).map w64) k.1).map termC⟩)], [], 3⟩) (fun k => pl.length - k.1) ⟨0, Nat.zero_le _⟩ (le_fit ⟨rfl, rfl, congrArg AV.ro ?_, congrArg (AV.int .i64) ?_, rfl, trivial⟩ ⟨.inr ?_, trivial⟩ trivial rfl rfl rfl ?_ rfl) ?_
    · simp only [ofWs, List.map_take, List.map_drop]; rfl
    · rw [← hwl]; simp only [ofWs, List.length_take, List.length_drop, List.length_map]; rfl
    · rw [ofQ_zero]; rfl
    · simp [ltOB, termC, AV.lt]
    rintro ⟨j, hj⟩
    refine zs ?_
    refine zR ?_
    refine zLB ?_
    refine zn ?_
    refine zs ?_
    refine W_cond (b := _) rfl (fun h98 => ?_) (fun h98 => ?_)
    · have hlj : j < pl.length := by simpa using h98
      refine zk ?_
      refine zs ?_
      refine W_block ?_
      refine zs ?_
      refine zR ?_
      refine zLI ?_
      (refine L_v Tb_ok (v := _) (ave_index_ro rfl rfl rfl (fun _ => rfl) rfl (by first | omega | assumption | decide | (simp_all; done) | (simp_all; omega)) (by first | omega | assumption | decide | (simp_all; done) | (simp_all; omega)) trivial) rfl ?_)
      refine zLI ?_
      refine zLI ?_
      refine zLI ?_
      refine zn ?_
      refine zR ?_
      refine zLW ?_
      refine zLI ?_
      refine zLI ?_
      refine zLI ?_
      (refine L_v Tb_ok (v := _) (ave_index_row rfl rfl rfl rfl rfl rfl (by first | omega | assumption | decide | (simp_all; done) | (simp_all; omega)) (by first | omega | assumption | decide | (simp_all; done) | (simp_all; omega)) trivial) rfl ?_)
      refine zLP ?_
      refine L_store_row Tb_ok (f := termC) (xs := ofQ pl ((ofWs (findS m op) ch).map w64) j) (v := .int _ _) (cs := [_]) (v' := ⟨((ofWs (findS m op) ch).map w64).getD j 0, ((ofQ pl ((ofWs (findS m op) ch).map w64) j).getD j default).At⟩) rfl rfl rfl rfl rfl rfl ?_ rfl ?_ rfl ⟨trivial, trivial⟩ ?_
      · have hlw : j < (ofWs (findS m op) ch).length := by omega
        simp [termC, w64, List.getD_eq_getElem?_getD, hlw]
      · rw [ofQ_len]; simp; omega
      refine zn ?_
      refine zR ?_
      refine zLI ?_
      refine zLI ?_
      refine zn ?_
      refine round_end ⟨j + 1, hlj⟩ (by dsimp only; omega) (le_fit ⟨rfl, rfl, rfl, rfl, congrArg _ (w_succ hlj (by omega)), trivial⟩ ⟨.inr ?_, trivial⟩ trivial rfl rfl rfl ?_ rfl)
      · show some (Ob.mk 112 2 0 (((ofQ pl ((ofWs (findS m op) ch).map w64) j).set (0 + ((j : Nat) : Int).toNat) ⟨((ofWs (findS m op) ch).map w64).getD j 0, ((ofQ pl ((ofWs (findS m op) ch).map w64) j).getD j default).At⟩).map termC)) = _
        rw [Nat.zero_add, Int.toNat_natCast, ofQ_set pl _ j hlj]
      · simp [ltOB, termC, AV.lt]
    · refine W_exit ?_
      repeat (first | refine pass_then ?_ | refine pass_round ?_)
      refine blockQ_hit ?_
      refine zs ?_
      refine zR ?_
      have hke : j = pl.length := by simp at h98; omega
      refine L_freeze (t := 14) (id := 2) (n := (findS m op).Len.toNat) (l := (ofQ pl ((ofWs (findS m op) ch).map w64) j).map termC) rfl rfl ?_ rfl rfl ?_ ?_ ?_
      · show _ = ((ofQ pl ((ofWs (findS m op) ch).map w64) j).map termC).length
        rw [List.length_map, ofQ_len, hpn]; rfl
      · show ((ofQ pl ((ofWs (findS m op) ch).map w64) j).map termC).map (·.map demC) = _
        simp [termC, demC]
      · simp [termC, grC]
      refine zLO ?_
      refine zLI ?_
      refine zLO ?_
      refine zLI ?_
      refine zLI ?_
      refine zn ?_
      refine zt ?_
      (refine ends (l := [.ro _, .int _ _, .int _ _]) (q := .tup [.ro _, .int _ _, .int _ _]) (.inr rfl) rfl ⟨trivial, trivial, trivial, trivial⟩ rfl rfl ?_)
      rw [hke]
end Go.AM
end
section
open Go Go.AM Go.Proofs
set_option maxRecDepth 10000
set_option linter.unusedVariables false
set_option linter.unusedSimpArgs false
namespace Go.AM
/-- nothing is given -/
theorem window_Taps1 : ItOk Try.prog 106 [] [] := by
  refine it_ok (fn := Try.f106) Try.func106 rfl (n := 2) rfl rfl rfl rfl ?_
  intro ic cc hok hxs hpin
  simp only [pinEnv, Nat.reduceAdd]
  refine V_skip ?_
  exact ⟨by first | exact .inl rfl | exact .inr rfl, .inr rfl⟩
/-- the place that a tap covers -/
def tapPlace (s : Shape) (w : Window) (top left : Int) (k : Int) : Int :=
  let y := w64 (top + w64 (k.tdiv w.KW)); let x := w64 (left + k.tmod w.KW)
  bif bif inB y 0 (w64 (s.H - 1)) then inB x 0 (w64 (s.W - 1)) else false then w64 (w64 (y * s.W) + x) else -1
def tapN (w : Window) : Nat := (w64 (w.KH * w.KW)).toNat
def tapList (s : Shape) (w : Window) (top left : Int) : List (List AV) := (List.range (tapN w)).map fun (k : Nat) => [.int .i64 (k : Int), .int .i64 (tapPlace s w top left k)]
theorem tap_get {s : Shape} {w : Window} {top left : Int} {k : Nat} {v : Int} (h : k < tapN w) (hv : tapPlace s w top left k = v) : (tapList s w top left)[k]? = some [.int .i64 (k : Int), .int .i64 v] := by
  subst hv; simp [tapList, h]
theorem window_Taps2 (s : Shape) (w : Window) (top left : Int) (h0 : w.KW ≠ 0) (h1 : 0 ≤ w64 (w.KH * w.KW)) (hB : w64 (w.KH * w.KW) ≤ 4611686018427387904) : ItOk Try.prog 107 [.rptr (windowC w), .rptr [.int .i64 top], .rptr [.int .i64 left], .rptr (shapeC s)] (tapList s w top left) := by
  have hN : w64 (w.KH * w.KW) = (tapN w : Int) := by simp only [tapN]; omega
  refine it_ok (fn := Try.f107) Try.func107 rfl (n := 54) rfl rfl rfl rfl ?_
  intro ic cc hok hxs hpin
  simp only [pinEnv, Nat.reduceAdd]
  refine V_seq ?_
  refine V_of_W ?_
  refine zR ?_
  first | (refine L_v Tb_ok (v := .ptr _ _ _) (av rfl ⟨trivial, trivial⟩) rfl ?_) | (refine L_v Tb_ok (v := .rptr _) (av rfl ⟨trivial, trivial⟩) rfl ?_)
  refine zLI ?_
  first | (refine L_v Tb_ok (v := .ptr _ _ _) (av rfl ⟨trivial, trivial⟩) rfl ?_) | (refine L_v Tb_ok (v := .rptr _) (av rfl ⟨trivial, trivial⟩) rfl ?_)
  refine zLI ?_
  refine zLI ?_
  refine zLI ?_
  refine zn ?_
  refine V_block ?_
  refine V_for (tapN w) (fun k => ⟨[(0, .yl ic.l), (1, .pin (cc 0) (.rptr (windowC w))), (2, .pin (cc 1) (.rptr [.int .i64 top])), (3, .pin (cc 2) (.rptr [.int .i64 left])), (4, .pin (cc 3) (.rptr (shapeC s))), (14, .int .i64 (w64 (w.KH * w.KW))), (15, .int .i64 (k : Int))], [], [], 100⟩) (le_env ⟨rfl, rfl, rfl, rfl, rfl, rfl, rfl, trivial⟩) ?_
  intro k hk
  refine V_seq ?_
  refine V_of_W ?_
  refine zR ?_
  refine zLB ?_
  refine zn ?_
  refine V_seq ?_
  refine V_cond (b := _) rfl (fun h16 => ?_) (fun h16 => ?_)
  · have hlt : k < tapN w := by rw [hN] at h16; simpa using h16
    refine V_skip ?_
    refine V_seq ?_
    refine V_block ?_
    refine V_seq ?_
    refine V_of_W ?_
    refine zR ?_
    refine zLI ?_
    refine zLI ?_
    refine zn ?_
    refine V_seq ?_
    refine V_of_W ?_
    refine W_draw 14 Tb_mixed rfl (by decide) (by kernel_rfl) (by kernel_rfl) ?_
    refine zEI ?_
    refine zEI ?_
    first | (refine E_v Tb_ok (v := .ptr _ _ _) (av rfl ⟨trivial, trivial⟩) rfl ?_) | (refine E_v Tb_ok (v := .rptr _) (av rfl ⟨trivial, trivial⟩) rfl ?_)
    refine zEI ?_
    refine E_v Tb_ok (v := .int _ _) (av rfl ⟨trivial, (by exact h0)⟩) rfl ?_
    refine zEI ?_
    refine zEI ?_
    refine zEI ?_
    first | (refine E_v Tb_ok (v := .ptr _ _ _) (av rfl ⟨trivial, trivial⟩) rfl ?_) | (refine E_v Tb_ok (v := .rptr _) (av rfl ⟨trivial, trivial⟩) rfl ?_)
    refine zEI ?_
    refine E_v Tb_ok (v := .int _ _) (av rfl ⟨trivial, (by exact h0)⟩) rfl ?_
    refine zEI ?_
    refine zEI ?_
    refine zEI ?_
    refine LexE_nil ?_
    refine zn ?_
    refine V_seq ?_
    refine V_of_W ?_
    refine zR ?_
    refine zLI ?_
    refine zn ?_
    refine V_seq ?_
    refine V_seq ?_
    refine V_of_W ?_
    refine zR ?_
    refine zLI ?_
    first | (refine L_v Tb_ok (v := .ptr _ _ _) (av rfl ⟨trivial, trivial⟩) rfl ?_) | (refine L_v Tb_ok (v := .rptr _) (av rfl ⟨trivial, trivial⟩) rfl ?_)
    refine zLI ?_
    refine zLI ?_
    refine zLc (within _ _ _) ?_
    refine zLB ?_
    refine zgLI ?_
    first | (refine L_g Tb_ok (v := .ptr _ _ _) rfl rfl ((fun hg => (av rfl ⟨trivial, trivial⟩))) rfl rfl ?_) | (refine L_g Tb_ok (v := .rptr _) rfl rfl ((fun hg => (av rfl ⟨trivial, trivial⟩))) rfl rfl ?_)
    refine zgLI ?_
    refine zgLI ?_
    refine L_callg (hr := fun hg => within _ _ _) rfl rfl rfl rfl rfl (fun hg => ⟨⟨(by first | exact hg | (simp_all; done) | (simp at hg ⊢; simp [hg])), True.intro⟩, ⟨⟨(by first | exact hg | (simp_all; done) | (simp at hg ⊢; simp [hg])), True.intro⟩, True.intro⟩⟩) rfl rfl ?_
    refine zpLB ?_
    refine zn ?_
    refine V_cond (b := _) rfl (fun h41 => ?_) (fun h41 => ?_)
    · have hv : tapPlace s w top left k = w64 (w64 (w64 (top + w64 ((k : Int).tdiv w.KW)) * s.W) + w64 (left + (k : Int).tmod w.KW)) := by simp only [tapPlace, w64]; rw [h41]; rfl
      refine V_of_W ?_
      refine zR ?_
      refine zLI ?_
      first | (refine L_v Tb_ok (v := .ptr _ _ _) (av rfl ⟨trivial, trivial⟩) rfl ?_) | (refine L_v Tb_ok (v := .rptr _) (av rfl ⟨trivial, trivial⟩) rfl ?_)
      refine zLI ?_
      refine zLI ?_
      refine zLI ?_
      refine zLI ?_
      refine zLI ?_
      refine zn ?_
      refine V_seq ?_
      refine V_region rfl ?_
      refine VL_pre [_, _, _] _ rfl ?_
      first | (refine L_v Tb_ok (v := .fn _ _ _) (av rfl ⟨trivial, trivial⟩) rfl ?_) | (refine L_v Tb_ok (v := .nilf) (av rfl ⟨trivial, trivial⟩) rfl ?_) | (refine L_v Tb_ok (v := .yl _) (av rfl ⟨trivial, trivial⟩) rfl ?_)
      refine zLI ?_
      refine zLI ?_
      refine zn ?_
      refine VL_yield hok rfl trivial rfl rfl trivial (by rw [hxs]; exact tap_get hlt hv) (by rw [hpin]; simp [pinsIn, pinsOf]) rfl ?_ ?_
      · refine VL_pre [_] [] rfl ?_
        refine zLB ?_
        refine zn ?_
        refine VL_nil ?_
        refine V_cond_f (b := _) rfl (by first | exact hc52 | rfl | decide | simp_all) ?_
        refine V_skip ?_
        refine V_of_W ?_
        refine zR ?_
        refine zLI ?_
        refine zLI ?_
        refine zn ?_
        refine forV_end hlt (le_fit ⟨rfl, rfl, rfl, rfl, rfl, rfl, congrArg _ (w_succ hlt (by omega)), trivial⟩ trivial trivial rfl rfl rfl rfl rfl)
      · refine VL_pre [_] [] rfl ?_
        refine zLB ?_
        refine zn ?_
        refine VL_nil ?_
        refine V_cond_t (b := _) rfl (by first | exact hc52 | rfl | decide | simp_all) ?_
        refine V_ret ?_
        exact ⟨by first | exact .inl rfl | exact .inr rfl, by first | exact .inl rfl | exact .inr (by rw [hke]; simp [tapList])⟩
    · have hv : tapPlace s w top left k = -1 := by simp only [tapPlace, w64]; rw [h41]; rfl
      refine V_skip ?_
      refine V_seq ?_
      refine V_region rfl ?_
      refine VL_pre [_, _, _] _ rfl ?_
      first | (refine L_v Tb_ok (v := .fn _ _ _) (av rfl ⟨trivial, trivial⟩) rfl ?_) | (refine L_v Tb_ok (v := .nilf) (av rfl ⟨trivial, trivial⟩) rfl ?_) | (refine L_v Tb_ok (v := .yl _) (av rfl ⟨trivial, trivial⟩) rfl ?_)
      refine zLI ?_
      refine zLI ?_
      refine zn ?_
      refine VL_yield hok rfl trivial rfl rfl trivial (by rw [hxs]; exact tap_get hlt hv) (by rw [hpin]; simp [pinsIn, pinsOf]) rfl ?_ ?_
      · refine VL_pre [_] [] rfl ?_
        refine zLB ?_
        refine zn ?_
        refine VL_nil ?_
        refine V_cond_f (b := _) rfl (by first | exact hc52 | rfl | decide | simp_all) ?_
        refine V_skip ?_
        refine V_of_W ?_
        refine zR ?_
        refine zLI ?_
        refine zLI ?_
        refine zn ?_
        refine forV_end hlt (le_fit ⟨rfl, rfl, rfl, rfl, rfl, rfl, congrArg _ (w_succ hlt (by omega)), trivial⟩ trivial trivial rfl rfl rfl rfl rfl)
      · refine VL_pre [_] [] rfl ?_
        refine zLB ?_
        refine zn ?_
        refine VL_nil ?_
        refine V_cond_t (b := _) rfl (by first | exact hc52 | rfl | decide | simp_all) ?_
        refine V_ret ?_
        exact ⟨by first | exact .inl rfl | exact .inr rfl, by first | exact .inl rfl | exact .inr (by rw [hke]; simp [tapList])⟩
  · have hke : k = tapN w := by rw [hN] at h16; simp at h16; omega
    refine V_exit ?_
    repeat (first | refine passV_then ?_ | refine passV_round ?_ | refine passV_for ?_ | refine blockV_miss rfl ?_)
    refine blockV_hit ?_
    exact ⟨by first | exact .inl rfl | exact .inr rfl, by first | exact .inl rfl | exact .inr (by rw [hke]; simp [tapList])⟩
end Go.AM
end
section
open Go Go.AM Go.Proofs
set_option maxRecDepth 10000
set_option linter.unusedVariables false
set_option linter.unusedSimpArgs false
namespace Go.AM
/-- what a tap gives, a channel after the other -/
def plRow (C first : Int) (cnt : Nat) (p : Int) : List Int := (List.range cnt).map fun (c : Nat) => bif decide (p < 0) then -1 else w64 (w64 (p * C) + (first + (c : Int)))
def plOut (s : Shape) (w : Window) (top left first : Int) (cnt k : Nat) : List Int := (List.range k).flatMap fun (i : Nat) => plRow s.C first cnt (tapPlace s w top left i)
theorem plRow_len (C first p : Int) (cnt : Nat) : (plRow C first cnt p).length = cnt := by simp [plRow]
theorem plOut_len (s : Shape) (w : Window) (top left first : Int) (cnt k : Nat) : (plOut s w top left first cnt k).length = k * cnt := by
  induction k with
  | zero => simp [plOut]
  | succ k ih =>
    have : plOut s w top left first cnt (k + 1) = plOut s w top left first cnt k ++ plRow s.C first cnt (tapPlace s w top left k) := by simp [plOut, List.range_succ]
    rw [this, List.length_append, ih, plRow_len, Nat.add_mul, Nat.one_mul]
theorem plOut_succ (s : Shape) (w : Window) (top left first : Int) (cnt k : Nat) : plOut s w top left first cnt (k + 1) = plOut s w top left first cnt k ++ plRow s.C first cnt (tapPlace s w top left k) := by simp [plOut, List.range_succ]
theorem plRow_take (C first p : Int) (cnt j : Nat) (L : List Int) (v : Int) (h : j < cnt) (hv : (bif decide (p < 0) then -1 else w64 (w64 (p * C) + (first + (j : Int)))) = v) : (L ++ (plRow C first cnt p).take j) ++ [v] = L ++ (plRow C first cnt p).take (j + 1) := by
  rw [List.append_assoc, List.take_add_one]
  congr 2
  simp [plRow, h, hv]
theorem tap_inv {s : Shape} {w : Window} {top left : Int} {k : Nat} {x : List AV} (h : (tapList s w top left)[k]? = some x) : k < tapN w ∧ x = [.int .i64 (k : Int), .int .i64 (tapPlace s w top left k)] := by
  simp only [tapList, List.getElem?_map] at h
  by_cases hk : k < tapN w
  · simp [hk] at h; exact ⟨hk, h.symm⟩
  · simp [hk] at h
def plFirst (o : MOp) (ch : Int) : Int × Int := bif o.Kind == 2 then (0, w64 (ch - 1)) else (w64 (ch - 1), w64 (ch - 1))
theorem terms_places_dense (S : Site) (ch at_ : Int) (hc17 : (S.Op.Kind == 1) = true) (hl0 : 0 ≤ S.Len) (hl : S.Len ≤ 16777216) :
    Ok Try.prog 81 [.agg (siteC S), .int .i64 ch, .int .i64 at_] (.ro (((List.range S.Len.toNat).map fun (k : Nat) => (k : Int)).map intC)) := by
  have hN : S.Len = ((S.Len.toNat : Nat) : Int) := by omega
  refine fn_ok Tb_ok (fn := Try.f81) Try.func81 rfl rfl (e := [(0, _), (1, _), (2, _)]) rfl (by decide) rfl ?_
  refine zs ?_
  refine zR ?_
  refine zbx [.int _ _, .int _ _, .int _ _, .int _ _, .int _ _, .int _ _, .int _ _, .int _ _, .int _ _, .int _ _, .int _ _, .int _ _, _, _, .int _ _, .int _ _, .int _ _, .int _ _, .int _ _, .int _ _, .int _ _, .int _ _, .int _ _, .int _ _, .int _ _, .int _ _, .int _ _, .int _ _, .int _ _] 29 ?_
  refine zLN ?_
  refine zn ?_
  refine zs ?_
  refine zR ?_
  refine zal [.nils] 1 ?_
  refine zn ?_
  refine zs ?_
  refine zs ?_
  refine zR ?_
  refine zLP ?_
  refine zLP ?_
  refine zLI ?_
  refine zLB ?_
  refine zn ?_
  refine W_cond_t (b := _) rfl (by exact hc17) ?_
  refine zs ?_
  refine zs ?_
  refine zR ?_
  refine zLP ?_
  refine zLI ?_
  refine zLI ?_
  refine zn ?_
  refine W_block ?_
  refine W_nilO (id := 1) (j := 0) (el := 3) (esz := 1) rfl rfl rfl rfl ?_
  refine W_for S.Len.toNat (fun k => ⟨[(3, .ptr 0 0 0), (7, .ptr 1 0 0), (19, .int .i64 S.Len), (20, .int .i64 (k : Int))], [(1, some ⟨116, 1, 0, [[.app 2 (((List.range k).map fun (k : Nat) => (k : Int)).map intC)]]⟩)], [(2, some (3, 1, ((List.range k).map fun (k : Nat) => (k : Int)).length))], 3⟩) (le_fit ⟨rfl, rfl, rfl, rfl, trivial⟩ ⟨.inr rfl, trivial⟩ ⟨.inr rfl, trivial⟩ rfl rfl rfl rfl rfl) ?_
  intro k hk
  have e1 : ((List.range k).map fun (k : Nat) => (k : Int)) ++ [(k : Int)] = (List.range (k + 1)).map fun (k : Nat) => (k : Int) := by simp [List.range_succ]
  refine zs ?_
  refine zR ?_
  refine zLB ?_
  refine zn ?_
  refine zs ?_
  refine W_cond (b := _) rfl (fun h21 => ?_) (fun h21 => ?_)
  · have hlt : k < S.Len.toNat := by have := of_decide_eq_true h21; omega
    refine zk ?_
    refine zs ?_
    refine W_block ?_
    refine zs ?_
    refine zR ?_
    refine zLI ?_
    refine zLI ?_
    refine zn ?_
    refine zR ?_
    refine zLA ?_
    refine zLI ?_
    refine L_build Tb_ok (t := 116) (len := 1) (el := 3) (sz := 1) (es := [[_]]) (z := [.int .i64 0]) rfl rfl rfl rfl rfl (by decide) trivial rfl rfl rfl rfl rfl ?_
    refine L_app1 Tb_ok (f := intC) (v := (k : Int)) (tok := 2) (el := 3) (sz := 1) rfl rfl rfl rfl rfl ⟨trivial, trivial⟩ (fun _ => ⟨rfl, rfl⟩) (by rw [show (Tb.at 3).bytes = 8 from rfl]; simp; omega) rfl ?_
    refine zst (.app _ _) [_] [[_]] ?_
    refine zn ?_
    refine zR ?_
    refine zLI ?_
    refine zLI ?_
    refine zn ?_
    refine for_end hlt (le_fit ⟨rfl, rfl, rfl, congrArg _ (w_succ hlt (by omega)), trivial⟩ ⟨.inr ?_, trivial⟩ ⟨.inr ?_, trivial⟩ rfl rfl rfl rfl rfl)
    · show some (Ob.mk 116 1 0 [[.app 2 ((((List.range k).map fun (k : Nat) => (k : Int)) ++ [(k : Int)]).map intC)]]) = _
      rw [e1]
    · show some (3, 1, (((List.range k).map fun (k : Nat) => (k : Int)) ++ [(k : Int)]).length) = _
      rw [e1]
  · have hke : k = S.Len.toNat := by have := of_decide_eq_false h21; omega
    refine W_exit ?_
    repeat (first | refine pass_then ?_ | refine pass_for ?_)
    refine blockQ_hit ?_
    refine zs ?_
    refine zR ?_
    refine zLA ?_
    refine zLA ?_
    refine zn ?_
    refine zt ?_
    (refine ends (l := [.app _ _]) (q := .ro _) (.inr rfl) rfl ⟨trivial, trivial⟩ rfl rfl ?_)
    rw [hke]
theorem terms_places_taps (S : Site) (ch at_ : Int) (hc17 : (S.Op.Kind == 1) = false) (hbad : tapsBad S.In S.Op.Win at_ = false) (hkw : S.Op.Win.KW ≠ 0) (hn : 0 ≤ w64 (S.Op.Win.KH * S.Op.Win.KW)) (hn2 : w64 (S.Op.Win.KH * S.Op.Win.KW) ≤ 4096) (cnt : Nat) (hcnt : cnt ≤ 4096) (f l : Int) (hf0 : 0 ≤ f) (hf1 : f ≤ 1000000) (hl : l = f + cnt - 1)
    (hX : (bif S.Op.Kind == 2 then ((0 : Int), w64 (S.In.C - 1)) else (w64 (ch - 1), w64 (ch - 1))) = (f, l)) :
    Ok Try.prog 81 [.agg (siteC S), .int .i64 ch, .int .i64 at_] (.ro ((plOut S.In S.Op.Win (tapsTop S.In S.Op.Win at_) (tapsLeft S.In S.Op.Win at_) f cnt (tapN S.Op.Win)).map intC)) := by
  have hT : tapN S.Op.Win ≤ 4096 := by simp only [tapN]; omega
  refine fn_ok Tb_ok (fn := Try.f81) Try.func81 rfl rfl (e := [(0, _), (1, _), (2, _)]) rfl (by decide) rfl ?_
  refine zs ?_
  refine zR ?_
  refine zbx [.int _ _, .int _ _, .int _ _, .int _ _, .int _ _, .int _ _, .int _ _, .int _ _, .int _ _, .int _ _, .int _ _, .int _ _, _, _, .int _ _, .int _ _, .int _ _, .int _ _, .int _ _, .int _ _, .int _ _, .int _ _, .int _ _, .int _ _, .int _ _, .int _ _, .int _ _, .int _ _, .int _ _] 29 ?_
  refine zLN ?_
  refine zn ?_
  refine zs ?_
  refine zR ?_
  refine zal [.nils] 1 ?_
  refine zn ?_
  refine zs ?_
  refine zs ?_
  refine zR ?_
  refine zLP ?_
  refine zLP ?_
  refine zLI ?_
  refine zLB ?_
  refine zn ?_
  refine W_cond_f (b := _) rfl (by exact hc17) ?_
  refine zk ?_
  refine zs ?_
  refine zR ?_
  refine zLI ?_
  refine zLI ?_
  refine zLI ?_
  refine zLI ?_
  refine zal [.int .i64 0] 1 ?_
  refine zal [.int .i64 0] 1 ?_
  refine zst (.int _ _) [_] [[_]] ?_
  refine zst (.int _ _) [_] [[_]] ?_
  refine zn ?_
  refine zs ?_
  refine zs ?_
  refine zR ?_
  refine zLP ?_
  refine zLP ?_
  refine zLI ?_
  refine zLB ?_
  refine zn ?_
  refine W_ift (b := _) (M := ⟨[(2, .int .i64 at_), (3, .ptr 0 0 0), (7, .ptr 1 0 0), (9, .ptr 2 0 0), (10, .ptr 3 0 0)], [(0, some ⟨121, 29, 0, [siteC S]⟩), (1, some ⟨116, 1, 0, [[.nils]]⟩), (2, some ⟨3, 1, 0, [[.int .i64 (bif S.Op.Kind == 2 then ((0 : Int), w64 (S.In.C - 1)) else (w64 (ch - 1), w64 (ch - 1))).1]]⟩), (3, some ⟨3, 1, 0, [[.int .i64 (bif S.Op.Kind == 2 then ((0 : Int), w64 (S.In.C - 1)) else (w64 (ch - 1), w64 (ch - 1))).2]]⟩)], [], 4⟩) (p := True) rfl (fun h36 => ?_) (fun h36 => ?_) (fun m36 => ?_)
  · refine W_drawF (fun e => [idOf (get e 9), idOf (get e 10)]) 4 [[4, 5]] Tb_mixed rfl (by decide) (by kernel_rfl) ?_
    refine zSP ?_
    refine zSP ?_
    refine zSI ?_
    refine zSI ?_
    refine S_nil ?_
    refine TT_one ?_
    refine TT_store Tb_ok (OSub_forget _ _) rfl (v := .int _ _) (cs := [_]) (es' := [[_]]) rfl rfl rfl rfl rfl rfl rfl rfl rfl rfl rfl ⟨trivial, trivial⟩ (fun ht1 => ?_)
    refine TT_store Tb_ok ht1 rfl (v := .int _ _) (cs := [_]) (es' := [[_]]) rfl rfl rfl rfl rfl rfl rfl rfl rfl rfl rfl ⟨trivial, trivial⟩ (fun ht2 => ?_)
    refine TT_nil ?_
    try clear ht2
    try clear ht1
    exact ⟨trivial, le_t (F := fun X => ⟨[(2, .int .i64 at_), (3, .ptr 0 0 0), (7, .ptr 1 0 0), (9, .ptr 2 0 0), (10, .ptr 3 0 0)], [(0, some ⟨121, 29, 0, [siteC S]⟩), (1, some ⟨116, 1, 0, [[.nils]]⟩), (2, some ⟨3, 1, 0, [[.int .i64 X.1]]⟩), (3, some ⟨3, 1, 0, [[.int .i64 X.2]]⟩)], [], 4⟩) (x := ((0 : Int), w64 (S.In.C - 1))) (y := (w64 (ch - 1), w64 (ch - 1))) h36 (le_fit ⟨rfl, rfl, rfl, rfl, rfl, trivial⟩ ⟨.inr rfl, .inr rfl, .inr rfl, .inr rfl, trivial⟩ trivial rfl rfl rfl rfl rfl)⟩
  · refine zk ?_
    exact ⟨trivial, le_f (F := fun X => ⟨[(2, .int .i64 at_), (3, .ptr 0 0 0), (7, .ptr 1 0 0), (9, .ptr 2 0 0), (10, .ptr 3 0 0)], [(0, some ⟨121, 29, 0, [siteC S]⟩), (1, some ⟨116, 1, 0, [[.nils]]⟩), (2, some ⟨3, 1, 0, [[.int .i64 X.1]]⟩), (3, some ⟨3, 1, 0, [[.int .i64 X.2]]⟩)], [], 4⟩) (x := ((0 : Int), w64 (S.In.C - 1))) (y := (w64 (ch - 1), w64 (ch - 1))) h36 (le_fit ⟨rfl, rfl, rfl, rfl, rfl, trivial⟩ ⟨.inr rfl, .inr rfl, .inr rfl, .inr rfl, trivial⟩ trivial rfl rfl rfl rfl rfl)⟩
  refine zs ?_
  refine zs ?_
  refine zR ?_
  rw [hX]
  refine zLP ?_
  refine zLG [.int _ _, .int _ _, .int _ _] ?_
  refine zLP ?_
  refine zLP ?_
  refine zLG [.int _ _, .int _ _, .int _ _, .int _ _, .int _ _, .int _ _, .int _ _, .int _ _] ?_
  refine zLI ?_
  refine zLc (window_Taps_yes S.In S.Op.Win at_ hbad) ?_
  refine zn ?_
  refine W_block ?_
  refine W_nilO (id := 1) (j := 0) (el := 3) (esz := 1) rfl rfl rfl rfl ?_
  refine W_range (xs := tapList S.In S.Op.Win (tapsTop S.In S.Op.Win at_) (tapsLeft S.In S.Op.Win at_)) rfl trivial rfl rfl (window_Taps2 _ _ _ _ hkw hn (by omega)) rfl (fun x hx => by obtain ⟨k, hk⟩ := List.getElem?_of_mem hx; rw [(tap_inv hk).2]; rfl)
    (fun k => ([(0, some ⟨121, 29, 0, [siteC S]⟩), (1, some ⟨116, 1, 0, [[.app 4 ((plOut S.In S.Op.Win (tapsTop S.In S.Op.Win at_) (tapsLeft S.In S.Op.Win at_) f cnt k).map intC)]]⟩), (2, some ⟨3, 1, 0, [[.int .i64 f]]⟩), (3, some ⟨3, 1, 0, [[.int .i64 l]]⟩)], [(4, some (3, 1, (plOut S.In S.Op.Win (tapsTop S.In S.Op.Win at_) (tapsLeft S.In S.Op.Win at_) f cnt k).length))], 5))
    (le_fit trivial ⟨.inr rfl, .inr rfl, .inr rfl, .inr rfl, trivial⟩ ⟨.inr rfl, trivial⟩ rfl rfl rfl rfl rfl) ?_ ?_
  · intro k x hx
    obtain ⟨hk, rfl⟩ := tap_inv hx
    refine zR ?_
    refine zLI ?_
    refine zn ?_
    refine W_block ?_
    refine zs ?_
    refine zR ?_
    refine zLI ?_
    refine zLI ?_
    refine zn ?_
    refine W_block ?_
    refine W_for cnt (fun j => ⟨[(3, .ptr 0 0 0), (7, .ptr 1 0 0), (9, .ptr 2 0 0), (10, .ptr 3 0 0), (12, .int .i64 (tapPlace S.In S.Op.Win (tapsTop S.In S.Op.Win at_) (tapsLeft S.In S.Op.Win at_) (k : Int))), (13, .int .i64 (f + (j : Int)))], [(0, some ⟨121, 29, 0, [siteC S]⟩), (1, some ⟨116, 1, 0, [[.app 4 ((plOut S.In S.Op.Win (tapsTop S.In S.Op.Win at_) (tapsLeft S.In S.Op.Win at_) f cnt k ++ (plRow S.In.C f cnt (tapPlace S.In S.Op.Win (tapsTop S.In S.Op.Win at_) (tapsLeft S.In S.Op.Win at_) (k : Int))).take j).map intC)]]⟩), (2, some ⟨3, 1, 0, [[.int .i64 f]]⟩), (3, some ⟨3, 1, 0, [[.int .i64 l]]⟩)], [(4, some (3, 1, (plOut S.In S.Op.Win (tapsTop S.In S.Op.Win at_) (tapsLeft S.In S.Op.Win at_) f cnt k ++ (plRow S.In.C f cnt (tapPlace S.In S.Op.Win (tapsTop S.In S.Op.Win at_) (tapsLeft S.In S.Op.Win at_) (k : Int))).take j).length))], 5⟩)
      (le_fit ⟨rfl, rfl, rfl, rfl, rfl, congrArg _ (show f = f + ((0 : Nat) : Int) by simp), trivial⟩ ⟨.inr rfl, .inr (by simp; rfl), .inr rfl, .inr rfl, trivial⟩ ⟨.inr (by simp; rfl), trivial⟩ rfl rfl rfl rfl rfl) ?_
    intro j hj
    have hlen : (plOut S.In S.Op.Win (tapsTop S.In S.Op.Win at_) (tapsLeft S.In S.Op.Win at_) f cnt k ++ (plRow S.In.C f cnt (tapPlace S.In S.Op.Win (tapsTop S.In S.Op.Win at_) (tapsLeft S.In S.Op.Win at_) (k : Int))).take j).length ≤ 33554432 := by
      have h1 := plOut_len S.In S.Op.Win (tapsTop S.In S.Op.Win at_) (tapsLeft S.In S.Op.Win at_) f cnt k
      have h2 : k * cnt ≤ 4096 * 4096 := Nat.mul_le_mul (by omega) hcnt
      rw [List.length_append, h1, List.length_take]; omega
    refine zs ?_
    refine zs ?_
    refine zR ?_
    refine zLI ?_
    refine zLI ?_
    refine zLB ?_
    refine zn ?_
    refine W_cond (b := _) rfl (fun h53 => ?_) (fun h53 => ?_)
    · have hlt : j < cnt := by have := of_decide_eq_true h53; omega
      refine zk ?_
      refine zs ?_
      refine W_block ?_
      refine zs ?_
      refine zR ?_
      refine zLI ?_
      refine zLB ?_
      refine zn ?_
      refine W_cond (b := _) rfl (fun h57 => ?_) (fun h57 => ?_)
      · have hap := plRow_take S.In.C f (tapPlace S.In S.Op.Win (tapsTop S.In S.Op.Win at_) (tapsLeft S.In S.Op.Win at_) (k : Int)) cnt j (plOut S.In S.Op.Win (tapsTop S.In S.Op.Win at_) (tapsLeft S.In S.Op.Win at_) f cnt k) (-1) hlt (by rw [h57]; rfl)
        refine zR ?_
        refine zLA ?_
        refine L_build Tb_ok (t := 116) (len := 1) (el := 3) (sz := 1) (es := [[_]]) (z := [.int .i64 0]) rfl rfl rfl rfl rfl (by decide) trivial rfl rfl rfl rfl rfl ?_
        refine L_app1 Tb_ok (f := intC) (v := -1) (tok := 4) (el := 3) (sz := 1) rfl rfl rfl rfl rfl ⟨trivial, trivial⟩ (fun _ => ⟨rfl, rfl⟩) (by rw [show (Tb.at 3).bytes = 8 from rfl]; omega) rfl ?_
        refine zst (.app _ _) [_] [[_]] ?_
        refine zn ?_
        refine zR ?_
        refine zLI ?_
        refine zLI ?_
        refine zLI ?_
        refine zn ?_
        refine for_end hlt (le_fit ⟨rfl, rfl, rfl, rfl, rfl, congrArg (AV.int .i64) (show IntKind.i64.wrap (f + (j : Int) + 1) = f + ((j + 1 : Nat) : Int) by rw [w64_id (by omega)]; omega), trivial⟩ ⟨.inr rfl, .inr ?_, .inr rfl, .inr rfl, trivial⟩ ⟨.inr ?_, trivial⟩ rfl rfl rfl rfl rfl)
        · exact congrArg (fun z => some (Ob.mk 116 1 0 [[.app 4 (List.map intC z)]])) hap
        · exact congrArg (fun z => some (3, 1, List.length z)) hap
      · have hap := plRow_take S.In.C f (tapPlace S.In S.Op.Win (tapsTop S.In S.Op.Win at_) (tapsLeft S.In S.Op.Win at_) (k : Int)) cnt j (plOut S.In S.Op.Win (tapsTop S.In S.Op.Win at_) (tapsLeft S.In S.Op.Win at_) f cnt k) _ hlt (by rw [h57, cond_false])
        refine zR ?_
        refine zLA ?_
        refine zLI ?_
        refine zLP ?_
        refine zLP ?_
        refine zLI ?_
        refine zLI ?_
        refine zLI ?_
        refine zLI ?_
        refine L_build Tb_ok (t := 116) (len := 1) (el := 3) (sz := 1) (es := [[_]]) (z := [.int .i64 0]) rfl rfl rfl rfl rfl (by decide) trivial rfl rfl rfl rfl rfl ?_
        refine L_app1 Tb_ok (f := intC) (v := w64 (w64 (_ * _) + (f + (j : Int)))) (tok := 4) (el := 3) (sz := 1) rfl rfl rfl rfl rfl ⟨trivial, trivial⟩ (fun _ => ⟨rfl, rfl⟩) (by rw [show (Tb.at 3).bytes = 8 from rfl]; omega) rfl ?_
        refine zst (.app _ _) [_] [[_]] ?_
        refine zn ?_
        refine zR ?_
        refine zLI ?_
        refine zLI ?_
        refine zLI ?_
        refine zn ?_
        refine for_end hlt (le_fit ⟨rfl, rfl, rfl, rfl, rfl, congrArg (AV.int .i64) (show IntKind.i64.wrap (f + (j : Int) + 1) = f + ((j + 1 : Nat) : Int) by rw [w64_id (by omega)]; omega), trivial⟩ ⟨.inr rfl, .inr ?_, .inr rfl, .inr rfl, trivial⟩ ⟨.inr ?_, trivial⟩ rfl rfl rfl rfl rfl)
        · exact congrArg (fun z => some (Ob.mk 116 1 0 [[.app 4 (List.map intC z)]])) hap
        · exact congrArg (fun z => some (3, 1, List.length z)) hap
    · have hje : j = cnt := by have := of_decide_eq_false h53; omega
      refine W_exit ?_
      repeat (first | refine pass_then ?_ | refine pass_for ?_)
      refine blockQ_hit ?_
      refine le_fit trivial ⟨.inr rfl, .inr ?_, .inr rfl, .inr rfl, trivial⟩ ⟨.inr ?_, trivial⟩ rfl rfl rfl rfl rfl
      · rw [hje, List.take_of_length_le (Nat.le_of_eq (plRow_len _ _ _ _))]; exact congrArg (fun z => some (Ob.mk 116 1 0 [[.app 4 (List.map intC z)]])) (plOut_succ _ _ _ _ _ _ _).symm
      · rw [hje, List.take_of_length_le (Nat.le_of_eq (plRow_len _ _ _ _))]; exact congrArg (fun z => some (3, 1, List.length z)) (plOut_succ _ _ _ _ _ _ _).symm
  refine zs ?_
  refine zR ?_
  refine zLA ?_
  refine zLA ?_
  refine zn ?_
  refine zt ?_
  (refine ends (l := [.app _ _]) (q := .ro _) (.inr rfl) rfl ⟨trivial, trivial⟩ rfl rfl ?_)
  simp [tapList]
end Go.AM
end
section
open Go Go.AM Go.Proofs
set_option maxRecDepth 10000
set_option linter.unusedVariables false
set_option linter.unusedSimpArgs false
namespace Go.AM
/-- the places of a sum's terms -/
def plOf (S : Site) (ch at_ : Int) : List Int :=
  if S.Op.Kind = 1 then (List.range S.Len.toNat).map fun (k : Nat) => (k : Int)
  else plOut S.In S.Op.Win (tapsTop S.In S.Op.Win at_) (tapsLeft S.In S.Op.Win at_) (if S.Op.Kind = 2 then 0 else ch - 1) (if S.Op.Kind = 2 then S.In.C.toNat else 1) (tapN S.Op.Win)
theorem taps_win {S : Site} (hS : SiteOk S) (hk : S.Op.Kind ≠ 1) : w64 (S.Op.Win.KH * S.Op.Win.KW) = S.Op.Win.KH * S.Op.Win.KW ∧ 1 ≤ S.Op.Win.KH * S.Op.Win.KW ∧ S.Op.Win.KH * S.Op.Win.KW ≤ 1024 := by
  have W := windowB_iff (hS.win hk).1
  have a0 := Int.mul_le_mul W.1.1 W.2.1.1 (by omega) (by omega)
  have a2 : S.Op.Win.KH * S.Op.Win.KW ≤ 32 * 32 := Int.mul_le_mul W.1.2 W.2.1.2 (by omega) (by omega)
  exact ⟨w64_id (by omega), by omega, by omega⟩
theorem out_pos {S : Site} (hS : SiteOk S) : w64 (S.Out.H * S.Out.W) = S.Out.H * S.Out.W ∧ 1 ≤ S.Out.H * S.Out.W ∧ S.Out.H * S.Out.W ≤ 1048576 := by
  have B := shapeB_iff.1 hS.outB
  have a0 := Int.mul_le_mul B.1.1 B.2.1.1 (by omega) (by omega)
  have a2 : S.Out.H * S.Out.W ≤ 1024 * 1024 := Int.mul_le_mul B.1.2 B.2.1.2 (by omega) (by omega)
  exact ⟨w64_id (by omega), by omega, by omega⟩
theorem ofBad_iff {S : Site} {ch at_ : Int} (hS : SiteOk S) : ofBad S ch at_ = false ↔ (1 ≤ ch ∧ ch ≤ S.Out.C) ∧ 0 ≤ at_ ∧ at_ < S.Out.H * S.Out.W := by
  obtain ⟨h1, h2, h3⟩ := out_pos hS
  unfold ofBad; rw [h1]
  by_cases a : ch < 1 <;> by_cases b : ch > S.Out.C <;> by_cases c : at_ < 0 <;> by_cases d : at_ ≥ S.Out.H * S.Out.W <;> simp [a, b, c, d] <;> omega
theorem plOf_len {S : Site} (hS : SiteOk S) (ch at_ : Int) : (plOf S ch at_).length = S.Len.toNat := by
  unfold plOf
  split
  · simp
  · rename_i hk
    obtain ⟨h1, h2, h3⟩ := taps_win hS hk
    rw [plOut_len]
    unfold tapN
    rw [h1]
    split
    · rename_i k2
      have B := shapeB_iff.1 hS.inB
      rw [hS.len2 k2, ← Int.toNat_mul (by omega) (by omega)]
    · rw [hS.len3 (by have := hS.kind; omega)]; omega
theorem taps_good {S : Site} {at_ : Int} (hS : SiteOk S) (hk : S.Op.Kind ≠ 1) (h0 : 0 ≤ at_) (h1 : at_ < S.Out.H * S.Out.W) : tapsBad S.In S.Op.Win at_ = false := by
  obtain ⟨_, w2, w3, w4⟩ := hS.win hk
  obtain ⟨o1, o2, o3⟩ := out_pos hS
  unfold tapsBad
  rw [← w3, ← w4, o1, w2]
  have a : ¬ at_ < 0 := by omega
  have b : ¬ at_ ≥ S.Out.H * S.Out.W := by omega
  simp [a, b]
theorem terms_places {S : Site} {ch at_ : Int} (hS : SiteOk S) (hch : 1 ≤ ch ∧ ch ≤ S.Out.C) (hat : 0 ≤ at_ ∧ at_ < S.Out.H * S.Out.W) : Ok Try.prog 81 [.agg (siteC S), .int .i64 ch, .int .i64 at_] (.ro ((plOf S ch at_).map intC)) := by
  unfold plOf
  have B := shapeB_iff.1 hS.inB
  have O := shapeB_iff.1 hS.outB
  split
  · rename_i k1
    exact terms_places_dense S ch at_ (by simp [k1]) (by have := hS.len; omega) (by have := hS.len; omega)
  · rename_i k1
    obtain ⟨h1, h2, h3⟩ := taps_win hS k1
    have W := windowB_iff (hS.win k1).1
    have e1 : w64 (ch - 1) = ch - 1 := w64_id (by omega)
    have e2 : w64 (S.In.C - 1) = S.In.C - 1 := w64_id (by omega)
    have base := terms_places_taps S ch at_ (by simpa using k1) (taps_good hS k1 hat.1 hat.2) (by omega) (by omega) (by omega)
    by_cases k2 : S.Op.Kind = 2
    · rw [if_pos k2, if_pos k2]
      exact base S.In.C.toNat (by omega) 0 (S.In.C - 1) (by omega) (by omega) (by omega) (by rw [e1, e2, k2]; rfl)
    · rw [if_neg k2, if_neg k2]
      have hk : (S.Op.Kind == 2) = false := by simpa using k2
      exact base 1 (by omega) (ch - 1) (ch - 1) (by omega) (by omega) (by omega) (by rw [e1, e2, hk]; rfl)
/-- what Of answers -/
def termsF (m : Model) (op ch at_ : Int) : List Term :=
  if findE m op = 0 then if ofBad (findS m op) ch at_ then [] else if (findS m op).Op.Kind = 4 then ofP (plOf (findS m op) ch at_) (plOf (findS m op) ch at_).length else ofQ (plOf (findS m op) ch at_) ((ofWs (findS m op) ch).map w64) (plOf (findS m op) ch at_).length else []
def biasF (m : Model) (op ch at_ : Int) : Int :=
  if findE m op = 0 then if ofBad (findS m op) ch at_ then 0 else if (findS m op).Op.Kind = 4 then 0 else w64 ((findS m op).Op.Bias.getD (w64 (ch - 1)).toNat default) else 0
def ofE (m : Model) (op ch at_ : Int) : Int := if findE m op = 0 then if ofBad (findS m op) ch at_ then 3 else 0 else findE m op
theorem ofE_op {m : Model} {op ch at_ : Int} (h : ofE m op ch at_ = 0) : findE m op = 0 ∧ ofBad (findS m op) ch at_ = false ∧ w64 (op - 1) = op - 1 ∧ 0 ≤ op - 1 ∧ op - 1 < m.Ops.length ∧ m.Ops.length ≤ 64 := by
  unfold ofE at h
  split at h
  · rename_i h0
    split at h
    · omega
    · rename_i hb
      obtain ⟨_, ⟨h1, h2⟩, _, he, _⟩ := site_ok h0
      have := (whole_ok he).1
      exact ⟨h0, by simpa using hb, w64_id (by omega), by omega, by omega, this⟩
  · contradiction
theorem ofE_bad {m : Model} {op ch at_ : Int} (h : ofE m op ch at_ ≠ 0) : termsF m op ch at_ = [] ∧ biasF m op ch at_ = 0 := by
  unfold ofE at h
  unfold termsF biasF
  split at h
  · rename_i h0
    split at h
    · rename_i hb; rw [if_pos h0, if_pos h0, if_pos hb, if_pos hb]; exact ⟨rfl, rfl⟩
    · omega
  · rename_i h0; rw [if_neg h0, if_neg h0]; exact ⟨rfl, rfl⟩
theorem termsF_len (m : Model) (op ch at_ : Int) : (termsF m op ch at_).length ≤ 512 := by
  unfold termsF
  split
  · rename_i h0
    obtain ⟨hS, _⟩ := site_ok h0
    have hl := plOf_len hS ch at_
    have := hS.len
    split
    · simp
    · split
      · rw [ofP_len _ _ (Nat.le_refl _)]; omega
      · rw [ofQ_len]; omega
  · simp
theorem of_weights {S : Site} {ch : Int} (hS : SiteOk S) (hk : S.Op.Kind ≠ 4) (hch : 1 ≤ ch ∧ ch ≤ S.Out.C) : w64 (ch - 1) = ch - 1 ∧ w64 ((ch - 1) * S.Len) = (ch - 1) * S.Len ∧ w64 (ch * S.Len) = ch * S.Len ∧ 0 ≤ (ch - 1) * S.Len ∧ ch * S.Len - (ch - 1) * S.Len = S.Len ∧ ch * S.Len ≤ S.Op.Weights.length ∧ ch - 1 < S.Op.Bias.length := by
  have O := shapeB_iff.1 hS.outB
  have hl := hS.len
  have a0 : 0 ≤ (ch - 1) * S.Len := Int.mul_nonneg (by omega) (by omega)
  have a1 : (ch - 1) * S.Len ≤ 1024 * 512 := Int.mul_le_mul (by omega) hl.2 (by omega) (by omega)
  have b0 : 0 ≤ ch * S.Len := Int.mul_nonneg (by omega) (by omega)
  have b1 : ch * S.Len ≤ 1024 * 512 := Int.mul_le_mul (by omega) hl.2 (by omega) (by omega)
  refine ⟨w64_id (by omega), w64_id (by omega), w64_id (by omega), a0, by rw [Int.sub_mul]; omega, ?_, ?_⟩
  · rw [hS.wl hk]; exact Int.mul_le_mul_of_nonneg_right hch.2 (by omega)
  · rw [hS.bl hk]; omega
theorem terms_Of (m : Model) (op ch at_ : Int) : Ok Try.prog 52 [.agg (modelC m), .int .i64 op, .int .i64 ch, .int .i64 at_] (.tup [.ro ((termsF m op ch at_).map termC), .int .i64 (biasF m op ch at_), .int .i64 (ofE m op ch at_)]) := by
  by_cases h0 : findE m op = 0
  · obtain ⟨hS, _⟩ := site_ok h0
    have hf : (findE m op != 0) = false := by simp [h0]
    cases hb : ofBad (findS m op) ch at_ with
    | true =>
      have := terms_Of_bad m op ch at_ (.inr ⟨hf, hb⟩)
      simpa [termsF, biasF, ofE, h0, hb] using this
    | false =>
      obtain ⟨hch, hat⟩ := (ofBad_iff hS).1 hb
      have hl := plOf_len hS ch at_
      have hl2 := hS.len
      by_cases k4 : (findS m op).Op.Kind = 4
      · have := terms_Of_pl m op ch at_ hf hb (by simp [k4]) (plOf (findS m op) ch at_) (terms_places hS hch hat) (by omega) (by omega)
        simpa [termsF, biasF, ofE, h0, hb, k4] using this
      · obtain ⟨w1, w2, w3, w4, w5, w6, w7⟩ := of_weights hS k4 hch
        have := terms_Of_w m op ch at_ hf hb (by simp [k4]) (plOf (findS m op) ch at_) (terms_places hS hch hat) (by omega) (by omega) (by rw [w1]; omega) (by rw [w1]; exact w7) (by rw [w1, w2]; exact w4) (by rw [w3, w1, w2]; exact w5) (by rw [w3]; exact w6)
        simpa [termsF, biasF, ofE, h0, hb, k4] using this
  · have := terms_Of_bad m op ch at_ (.inl (by simp [h0]))
    simpa [termsF, biasF, ofE, h0] using this
end Go.AM
end
section
open Go Go.AM Go.Proofs
set_option maxRecDepth 10000
set_option linter.unusedVariables false
set_option linter.unusedSimpArgs false
namespace Go.AM
def mx (a b : Int) : Int := if b > a then b else a
def mn (a b : Int) : Int := if b < a then b else a
def upF (l : List Term) : Int := l.foldl (fun s t => w64 (s + mx t.W 0)) 0
def downF (l : List Term) : Int := l.foldl (fun s t => w64 (s + mn t.W 0)) 0
theorem foldl_take {α β : Type} [Inhabited α] (f : β → α → β) (b : β) (l : List α) (k : Nat) (h : k < l.length) : (l.take (k + 1)).foldl f b = f ((l.take k).foldl f b) (l.getD k default) := by
  rw [List.take_add_one, List.foldl_append]
  simp [List.getD_eq_getElem?_getD, h]
theorem upF_succ {l : List Term} {k : Nat} (h : k < l.length) : IntKind.i64.wrap (upF (l.take k) + (if 0 > (l.getD ((k : Int)).toNat default).W then 0 else (l.getD ((k : Int)).toNat default).W)) = upF (l.take (k + 1)) := by
  rw [Int.toNat_natCast]
  unfold upF
  rw [foldl_take _ _ _ _ h]
  rfl
theorem downF_succ {l : List Term} {k : Nat} (h : k < l.length) : IntKind.i64.wrap (downF (l.take k) + (if 0 < (l.getD ((k : Int)).toNat default).W then 0 else (l.getD ((k : Int)).toNat default).W)) = downF (l.take (k + 1)) := by
  rw [Int.toNat_natCast]
  unfold downF
  rw [foldl_take _ _ _ _ h]
  rfl
def qBad (s : Span) : Bool := bif bif decide (s.Lo < -128) then true else decide (s.Lo > s.Hi) then true else decide (s.Hi > 127)
def qOp (m : Model) (op : Int) : MOp := m.Ops.getD (w64 (op - 1)).toNat default
def qPads (w : Window) : Bool := decide (mx (mx (mx w.Top w.Left) w.Bottom) w.Right > 0)
def qReach1 (s : Span) : Int := mx (mx (mx (w64 (0 - s.Lo)) s.Hi) (w64 (0 - s.Hi))) s.Lo
def qReach (o : MOp) (s : Span) : Int := bif qPads o.Win then mx (mx (qReach1 s) o.Pad) (w64 (0 - o.Pad)) else qReach1 s
def qD (m : Model) (op ch : Int) (s : Span) : Int := w64 (qReach (qOp m op) s * w64 (upF (termsF m op ch 0) - downF (termsF m op ch 0)))
def quickE (m : Model) (op ch : Int) (s : Span) : Int := if ofE m op ch 0 = 0 then if qBad s then 30 else 0 else ofE m op ch 0
def quickS (m : Model) (op ch : Int) (s : Span) : Span := if ofE m op ch 0 = 0 then if qBad s then ⟨0, 0⟩ else ⟨w64 (biasF m op ch 0 - qD m op ch s), w64 (biasF m op ch 0 + qD m op ch s)⟩ else ⟨0, 0⟩
end Go.AM
end
section
open Go Go.AM
set_option linter.unusedVariables false
set_option linter.unusedSimpArgs false
namespace Go.AM
theorem mx_eq (a b : Int) : mx a b = max a b := by unfold mx; split <;> omega
theorem mn_eq (a b : Int) : mn a b = min a b := by unfold mn; split <;> omega
theorem up_go (l : List Term) (h : ∀ t ∈ l, -32768 ≤ t.W ∧ t.W ≤ 32767) : ∀ (s : Int), 0 ≤ s → s + 32767 * l.length ≤ 4611686018427387904 → s ≤ l.foldl (fun s t => w64 (s + mx t.W 0)) s ∧ l.foldl (fun s t => w64 (s + mx t.W 0)) s ≤ s + 32767 * l.length := by
  induction l with
  | nil => intro s _ _; simp
  | cons t r ih =>
    intro s hs hb
    have ht := h t (by simp)
    rw [List.foldl_cons]
    have hl : ((t :: r).length : Int) = r.length + 1 := by simp
    rw [hl] at hb ⊢
    have hm : 0 ≤ mx t.W 0 ∧ mx t.W 0 ≤ 32767 := by rw [mx_eq]; omega
    have e : w64 (s + mx t.W 0) = s + mx t.W 0 := w64_id (by omega)
    rw [e]
    have := ih (fun u hu => h u (by simp [hu])) (s + mx t.W 0) (by omega) (by omega)
    omega
theorem down_go (l : List Term) (h : ∀ t ∈ l, -32768 ≤ t.W ∧ t.W ≤ 32767) : ∀ (s : Int), s ≤ 0 → -4611686018427387904 ≤ s - 32768 * l.length → l.foldl (fun s t => w64 (s + mn t.W 0)) s ≤ s ∧ s - 32768 * l.length ≤ l.foldl (fun s t => w64 (s + mn t.W 0)) s := by
  induction l with
  | nil => intro s _ _; simp
  | cons t r ih =>
    intro s hs hb
    have ht := h t (by simp)
    rw [List.foldl_cons]
    have hl : ((t :: r).length : Int) = r.length + 1 := by simp
    rw [hl] at hb ⊢
    have hm : mn t.W 0 ≤ 0 ∧ -32768 ≤ mn t.W 0 := by rw [mn_eq]; omega
    have e : w64 (s + mn t.W 0) = s + mn t.W 0 := w64_id (by omega)
    rw [e]
    have := ih (fun u hu => h u (by simp [hu])) (s + mn t.W 0) (by omega) (by omega)
    omega
theorem getD_mem {α : Type} {l : List α} {i : Nat} {d : α} {p : α → Prop} (h : ∀ x ∈ l, p x) (hd : p d) : p (l.getD i d) := by
  rw [List.getD_eq_getElem?_getD]
  cases hq : l[i]? with
  | none => exact hd
  | some x => exact h x (List.mem_of_getElem? hq)
theorem op_wf {m : Model} (hm : m.Wf) (i : Nat) : ((m.Ops.getD i default).Weights.all fun w => decide (-32768 ≤ w ∧ w ≤ 32767)) = true ∧ ((m.Ops.getD i default).Bias.all fun w => decide (-2147483648 ≤ w ∧ w ≤ 2147483647)) = true := by
  refine getD_mem (p := fun o : MOp => (o.Weights.all fun w => decide (-32768 ≤ w ∧ w ≤ 32767)) = true ∧ (o.Bias.all fun w => decide (-2147483648 ≤ w ∧ w ≤ 2147483647)) = true) (fun o ho => ?_) ⟨rfl, rfl⟩
  obtain ⟨_, _, _, _, _, h1, h2, _⟩ := hm.2.2.2.1.2 o ho
  exact ⟨List.all_eq_true.2 (fun w hw => decide_eq_true (I16.iff.1 (h1.2 w hw))), List.all_eq_true.2 (fun w hw => decide_eq_true (I32.iff.1 (h2.2 w hw)))⟩
theorem termsF_W {m : Model} (hm : m.Wf) (op ch at_ : Int) : ∀ t ∈ termsF m op ch at_, -32768 ≤ t.W ∧ t.W ≤ 32767 := by
  intro t ht
  unfold termsF at ht
  split at ht
  · rename_i h0
    obtain ⟨hS, _, hop, _⟩ := site_ok h0
    split at ht
    · simp at ht
    · split at ht
      · simp only [ofP, List.take_length, Nat.sub_self, List.replicate_zero, List.append_nil] at ht
        obtain ⟨p, _, rfl⟩ := List.mem_map.1 ht
        dsimp only; omega
      · simp only [ofQ] at ht
        obtain ⟨i, _, rfl⟩ := List.mem_map.1 ht
        dsimp only
        split
        · refine getD_mem (p := fun w : Int => -32768 ≤ w ∧ w ≤ 32767) (fun x hx => ?_) (by omega)
          obtain ⟨y, hy, rfl⟩ := List.mem_map.1 hx
          have hy' : y ∈ (findS m op).Op.Weights := List.mem_of_mem_drop (List.mem_of_mem_take hy)
          rw [hop] at hy'
          have := of_decide_eq_true (List.all_eq_true.1 (op_wf hm _).1 y hy')
          show -32768 ≤ w64 y ∧ w64 y ≤ 32767
          rw [show w64 y = y from w64_id (by omega)]; exact this
        · omega
  · simp at ht
theorem biasF_bd {m : Model} (hm : m.Wf) (op ch at_ : Int) : -2147483648 ≤ biasF m op ch at_ ∧ biasF m op ch at_ ≤ 2147483647 := by
  unfold biasF
  split
  · rename_i h0
    obtain ⟨hS, _, hop, _⟩ := site_ok h0
    split
    · omega
    · split
      · omega
      · rw [hop]
        have := getD_mem (i := (w64 (ch - 1)).toNat) (d := default) (p := fun w : Int => -2147483648 ≤ w ∧ w ≤ 2147483647) (fun x hx => of_decide_eq_true (List.all_eq_true.1 (op_wf hm (op - 1).toNat).2 x hx)) (by show -2147483648 ≤ (0 : Int) ∧ (0 : Int) ≤ 2147483647; omega)
        rw [show w64 _ = _ from w64_id (by omega)]; exact this
  · omega
theorem sums_ok {m : Model} (hm : m.Wf) (op ch at_ : Int) : (0 ≤ upF (termsF m op ch at_) ∧ upF (termsF m op ch at_) ≤ 16777216) ∧ (downF (termsF m op ch at_) ≤ 0 ∧ -16777216 ≤ downF (termsF m op ch at_)) ∧ w64 (upF (termsF m op ch at_) - downF (termsF m op ch at_)) = upF (termsF m op ch at_) - downF (termsF m op ch at_) := by
  have hl := termsF_len m op ch at_
  have hW := termsF_W hm op ch at_
  have h1 := up_go _ hW 0 (by omega) (by omega)
  have h2 := down_go _ hW 0 (by omega) (by omega)
  change 0 ≤ upF _ ∧ upF _ ≤ _ at h1
  change downF _ ≤ 0 ∧ _ ≤ downF _ at h2
  refine ⟨by omega, by omega, w64_id (by omega)⟩
theorem bytesB4 {a b c d : Int} (h : bytesB [a, b, c, d] = true) : (-128 ≤ a ∧ a ≤ 127) ∧ (-128 ≤ b ∧ b ≤ 127) ∧ (-128 ≤ c ∧ c ≤ 127) ∧ (-128 ≤ d ∧ d ≤ 127) := by
  simp [bytesB, inB] at h; omega
theorem pad_bd {S : Site} (hS : SiteOk S) : (-128 ≤ S.Op.Pad ∧ S.Op.Pad ≤ 127) ∧ (-128 ≤ S.Op.Lo ∧ S.Op.Lo ≤ 127) ∧ (-128 ≤ S.Op.Hi ∧ S.Op.Hi ≤ 127) ∧ (-128 ≤ S.Op.Zero ∧ S.Op.Zero ≤ 127) ∧ S.Op.Lo ≤ S.Op.Hi := by
  have h := hS.rng
  unfold op10 at h
  cases hb : bytesB [S.Op.Lo, S.Op.Hi, S.Op.Zero, S.Op.Pad] with
  | false => rw [hb] at h; simp at h
  | true =>
    rw [hb] at h
    obtain ⟨h1, h2, h3, h4⟩ := bytesB4 hb
    simp at h
    exact ⟨h4, h1, h2, h3, h⟩
def reachV (o : MOp) (s : Span) : Int := if qPads o.Win = true then max (max (max (-s.Lo) s.Hi) (max (-s.Hi) s.Lo)) (max o.Pad (-o.Pad)) else max (max (-s.Lo) s.Hi) (max (-s.Hi) s.Lo)
theorem qBad_iff {s : Span} : qBad s = false ↔ -128 ≤ s.Lo ∧ s.Lo ≤ s.Hi ∧ s.Hi ≤ 127 := by
  unfold qBad
  by_cases a : s.Lo < -128 <;> by_cases b : s.Lo > s.Hi <;> by_cases c : s.Hi > 127 <;> simp [a, b, c] <;> omega
theorem qReach_eq {o : MOp} {s : Span} (hs : -128 ≤ s.Lo ∧ s.Lo ≤ s.Hi ∧ s.Hi ≤ 127) (hp : -128 ≤ o.Pad ∧ o.Pad ≤ 127) : qReach o s = reachV o s ∧ 0 ≤ reachV o s ∧ reachV o s ≤ 128 := by
  have e1 : w64 (0 - s.Lo) = -s.Lo := by rw [show w64 _ = _ from w64_id (by omega)]; omega
  have e2 : w64 (0 - s.Hi) = -s.Hi := by rw [show w64 _ = _ from w64_id (by omega)]; omega
  have e3 : w64 (0 - o.Pad) = -o.Pad := by rw [show w64 _ = _ from w64_id (by omega)]; omega
  unfold qReach reachV qReach1
  rw [e1, e2, e3]
  simp only [mx_eq]
  cases qPads o.Win <;> simp <;> omega
/-- Quick, in plain numbers -/
theorem quick_ok {m : Model} (hm : m.Wf) {op ch : Int} {s : Span} (h : quickE m op ch s = 0) :
    ofE m op ch 0 = 0 ∧ (-128 ≤ s.Lo ∧ s.Lo ≤ s.Hi ∧ s.Hi ≤ 127) ∧ (0 ≤ reachV (findS m op).Op s ∧ reachV (findS m op).Op s ≤ 128) ∧ quickS m op ch s = ⟨biasF m op ch 0 - reachV (findS m op).Op s * (upF (termsF m op ch 0) - downF (termsF m op ch 0)), biasF m op ch 0 + reachV (findS m op).Op s * (upF (termsF m op ch 0) - downF (termsF m op ch 0))⟩ := by
  unfold quickE at h
  split at h
  · rename_i h0
    split at h
    · omega
    · rename_i hb
      have hs := qBad_iff.1 (by simpa using hb)
      obtain ⟨f0, _, o1, o2, o3, _⟩ := ofE_op h0
      obtain ⟨hS, _, hop, _⟩ := site_ok f0
      have hq : qOp m op = (findS m op).Op := by rw [hop]; unfold qOp; rw [o1]
      obtain ⟨r1, r2, r3⟩ := qReach_eq (o := (findS m op).Op) hs (pad_bd hS).1
      obtain ⟨s1, s2, s3⟩ := sums_ok hm op ch 0
      have hb2 := biasF_bd hm op ch 0
      refine ⟨h0, hs, ⟨r2, r3⟩, ?_⟩
      have d0 : 0 ≤ reachV (findS m op).Op s * (upF (termsF m op ch 0) - downF (termsF m op ch 0)) := Int.mul_nonneg r2 (by omega)
      have d1 : reachV (findS m op).Op s * (upF (termsF m op ch 0) - downF (termsF m op ch 0)) ≤ 128 * 33554432 := Int.mul_le_mul r3 (by omega) (by omega) (by omega)
      have hd : qD m op ch s = reachV (findS m op).Op s * (upF (termsF m op ch 0) - downF (termsF m op ch 0)) := by
        unfold qD
        rw [hq, r1, s3]
        exact w64_id (by omega)
      unfold quickS
      rw [if_pos h0, if_neg hb, hd, show w64 (biasF m op ch 0 - _) = _ from w64_id (by omega), show w64 (biasF m op ch 0 + _) = _ from w64_id (by omega)]
  · contradiction
theorem reach_mono {o : MOp} {s y : Span} (h1 : y.Lo ≤ s.Lo) (h2 : s.Hi ≤ y.Hi) (hs : s.Lo ≤ s.Hi) : reachV o s ≤ reachV o y := by
  unfold reachV; split <;> omega
end Go.AM
end
section
open Go Go.AM Go.Proofs
set_option maxRecDepth 10000
set_option linter.unusedVariables false
set_option linter.unusedSimpArgs false
namespace Go.AM
theorem m64_and (z : Int) : IntKind.u64.wrap ((BitVec.ofInt IntKind.u64.bits z &&& BitVec.ofInt IntKind.u64.bits 4294967295).toNat : Int) = z % 4294967296 := by
  have e : ((BitVec.ofInt IntKind.u64.bits z &&& BitVec.ofInt IntKind.u64.bits 4294967295).toNat) = ((z % 18446744073709551616).toNat) % 4294967296 := by
    rw [BitVec.toNat_and, BitVec.toNat_ofInt, BitVec.toNat_ofInt]
    show (z % 18446744073709551616).toNat &&& 4294967295 = _
    exact Nat.and_two_pow_sub_one_eq_mod _ 32
  rw [e, IntKind.wrap_u64]; omega
theorem m64_shr32 (z : Int) : z.fdiv (2 ^ (min (32 : Int).toNat IntKind.u64.bits)) = z / 4294967296 := Int.fdiv_eq_ediv_of_nonneg z (by decide)
theorem m64_shr63 (z : Int) : z.fdiv (2 ^ (min (63 : Int).toNat IntKind.i64.bits)) = z / 9223372036854775808 := Int.fdiv_eq_ediv_of_nonneg z (by decide)
theorem bits_Mul64 (x y : Int) (hx : 0 ≤ x ∧ x < 18446744073709551616) (hy : 0 ≤ y ∧ y < 18446744073709551616) : Ok Try.prog 111 [.int .u64 x, .int .u64 y] (.tup [.int .u64 (x * y / 18446744073709551616), .int .u64 (x * y % 18446744073709551616)]) := by
  refine fn_ok Tb_ok (fn := Try.f111) Try.func111 rfl rfl (e := [(0, _), (1, _)]) rfl (by decide) rfl ?_
  refine zs ?_
  refine zR ?_
  refine zLI ?_
  refine zLI ?_
  refine zn ?_
  refine zs ?_
  refine zR ?_
  refine zLI ?_
  refine zLI ?_
  refine zLI ?_
  refine zn ?_
  refine zs ?_
  refine zR ?_
  refine zLI ?_
  refine L_v Tb_ok (v := .int _ _) (av rfl ⟨trivial, (by omega)⟩) rfl ?_
  refine zLI ?_
  refine zn ?_
  refine zs ?_
  refine zR ?_
  refine zLI ?_
  refine zLI ?_
  refine zLI ?_
  refine zn ?_
  refine zs ?_
  refine zR ?_
  refine zLI ?_
  refine L_v Tb_ok (v := .int _ _) (av rfl ⟨trivial, (by omega)⟩) rfl ?_
  refine zLI ?_
  refine zn ?_
  refine zs ?_
  refine zR ?_
  refine zLI ?_
  refine zLI ?_
  refine zLI ?_
  refine zLI ?_
  refine zn ?_
  refine zs ?_
  refine zR ?_
  refine zLI ?_
  refine zLI ?_
  refine zLI ?_
  refine zLI ?_
  refine L_v Tb_ok (v := .int _ _) (av rfl ⟨trivial, (by omega)⟩) rfl ?_
  refine zLI ?_
  refine zLI ?_
  refine zn ?_
  refine zs ?_
  refine zR ?_
  refine zLI ?_
  refine zLI ?_
  refine zLI ?_
  refine zn ?_
  refine zs ?_
  refine zR ?_
  refine zLI ?_
  refine L_v Tb_ok (v := .int _ _) (av rfl ⟨trivial, (by omega)⟩) rfl ?_
  refine zLI ?_
  refine zn ?_
  refine zs ?_
  refine zR ?_
  refine zLI ?_
  refine zLI ?_
  refine zLI ?_
  refine zLI ?_
  refine zLI ?_
  refine zLI ?_
  refine zn ?_
  refine zs ?_
  refine zR ?_
  refine zLI ?_
  refine zLI ?_
  refine zLI ?_
  refine zLI ?_
  refine zLI ?_
  refine zLI ?_
  refine L_v Tb_ok (v := .int _ _) (av rfl ⟨trivial, (by omega)⟩) rfl ?_
  refine zLI ?_
  refine zLI ?_
  refine zn ?_
  refine zs ?_
  refine zR ?_
  refine zLI ?_
  refine zLI ?_
  refine zLI ?_
  refine zLI ?_
  refine zn ?_
  refine zt ?_
  refine ends (l := [.int _ _, .int _ _]) (q := .tup [.int _ _, .int _ _]) (.inr rfl) rfl ⟨trivial, trivial, trivial⟩ rfl rfl ?_
  simp only [m64_and, m64_shr32]
  have h := mul64_arith x y hx.1 hx.2 hy.1 hy.2
  simp only [IntKind.wrap_u64]
  rw [h]
theorem num_Mul (a b : Int) (ha : -2147483648 ≤ a ∧ a ≤ 2147483647) (hb : -2147483648 ≤ b ∧ b ≤ 2147483647) : Ok Try.prog 95 [.int .i64 a, .int .i64 b] (.tup [.int .i64 (a * b), .int .i64 0]) := by
  have hp : -4611686018427387904 ≤ a * b ∧ a * b ≤ 4611686018427387904 := by
    have h := Nat.mul_le_mul (show a.natAbs ≤ 2147483648 by omega) (show b.natAbs ≤ 2147483648 by omega)
    rw [← Int.natAbs_mul] at h; omega
  have hM := bits_Mul64 (IntKind.u64.wrap a) (IntKind.u64.wrap b) (by rw [IntKind.wrap_u64]; omega) (by rw [IntKind.wrap_u64]; omega)
  obtain ⟨s1, q1⟩ : ∃ s, (a < 0 ∧ s = 1) ∨ (¬ a < 0 ∧ s = 0) := by by_cases c : a < 0 <;> simp [c]
  obtain ⟨s2, q2⟩ : ∃ s, (b < 0 ∧ s = 1) ∨ (¬ b < 0 ∧ s = 0) := by by_cases c : b < 0 <;> simp [c]
  have hA : IntKind.u64.wrap a = a + s1 * 18446744073709551616 := by rw [IntKind.wrap_u64]; omega
  have hB : IntKind.u64.wrap b = b + s2 * 18446744073709551616 := by rw [IntKind.wrap_u64]; omega
  have hAB : IntKind.u64.wrap a * IntKind.u64.wrap b = a * b + (s2 * a + s1 * b + s1 * s2 * 18446744073709551616) * 18446744073709551616 := by rw [hA, hB]; grind
  rw [hAB] at hM
  generalize a * b = p at *
  have k1 : s1 * b = if a < 0 then b else 0 := by rcases q1 with ⟨c, e⟩ | ⟨c, e⟩ <;> simp [c, e]
  have k2 : s2 * a = if b < 0 then a else 0 := by rcases q2 with ⟨c, e⟩ | ⟨c, e⟩ <;> simp [c, e]
  generalize s1 * s2 = s3 at *
  rw [k1, k2] at hM
  --@@1
  skip
  refine fn_ok Tb_ok (fn := Try.f95) Try.func95 rfl rfl (e := [(0, _), (1, _)]) rfl (by decide) rfl ?_
  refine zs ?_
  refine zR ?_
  refine zLI ?_
  refine zLI ?_
  refine zn ?_
  refine zs ?_
  refine zR ?_
  refine zLI ?_
  refine zLI ?_
  refine zLI ?_
  refine zLI ?_
  refine zLc (hM) ?_
  refine zLT [_, _] ?_
  refine zLI ?_
  refine zLI ?_
  refine zLI ?_
  refine zLI ?_
  refine zn ?_
  refine zs ?_
  refine zR ?_
  refine zLI ?_
  refine zLI ?_
  refine zLI ?_
  refine zn ?_
  refine zs ?_
  refine zs ?_
  refine zR ?_
  refine zLI ?_
  refine zLB ?_
  refine zn ?_
  refine W_cond (b := _) rfl (fun h20 => ?_) (fun h20 => ?_)
  · have n20 : a < 0 := by simpa using h20
    refine zR ?_
    refine zLI ?_
    refine zLI ?_
    refine zLI ?_
    refine zLI ?_
    refine zn ?_
    refine zs ?_
    refine zs ?_
    refine zR ?_
    refine zLI ?_
    refine zLB ?_
    refine zn ?_
    refine W_cond (b := _) rfl (fun h25 => ?_) (fun h25 => ?_)
    · have n25 : b < 0 := by simpa using h25
      refine zR ?_
      refine zLI ?_
      refine zLI ?_
      refine zLI ?_
      refine zLI ?_
      refine zn ?_
      refine zs ?_
      refine zs ?_
      refine zR ?_
      refine zLI ?_
      refine zLI ?_
      refine zLI ?_
      refine L_v Tb_ok (v := .int _ _) (av rfl ⟨trivial, (by omega)⟩) rfl ?_
      refine zLB ?_
      refine zn ?_
      refine W_cond (b := _) rfl (fun h33 => ?_) (fun h33 => ?_)
      · exfalso
        apply bne_iff_ne.1 h33
        simp only [n20, n25, if_true, if_false, IntKind.wrap_i64, m64_shr63]
        omega
      · refine zk ?_
        refine zs ?_
        refine zR ?_
        refine zLI ?_
        refine zLI ?_
        refine zLI ?_
        refine zLI ?_
        refine zn ?_
        refine zt ?_
        refine ends (l := [.int _ _, .int _ _]) (q := .tup [.int _ _, .int _ _]) (.inr rfl) rfl ⟨trivial, trivial, trivial⟩ rfl rfl ?_
        simp only [IntKind.wrap_i64]; congr 3; omega
    · have n25 : ¬ b < 0 := by simpa using h25
      refine zk ?_
      refine zs ?_
      refine zs ?_
      refine zR ?_
      refine zLI ?_
      refine zLI ?_
      refine zLI ?_
      refine L_v Tb_ok (v := .int _ _) (av rfl ⟨trivial, (by omega)⟩) rfl ?_
      refine zLB ?_
      refine zn ?_
      refine W_cond (b := _) rfl (fun h33_1 => ?_) (fun h33_1 => ?_)
      · exfalso
        apply bne_iff_ne.1 h33_1
        simp only [n20, n25, if_true, if_false, IntKind.wrap_i64, m64_shr63]
        omega
      · refine zk ?_
        refine zs ?_
        refine zR ?_
        refine zLI ?_
        refine zLI ?_
        refine zLI ?_
        refine zLI ?_
        refine zn ?_
        refine zt ?_
        refine ends (l := [.int _ _, .int _ _]) (q := .tup [.int _ _, .int _ _]) (.inr rfl) rfl ⟨trivial, trivial, trivial⟩ rfl rfl ?_
        simp only [IntKind.wrap_i64]; congr 3; omega
  · have n20 : ¬ a < 0 := by simpa using h20
    refine zk ?_
    refine zs ?_
    refine zs ?_
    refine zR ?_
    refine zLI ?_
    refine zLB ?_
    refine zn ?_
    refine W_cond (b := _) rfl (fun h25_1 => ?_) (fun h25_1 => ?_)
    · have n25 : b < 0 := by simpa using h25_1
      refine zR ?_
      refine zLI ?_
      refine zLI ?_
      refine zLI ?_
      refine zLI ?_
      refine zn ?_
      refine zs ?_
      refine zs ?_
      refine zR ?_
      refine zLI ?_
      refine zLI ?_
      refine zLI ?_
      refine L_v Tb_ok (v := .int _ _) (av rfl ⟨trivial, (by omega)⟩) rfl ?_
      refine zLB ?_
      refine zn ?_
      refine W_cond (b := _) rfl (fun h33_2 => ?_) (fun h33_2 => ?_)
      · exfalso
        apply bne_iff_ne.1 h33_2
        simp only [n20, n25, if_true, if_false, IntKind.wrap_i64, m64_shr63]
        omega
      · refine zk ?_
        refine zs ?_
        refine zR ?_
        refine zLI ?_
        refine zLI ?_
        refine zLI ?_
        refine zLI ?_
        refine zn ?_
        refine zt ?_
        refine ends (l := [.int _ _, .int _ _]) (q := .tup [.int _ _, .int _ _]) (.inr rfl) rfl ⟨trivial, trivial, trivial⟩ rfl rfl ?_
        simp only [IntKind.wrap_i64]; congr 3; omega
    · have n25 : ¬ b < 0 := by simpa using h25_1
      refine zk ?_
      refine zs ?_
      refine zs ?_
      refine zR ?_
      refine zLI ?_
      refine zLI ?_
      refine zLI ?_
      refine L_v Tb_ok (v := .int _ _) (av rfl ⟨trivial, (by omega)⟩) rfl ?_
      refine zLB ?_
      refine zn ?_
      refine W_cond (b := _) rfl (fun h33_3 => ?_) (fun h33_3 => ?_)
      · exfalso
        apply bne_iff_ne.1 h33_3
        simp only [n20, n25, if_true, if_false, IntKind.wrap_i64, m64_shr63]
        omega
      · refine zk ?_
        refine zs ?_
        refine zR ?_
        refine zLI ?_
        refine zLI ?_
        refine zLI ?_
        refine zLI ?_
        refine zn ?_
        refine zt ?_
        refine ends (l := [.int _ _, .int _ _]) (q := .tup [.int _ _, .int _ _]) (.inr rfl) rfl ⟨trivial, trivial, trivial⟩ rfl rfl ?_
        simp only [IntKind.wrap_i64]; congr 3; omega
theorem span_pair (a b : Int) : Ok Try.prog 96 [.int .i64 a, .int .i64 0, .int .i64 b, .int .i64 0] (.tup [.agg [.int .i64 a, .int .i64 b], .int .i64 0]) := by
  refine fn_ok Tb_ok (fn := Try.f96) Try.func96 rfl rfl (e := [(0, _), (1, _), (2, _), (3, _)]) rfl (by decide) rfl ?_
  refine zs ?_
  refine zR ?_
  refine zal [.int .i64 0, .int .i64 0] 2 ?_
  refine zLI ?_
  refine zn ?_
  refine zs ?_
  refine zs ?_
  refine zR ?_
  refine zLI ?_
  refine zLB ?_
  refine zn ?_
  refine W_cond_f (b := _) rfl (by rfl) ?_
  refine zk ?_
  refine zs ?_
  refine zs ?_
  refine zR ?_
  refine zLI ?_
  refine zLB ?_
  refine zn ?_
  refine W_cond_f (b := _) rfl (by rfl) ?_
  refine zk ?_
  refine zs ?_
  refine zR ?_
  refine zLI ?_
  refine zLI ?_
  refine zLG [.int _ _, .int _ _] ?_
  refine zst (.agg [.int _ _, .int _ _]) [_, _] [[_, _]] ?_
  refine zLI ?_
  refine zn ?_
  refine zt ?_
  refine ends (l := [.agg [.int _ _, .int _ _], .int _ _]) (q := .tup [.agg [.int _ _, .int _ _], .int _ _]) (.inr rfl) rfl ⟨rfl, trivial, trivial⟩ rfl rfl ?_
  rfl
theorem span_Valid (s : Span) : Ok Try.prog 69 [.agg (spanC s)] (.bool (decide (s.Lo ≤ s.Hi))) := by
  refine fn_ok Tb_ok (fn := Try.f69) Try.func69 rfl rfl (e := [(0, _)]) rfl (by decide) rfl ?_
  refine zs ?_
  refine zR ?_
  refine zbx [.int _ _, .int _ _] 2 ?_
  refine zLB ?_
  refine zn ?_
  refine zs ?_
  refine zR ?_
  refine zLP ?_
  refine zLI ?_
  refine zLP ?_
  refine zLI ?_
  refine zLB ?_
  refine zLB ?_
  refine zn ?_
  refine zt ?_
  refine ends (l := [.bool _]) (q := .bool _) (.inr rfl) rfl ⟨trivial, trivial⟩ rfl rfl ?_
  rfl
def holdsF (a b : Span) : Bool := decide (b.Lo ≤ b.Hi ∧ a.Lo ≤ b.Lo ∧ b.Hi ≤ a.Hi)
theorem span_Holds (a b : Span) : Ok Try.prog 33 [.agg (spanC a), .agg (spanC b)] (.bool (holdsF a b)) := by
  refine fn_ok Tb_ok (fn := Try.f33) Try.func33 rfl rfl (e := [(0, _), (1, _)]) rfl (by decide) rfl ?_
  refine zs ?_
  refine zR ?_
  refine zbx [.int _ _, .int _ _] 2 ?_
  refine zbx [.int _ _, .int _ _] 2 ?_
  refine zLB ?_
  refine zn ?_
  refine zs ?_
  refine zR ?_
  refine zLG [.int _ _, .int _ _] ?_
  refine zLc (span_Valid b) ?_
  refine zLB ?_
  refine zgLP ?_
  refine zgLI ?_
  refine zgLP ?_
  refine zgLI ?_
  refine zgLB ?_
  refine zpLB ?_
  refine zLB ?_
  refine zgLP ?_
  refine zgLI ?_
  refine zgLP ?_
  refine zgLI ?_
  refine zgLB ?_
  refine zpLB ?_
  refine zLB ?_
  refine zn ?_
  refine zt ?_
  refine ends (l := [.bool _]) (q := .bool _) (.inr rfl) rfl ⟨trivial, trivial⟩ rfl rfl ?_
  by_cases c : b.Lo ≤ b.Hi <;> by_cases d : a.Lo ≤ b.Lo <;> simp [holdsF, c, d]
def hasF (s : Span) (x : Int) : Bool := decide (s.Lo ≤ x ∧ x ≤ s.Hi)
/-- a span's product with a number -/
def tmS (s : Span) (w : Int) : Span := if w < 0 then ⟨s.Hi * w, s.Lo * w⟩ else ⟨s.Lo * w, s.Hi * w⟩
theorem span_Times (s : Span) (w : Int) (hs : s.Lo ≤ s.Hi) (h0 : -2147483648 ≤ s.Lo ∧ s.Hi ≤ 2147483647) (hw : -2147483648 ≤ w ∧ w ≤ 2147483647) : Ok Try.prog 84 [.agg (spanC s), .int .i64 w] (.tup [.agg (spanC (tmS s w)), .int .i64 0]) := by
  have hv : Ok Try.prog 69 [.agg (spanC s)] (.bool true) := by have := span_Valid s; rwa [decide_eq_true hs] at this
  have m1 := num_Mul s.Lo w (by omega) hw
  have m2 := num_Mul s.Hi w (by omega) hw
  --@@2
  skip
  refine fn_ok Tb_ok (fn := Try.f84) Try.func84 rfl rfl (e := [(0, _), (1, _)]) rfl (by decide) rfl ?_
  refine zs ?_
  refine zR ?_
  refine zbx [.int _ _, .int _ _] 2 ?_
  refine zal [.int .i64 0, .int .i64 0] 2 ?_
  refine zLI ?_
  refine zn ?_
  refine zs ?_
  refine zs ?_
  refine zR ?_
  refine zLG [.int _ _, .int _ _] ?_
  refine zLc (hv) ?_
  refine zLB ?_
  refine zn ?_
  refine W_cond_f (b := _) rfl (by rfl) ?_
  refine zk ?_
  refine zs ?_
  refine zs ?_
  refine zR ?_
  refine zLI ?_
  refine zLB ?_
  refine zn ?_
  refine W_cond (b := _) rfl (fun h15 => ?_) (fun h15 => ?_)
  · refine zR ?_
    refine zLP ?_
    refine zLI ?_
    refine zLP ?_
    refine zLI ?_
    refine zLP ?_
    refine zst (.int _ _) [_] [[_, _]] ?_
    refine zLP ?_
    refine zst (.int _ _) [_] [[_, _]] ?_
    refine zn ?_
    refine zs ?_
    refine zR ?_
    refine zLP ?_
    refine zLI ?_
    refine zLI ?_
    refine zLc (by exact m2) ?_
    refine zLT [_, _] ?_
    refine zLI ?_
    refine zLI ?_
    refine zLI ?_
    refine zLI ?_
    refine zn ?_
    refine zs ?_
    refine zR ?_
    refine zLP ?_
    refine zLI ?_
    refine zLI ?_
    refine zLc (by exact m1) ?_
    refine zLT [_, _] ?_
    refine zLI ?_
    refine zLI ?_
    refine zLI ?_
    refine zLI ?_
    refine zn ?_
    refine zs ?_
    refine zR ?_
    refine zLI ?_
    refine zLI ?_
    refine zLI ?_
    refine zLI ?_
    refine zLc (span_pair _ _) ?_
    refine zLG [.int _ _, .int _ _] ?_
    refine zLI ?_
    refine zst (.agg [.int _ _, .int _ _]) [_, _] [[_, _]] ?_
    refine zLI ?_
    refine zn ?_
    refine zt ?_
    refine ends (l := [.agg [.int _ _, .int _ _], .int _ _]) (q := .tup [.agg [.int _ _, .int _ _], .int _ _]) (.inr rfl) rfl ⟨rfl, trivial, trivial⟩ rfl rfl ?_
    have c : w < 0 := by simpa using h15
    rw [tmS, if_pos c]; rfl
  · refine zk ?_
    refine zs ?_
    refine zR ?_
    refine zLP ?_
    refine zLI ?_
    refine zLI ?_
    refine zLc (by exact m1) ?_
    refine zLT [_, _] ?_
    refine zLI ?_
    refine zLI ?_
    refine zLI ?_
    refine zLI ?_
    refine zn ?_
    refine zs ?_
    refine zR ?_
    refine zLP ?_
    refine zLI ?_
    refine zLI ?_
    refine zLc (by exact m2) ?_
    refine zLT [_, _] ?_
    refine zLI ?_
    refine zLI ?_
    refine zLI ?_
    refine zLI ?_
    refine zn ?_
    refine zs ?_
    refine zR ?_
    refine zLI ?_
    refine zLI ?_
    refine zLI ?_
    refine zLI ?_
    refine zLc (span_pair _ _) ?_
    refine zLG [.int _ _, .int _ _] ?_
    refine zLI ?_
    refine zst (.agg [.int _ _, .int _ _]) [_, _] [[_, _]] ?_
    refine zLI ?_
    refine zn ?_
    refine zt ?_
    refine ends (l := [.agg [.int _ _, .int _ _], .int _ _]) (q := .tup [.agg [.int _ _, .int _ _], .int _ _]) (.inr rfl) rfl ⟨rfl, trivial, trivial⟩ rfl rfl ?_
    have c : ¬ w < 0 := by simpa using h15
    rw [tmS, if_neg c]; rfl
end Go.AM
end
section
open Go Go.AM
set_option linter.unusedVariables false
set_option linter.unusedSimpArgs false
namespace Go.AM
theorem plOut_flat (s : Shape) (w : Window) (top left first : Int) (cnt : Nat) (hc : 0 < cnt) : ∀ n, plOut s w top left first cnt n = (List.range (n * cnt)).map fun i => bif decide (tapPlace s w top left ((i / cnt : Nat) : Int) < 0) then -1 else w64 (w64 (tapPlace s w top left ((i / cnt : Nat) : Int) * s.C) + (first + ((i % cnt : Nat) : Int)))
  | 0 => by simp [plOut]
  | n + 1 => by
    rw [plOut_succ, plOut_flat s w top left first cnt hc n, Nat.add_mul, Nat.one_mul, List.range_add, List.map_append, List.map_map]
    congr 1
    unfold plRow
    apply List.map_congr_left
    intro c hcm
    have hlt : c < cnt := List.mem_range.1 hcm
    have e1 : (n * cnt + c) / cnt = n := by rw [Nat.mul_comm, Nat.mul_add_div hc, Nat.div_eq_of_lt hlt, Nat.add_zero]
    have e2 : (n * cnt + c) % cnt = c := by rw [Nat.mul_comm, Nat.mul_add_mod, Nat.mod_eq_of_lt hlt]
    simp only [Function.comp, e1, e2]
def wtF (S : Site) (ch : Int) (i : Nat) : Int := if S.Op.Kind = 4 then 1 else w64 (S.Op.Weights.getD (w64 (w64 (w64 (ch - 1) * S.Len) + i)).toNat default)
def tapAt (S : Site) (at_ : Int) (k : Nat) : Int := tapPlace S.In S.Op.Win (tapsTop S.In S.Op.Win at_) (tapsLeft S.In S.Op.Win at_) k
def atF (S : Site) (ch at_ : Int) (i : Nat) : Int :=
  if S.Op.Kind = 1 then i else if S.Op.Kind = 2 then (if tapAt S at_ (i / S.In.C.toNat) < 0 then -1 else w64 (w64 (tapAt S at_ (i / S.In.C.toNat) * S.In.C) + ((i % S.In.C.toNat : Nat) : Int))) else (if tapAt S at_ i < 0 then -1 else w64 (w64 (tapAt S at_ i * S.In.C) + (ch - 1)))
theorem cond_ite {α : Type} {p : Prop} [Decidable p] {a b : α} : (bif decide p then a else b) = if p then a else b := by by_cases h : p <;> simp [h]
theorem plOf_get {S : Site} (hS : SiteOk S) (ch at_ : Int) {i : Nat} (hi : i < S.Len.toNat) : (plOf S ch at_).getD i 0 = atF S ch at_ i := by
  have B := shapeB_iff.1 hS.inB
  have hl := plOf_len hS ch at_
  unfold plOf at hl ⊢
  unfold atF tapAt
  by_cases k1 : S.Op.Kind = 1
  · rw [if_pos k1, if_pos k1]; simp [hi]
  · rw [if_neg k1, if_neg k1]
    rw [if_neg k1] at hl
    by_cases k2 : S.Op.Kind = 2
    · simp only [if_pos k2] at hl ⊢
      rw [plOut_flat _ _ _ _ _ _ (by omega)] at hl ⊢
      simp only [List.length_map, List.length_range] at hl
      rw [List.getD_eq_getElem?_getD, List.getElem?_map, List.getElem?_range (by omega)]
      simp only [Option.map_some, Option.getD_some, cond_ite, Int.zero_add]
    · simp only [if_neg k2] at hl ⊢
      rw [plOut_flat _ _ _ _ _ _ (by omega)] at hl ⊢
      simp only [List.length_map, List.length_range] at hl
      rw [List.getD_eq_getElem?_getD, List.getElem?_map, List.getElem?_range (by omega)]
      simp only [Option.map_some, Option.getD_some, cond_ite, Nat.div_one, Nat.mod_one, Int.natCast_zero, Int.add_zero]
/-- the terms of a sum -/
def tlF (S : Site) (ch at_ : Int) : List Term := if S.Op.Kind = 4 then ofP (plOf S ch at_) (plOf S ch at_).length else ofQ (plOf S ch at_) ((ofWs S ch).map w64) (plOf S ch at_).length
theorem tlF_len {S : Site} (hS : SiteOk S) (ch at_ : Int) : (tlF S ch at_).length = S.Len.toNat := by
  unfold tlF
  split
  · rw [ofP_len _ _ (Nat.le_refl _), plOf_len hS]
  · rw [ofQ_len, plOf_len hS]
theorem tlF_get {S : Site} (hS : SiteOk S) {ch : Int} (hch : 1 ≤ ch ∧ ch ≤ S.Out.C) (at_ : Int) {i : Nat} (hi : i < S.Len.toNat) : (tlF S ch at_).getD i default = ⟨wtF S ch i, atF S ch at_ i⟩ := by
  have hl := plOf_len hS ch at_
  have hg := plOf_get hS ch at_ hi
  have hlen := hS.len
  unfold tlF wtF
  split
  · rename_i k4
    rw [ofP, List.take_length, Nat.sub_self, List.replicate_zero, List.append_nil, List.getD_eq_getElem?_getD, List.getElem?_map]
    rw [List.getD_eq_getElem?_getD] at hg
    rw [List.getElem?_eq_getElem (by omega)] at hg ⊢
    simp only [Option.map_some, Option.getD_some] at hg ⊢
    rw [hg]
  · rename_i k4
    obtain ⟨w1, w2, w3, w4, w5, w6, w7⟩ := of_weights hS k4 hch
    have O := shapeB_iff.1 hS.outB
    have b2 : ch * S.Len ≤ 1024 * 512 := Int.mul_le_mul (by omega) hlen.2 (by omega) (by omega)
    have e : w64 (w64 (w64 (ch - 1) * S.Len) + (i : Int)) = (ch - 1) * S.Len + i := by rw [w1, w2]; exact w64_id (by omega)
    rw [ofQ, List.getD_eq_getElem?_getD, List.getElem?_map, List.getElem?_range (by omega)]
    simp only [Option.map_some, Option.getD_some]
    rw [if_pos (by omega), hg, e]
    congr 1
    unfold ofWs
    rw [w1, w2, w3, List.getD_eq_getElem?_getD, List.getD_eq_getElem?_getD, List.getElem?_map, List.getElem?_take, if_pos (by omega), List.getElem?_drop]
    have e2 : ((ch - 1) * S.Len).toNat + i = ((ch - 1) * S.Len + (i : Int)).toNat := by omega
    rw [e2]
    have hlt : ((ch - 1) * S.Len + (i : Int)).toNat < S.Op.Weights.length := by omega
    rw [List.getElem?_eq_getElem hlt]; rfl
theorem termsF_eq {m : Model} {op ch at_ : Int} (h0 : findE m op = 0) (hb : ofBad (findS m op) ch at_ = false) : termsF m op ch at_ = tlF (findS m op) ch at_ := by
  simp [termsF, h0, hb, tlF]
end Go.AM
end
section
open Go Go.AM Go.Proofs
set_option maxRecDepth 10000
set_option linter.unusedVariables false
set_option linter.unusedSimpArgs false
namespace Go.AM
/-- how often a window of k fits, by steps -/
def cntN (n k step : Int) : Nat := if n < k then 0 else ((n - k) / step).toNat + 1
theorem cnt_lt {n k step : Int} {j : Nat} (hs : 1 ≤ step) : ((j : Int) * step + k ≤ n) ↔ j < cntN n k step := by
  unfold cntN
  by_cases h : n < k
  · rw [if_pos h]
    have : 0 ≤ (j : Int) * step := Int.mul_nonneg (by omega) (by omega)
    omega
  · rw [if_neg h]
    have h0 : 0 ≤ (n - k) / step := Int.ediv_nonneg (by omega) (by omega)
    have key : (j : Int) ≤ (n - k) / step ↔ (j : Int) * step ≤ n - k := Int.le_ediv_iff_mul_le (by omega)
    omega
theorem cnt_le {n k step : Int} (hs : 1 ≤ step) (hk : 0 ≤ k) (hn : n ≤ 100000) : cntN n k step ≤ 100001 := by
  unfold cntN
  split
  · omega
  · have : (n - k) / step ≤ n - k := by
      rcases Int.lt_or_le (n - k) 0 with h | h
      · omega
      · exact Int.ediv_le_self step h
    omega
theorem ref06_count (n k step : Int) (hk : 0 ≤ k ∧ k ≤ 32) (hs : 1 ≤ step ∧ step ≤ 32) (hn : 0 ≤ n ∧ n ≤ 100000) : Ok Try.prog 110 [.int .i64 n, .int .i64 k, .int .i64 step] (.int .i64 (cntN n k step : Int)) := by
  have hN := cnt_le (n := n) (k := k) (step := step) hs.1 hk.1 hn.2
  refine fn_ok Tb_ok (fn := Try.f110) Try.func110 rfl rfl (e := [(0, _), (1, _), (2, _)]) rfl (by decide) rfl ?_
  refine zs ?_
  refine zR ?_
  refine zLI ?_
  refine zn ?_
  refine zs ?_
  refine zR ?_
  refine zLI ?_
  refine zn ?_
  refine zs ?_
  refine zs ?_
  refine zR ?_
  refine zLI ?_
  refine zn ?_
  refine W_block ?_
  refine W_for (cntN n k step) (fun j => ⟨[(0, .int .i64 n), (1, .int .i64 k), (2, .int .i64 step), (7, .int .i64 (j : Int)), (8, .int .i64 ((j : Int) * step))], [], [], 0⟩) (le_fit ⟨rfl, rfl, rfl, rfl, congrArg (AV.int .i64) (show (0 : Int) = ((0 : Nat) : Int) * step by simp), trivial⟩ trivial trivial rfl rfl rfl rfl rfl) ?_
  intro j hj
  have b0 : 0 ≤ (j : Int) * step := Int.mul_nonneg (by omega) (by omega)
  have b1 : (j : Int) * step ≤ 100001 * 32 := Int.mul_le_mul (by omega) hs.2 (by omega) (by omega)
  have w1 : IntKind.i64.wrap ((j : Int) * step + k) = (j : Int) * step + k := w64_id (by omega)
  have w2 : IntKind.i64.wrap ((j : Int) * step + step) = ((j + 1 : Nat) : Int) * step := by rw [w64_id (by omega)]; rw [Int.natCast_add, Int.add_mul]; omega
  refine zs ?_
  refine zs ?_
  refine zR ?_
  refine zLI ?_
  refine zLI ?_
  refine zLI ?_
  refine zLI ?_
  refine zLB ?_
  refine zn ?_
  refine W_cond (b := _) rfl (fun h13 => ?_) (fun h13 => ?_)
  · have hlt : j < cntN n k step := by rw [w1] at h13; exact (cnt_lt hs.1).1 (of_decide_eq_true h13)
    refine zk ?_
    refine zs ?_
    refine W_block ?_
    refine zR ?_
    refine zLI ?_
    refine zLI ?_
    refine zLI ?_
    refine zn ?_
    refine zR ?_
    refine zLI ?_
    refine zLI ?_
    refine zLI ?_
    refine zLI ?_
    refine zn ?_
    refine for_end hlt (le_fit ⟨rfl, rfl, rfl, congrArg _ (w_succ hlt (by omega)), congrArg (AV.int .i64) w2, trivial⟩ trivial trivial rfl rfl rfl rfl rfl)
  · have hje : j = cntN n k step := by rw [w1] at h13; have := mt (cnt_lt hs.1).2 (of_decide_eq_false h13); omega
    refine W_exit ?_
    repeat (first | refine pass_then ?_ | refine pass_for ?_)
    refine blockQ_hit ?_
    refine zs ?_
    refine zR ?_
    refine zLI ?_
    refine zLI ?_
    refine zn ?_
    refine zt ?_
    refine ends (l := [.int _ _]) (q := .int _ _) (.inr rfl) rfl ⟨trivial, trivial⟩ rfl rfl ?_
    rw [hje]
theorem cnt_out {n k step : Int} (hs : 1 ≤ step) (hk : 0 ≤ k) (hn : n ≤ 100000) : (cntN n k step : Int) = if n - k < 0 then 0 else w64 (w64 ((n - k).tdiv step) + 1) := by
  unfold cntN
  by_cases h : n < k
  · rw [if_pos h, if_pos (by omega)]; rfl
  · rw [if_neg h, if_neg (by omega), Int.tdiv_eq_ediv_of_nonneg (by omega)]
    have h0 : 0 ≤ (n - k) / step := Int.ediv_nonneg (by omega) (by omega)
    have h1 : (n - k) / step ≤ n - k := Int.ediv_le_self step (by omega)
    rw [show w64 ((n - k) / step) = (n - k) / step from w64_id (by omega), show w64 _ = _ from w64_id (by omega)]
    omega
theorem ref06_Out (s : Shape) (w : Window) : Ok Try.prog 94 [.agg (shapeC s), .agg (windowC w)] (.tup [.int .i64 (outH s w), .int .i64 (outW s w), .int .i64 (outE s w)]) := by
  cases hs : shapeB s with
  | false =>
    have hc11 : (!shapeB s) = true := by simp [hs]
    --@@1
    skip
    refine fn_ok Tb_ok (fn := Try.f94) Try.func94 rfl rfl (e := [(0, _), (1, _)]) rfl (by decide) rfl ?_
    refine zs ?_
    refine zR ?_
    refine zbx [.int _ _, .int _ _, .int _ _] 3 ?_
    refine zbx [.int _ _, .int _ _, .int _ _, .int _ _, .int _ _, .int _ _, .int _ _, .int _ _] 8 ?_
    refine zLI ?_
    refine zLI ?_
    refine zLI ?_
    refine zn ?_
    refine zs ?_
    refine zs ?_
    refine zR ?_
    refine zLG [.int _ _, .int _ _, .int _ _] ?_
    refine zLc (ref05_Valid s) ?_
    refine zLB ?_
    refine zn ?_
    refine W_cond_t (b := _) rfl (by exact hc11) ?_
    refine zs ?_
    refine zR ?_
    refine zLI ?_
    refine zLI ?_
    refine zLI ?_
    refine zn ?_
    refine zt ?_
    refine ends (l := [.int _ _, .int _ _, .int _ _]) (q := .tup [.int _ _, .int _ _, .int _ _]) (.inr rfl) rfl ⟨trivial, trivial, trivial, trivial⟩ rfl rfl ?_
    simp [outH, outW, outE, hs]
  | true =>
    have hc11 : (!shapeB s) = false := by simp [hs]
    cases hw : windowB w with
    | false =>
      have hc14 : (!windowB w) = true := by simp [hw]
      --@@2
      skip
      refine fn_ok Tb_ok (fn := Try.f94) Try.func94 rfl rfl (e := [(0, _), (1, _)]) rfl (by decide) rfl ?_
      refine zs ?_
      refine zR ?_
      refine zbx [.int _ _, .int _ _, .int _ _] 3 ?_
      refine zbx [.int _ _, .int _ _, .int _ _, .int _ _, .int _ _, .int _ _, .int _ _, .int _ _] 8 ?_
      refine zLI ?_
      refine zLI ?_
      refine zLI ?_
      refine zn ?_
      refine zs ?_
      refine zs ?_
      refine zR ?_
      refine zLG [.int _ _, .int _ _, .int _ _] ?_
      refine zLc (ref05_Valid s) ?_
      refine zLB ?_
      refine zn ?_
      refine W_cond_f (b := _) rfl (by exact hc11) ?_
      refine zk ?_
      refine zs ?_
      refine zs ?_
      refine zR ?_
      refine zLG [.int _ _, .int _ _, .int _ _, .int _ _, .int _ _, .int _ _, .int _ _, .int _ _] ?_
      refine zLc (ref06_Valid w) ?_
      refine zLB ?_
      refine zn ?_
      refine W_cond_t (b := _) rfl (by exact hc14) ?_
      refine zs ?_
      refine zR ?_
      refine zLI ?_
      refine zLI ?_
      refine zLI ?_
      refine zn ?_
      refine zt ?_
      refine ends (l := [.int _ _, .int _ _, .int _ _]) (q := .tup [.int _ _, .int _ _, .int _ _]) (.inr rfl) rfl ⟨trivial, trivial, trivial, trivial⟩ rfl rfl ?_
      simp [outH, outW, outE, hs, hw]
    | true =>
      have hc14 : (!windowB w) = false := by simp [hw]
      have B := shapeB_iff.1 hs
      have W := windowB_iff hw
      have e1 : w64 (w64 (s.H + w.Top) + w.Bottom) = s.H + w.Top + w.Bottom := by rw [show w64 (s.H + w.Top) = _ from w64_id (by omega)]; exact w64_id (by omega)
      have e2 : w64 (w64 (s.W + w.Left) + w.Right) = s.W + w.Left + w.Right := by rw [show w64 (s.W + w.Left) = _ from w64_id (by omega)]; exact w64_id (by omega)
      have f1 : spanH s w = s.H + w.Top + w.Bottom - w.KH := by unfold spanH; rw [e1]; exact w64_id (by omega)
      have f2 : spanW s w = s.W + w.Left + w.Right - w.KW := by unfold spanW; rw [e2]; exact w64_id (by omega)
      have c1 := ref06_count (w64 (w64 (s.H + w.Top) + w.Bottom)) w.KH w.SH (by omega) (by omega) (by omega)
      have c2 := ref06_count (w64 (w64 (s.W + w.Left) + w.Right)) w.KW w.SW (by omega) (by omega) (by omega)
      have g1 := cnt_out (n := w64 (w64 (s.H + w.Top) + w.Bottom)) (k := w.KH) (step := w.SH) (by omega) (by omega) (by omega)
      have g2 := cnt_out (n := w64 (w64 (s.W + w.Left) + w.Right)) (k := w.KW) (step := w.SW) (by omega) (by omega) (by omega)
      have p1 : (cntN (w64 (w64 (s.H + w.Top) + w.Bottom)) w.KH w.SH : Int) = 0 ↔ spanH s w < 0 := by
        rw [f1, e1]; unfold cntN; split <;> omega
      have p2 : (cntN (w64 (w64 (s.W + w.Left) + w.Right)) w.KW w.SW : Int) = 0 ↔ spanW s w < 0 := by
        rw [f2, e2]; unfold cntN; split <;> omega
      have q1 : w64 (w64 (s.H + w.Top) + w.Bottom) - w.KH = spanH s w := by rw [e1, f1]
      have q2 : w64 (w64 (s.W + w.Left) + w.Right) - w.KW = spanW s w := by rw [e2, f2]
      rw [q1] at g1
      rw [q2] at g2
      generalize (cntN (w64 (w64 (s.H + w.Top) + w.Bottom)) w.KH w.SH : Int) = C1 at *
      generalize (cntN (w64 (w64 (s.W + w.Left) + w.Right)) w.KW w.SW : Int) = C2 at *
      --@@3
      skip
      refine fn_ok Tb_ok (fn := Try.f94) Try.func94 rfl rfl (e := [(0, _), (1, _)]) rfl (by decide) rfl ?_
      refine zs ?_
      refine zR ?_
      refine zbx [.int _ _, .int _ _, .int _ _] 3 ?_
      refine zbx [.int _ _, .int _ _, .int _ _, .int _ _, .int _ _, .int _ _, .int _ _, .int _ _] 8 ?_
      refine zLI ?_
      refine zLI ?_
      refine zLI ?_
      refine zn ?_
      refine zs ?_
      refine zs ?_
      refine zR ?_
      refine zLG [.int _ _, .int _ _, .int _ _] ?_
      refine zLc (ref05_Valid s) ?_
      refine zLB ?_
      refine zn ?_
      refine W_cond_f (b := _) rfl (by exact hc11) ?_
      refine zk ?_
      refine zs ?_
      refine zs ?_
      refine zR ?_
      refine zLG [.int _ _, .int _ _, .int _ _, .int _ _, .int _ _, .int _ _, .int _ _, .int _ _] ?_
      refine zLc (ref06_Valid w) ?_
      refine zLB ?_
      refine zn ?_
      refine W_cond_f (b := _) rfl (by exact hc14) ?_
      refine zk ?_
      refine zs ?_
      refine zR ?_
      refine zLP ?_
      refine zLI ?_
      refine zLP ?_
      refine zLI ?_
      refine zLI ?_
      refine zLP ?_
      refine zLI ?_
      refine zLI ?_
      refine zLP ?_
      refine zLI ?_
      refine zLP ?_
      refine zLI ?_
      refine zLc (c1) ?_
      refine zLI ?_
      refine zn ?_
      refine zs ?_
      refine zR ?_
      refine zLP ?_
      refine zLI ?_
      refine zLP ?_
      refine zLI ?_
      refine zLI ?_
      refine zLP ?_
      refine zLI ?_
      refine zLI ?_
      refine zLP ?_
      refine zLI ?_
      refine zLP ?_
      refine zLI ?_
      refine zLc (c2) ?_
      refine zLI ?_
      refine zn ?_
      refine zs ?_
      refine zs ?_
      refine zR ?_
      refine zLI ?_
      refine zLB ?_
      refine zLB ?_
      refine zgLI ?_
      refine zgLB ?_
      refine zpLB ?_
      refine zn ?_
      refine W_cond (b := _) rfl (fun h46 => ?_) (fun h46 => ?_)
      · refine zs ?_
        refine zR ?_
        refine zLI ?_
        refine zLI ?_
        refine zLI ?_
        refine zn ?_
        refine zt ?_
        refine ends (l := [.int _ _, .int _ _, .int _ _]) (q := .tup [.int _ _, .int _ _, .int _ _]) (.inr rfl) rfl ⟨trivial, trivial, trivial, trivial⟩ rfl rfl ?_
        have : spanH s w < 0 ∨ spanW s w < 0 := by
          cases hq : C1 == 0 with
          | true => exact .inl (p1.1 (by simpa using hq))
          | false => rw [hq] at h46; exact .inr (p2.1 (by simpa using h46))
        simp [outH, outW, outE, hs, hw, this]
      · refine zk ?_
        refine zs ?_
        refine zR ?_
        refine zLI ?_
        refine zLI ?_
        refine zLI ?_
        refine zLI ?_
        refine zLI ?_
        refine zn ?_
        refine zt ?_
        refine ends (l := [.int _ _, .int _ _, .int _ _]) (q := .tup [.int _ _, .int _ _, .int _ _]) (.inr rfl) rfl ⟨trivial, trivial, trivial, trivial⟩ rfl rfl ?_
        have : ¬ (spanH s w < 0 ∨ spanW s w < 0) := by
          cases hq : C1 == 0 with
          | true => rw [hq] at h46; simp at h46
          | false =>
            rw [hq] at h46
            have n1 : C1 ≠ 0 := by simpa using hq
            have n2 : C2 ≠ 0 := by simpa using h46
            rintro (h | h)
            · exact n1 (p1.2 h)
            · exact n2 (p2.2 h)
        have t1 : ¬ spanH s w < 0 := fun h => this (.inl h)
        have t2 : ¬ spanW s w < 0 := fun h => this (.inr h)
        rw [if_neg t1] at g1
        rw [if_neg t2] at g2
        simp [outH, outW, outE, hs, hw, t1, t2, g1, g2]
end Go.AM
end
section
open Go Go.AM Go.Proofs
set_option maxRecDepth 10000
set_option linter.unusedVariables false
set_option linter.unusedSimpArgs false
namespace Go.AM
def sp1 (o : MOp) : Bool := bif o.Kind != 6 then bif o.B != 0 then true else !(o.SB.Mult == 0 && (o.SB.Shift == 0 && true)) else false
def sp2 (o : MOp) : Bool := bif bif bif decide (o.Kind > 2) then o.M != 0 else false then true else bif !inB o.Kind 1 3 then decide (w64 (((o.Weights.map i16C).length : Int) + ((o.Bias.map i32C).length : Int)) > 0) else false then true
  else bif !scalesB o.Kind then bif !(o.SA.Mult == 0 && (o.SA.Shift == 0 && true)) then true else o.Zero != 0 else false
def sp3 (o : MOp) : Bool := bif bif !inB o.Kind 2 5 then !(o.Win.KH == 0 && (o.Win.KW == 0 && (o.Win.SH == 0 && (o.Win.SW == 0 && (o.Win.Top == 0 && (o.Win.Left == 0 && (o.Win.Bottom == 0 && (o.Win.Right == 0 && true)))))))) else false then true else bif bif o.Kind != 2 then o.Kind != 3 else false then o.Pad != 0 else false
def sp4 (o : MOp) : Bool := bif bif o.Kind != 4 then o.Kind != 5 else false then true else bif bif bif o.Win.Top == 0 then o.Win.Left == 0 else false then o.Win.Bottom == 0 else false then o.Win.Right == 0 else false
theorem cond_t {a b : Bool} : (bif a then true else b) = (a || b) := by cases a <;> rfl
theorem cond_x {a b : Bool} : (bif a then b else false) = (a && b) := by cases a <;> rfl
theorem spare_eq {o : MOp} (hk : inB o.Kind 1 8 = true) (hl : (o.Weights.length : Int) + o.Bias.length ≤ 4611686018427387904) : (!sp1 o && (!sp2 o && (!sp3 o && sp4 o))) = !op3 o := by
  have hw : w64 (((o.Weights.map i16C).length : Int) + ((o.Bias.map i32C).length : Int)) = (o.Weights.length : Int) + o.Bias.length := by
    rw [List.length_map, List.length_map]; exact w64_id (by omega)
  have hk' : o.Kind = 1 ∨ o.Kind = 2 ∨ o.Kind = 3 ∨ o.Kind = 4 ∨ o.Kind = 5 ∨ o.Kind = 6 ∨ o.Kind = 7 ∨ o.Kind = 8 := by simp [inB] at hk; omega
  unfold sp1 sp2 sp3 sp4 op3
  rw [hw, Bool.eq_iff_iff]
  obtain ⟨K, A, B, M, ⟨KH, KW, SH, SW, T, L, Bo, R⟩, Ws, Bs, ⟨a1, a2⟩, ⟨b1, b2⟩, Z, P, Lo, Hi⟩ := o
  clear hw hk
  dsimp only at hk' hl ⊢
  rcases hk' with rfl | rfl | rfl | rfl | rfl | rfl | rfl | rfl <;>
    simp only [ofU, bareF, bare8, bare7, bare6, bare5, bare4, bare3, bare2, bare1, emptyB, winEq, scalesB, inB, cond_true, cond_false, cond_t, cond_x, Bool.not_not, Bool.and_eq_true, Bool.or_eq_true, Bool.not_eq_true', Bool.or_eq_false_iff, Bool.and_eq_false_iff, beq_iff_eq, bne_iff_ne, bne_eq_false_iff_eq, decide_eq_true_eq, decide_eq_false_iff_not, beq_eq_false_iff_ne, List.length_nil, if_true, if_false, reduceIte, Int.reduceEq, Int.reduceLE, Int.reduceLT, Int.reduceGT, Int.reduceNe, Int.reduceBEq, Int.reduceBNe, Bool.and_true, Bool.true_and, Bool.and_false, Bool.false_and, Bool.or_true, Bool.true_or, Bool.or_false, Bool.false_or, Bool.not_true, Bool.not_false, decide_true, decide_false, Bool.false_eq_true, Bool.true_eq_false, Int.natCast_zero, Int.natCast_eq_zero, true_and, and_true, false_and, and_false, not_true_eq_false, not_false_eq_true, true_or, or_true, false_or, or_false, ne_eq, reduceCtorEq, Bool.not_eq_false'] <;> omega
theorem ref08_spare (o : MOp) (hk : inB o.Kind 1 8 = true) (hl : (o.Weights.length : Int) + o.Bias.length ≤ 4611686018427387904) : Ok Try.prog 118 [.agg (opC o)] (.bool (!op3 o)) := by
  rw [← spare_eq hk hl]
  refine fn_ok Tb_ok (fn := Try.f118) Try.func118 rfl rfl (e := [(0, _)]) rfl (by decide) rfl ?_
  refine zs ?_
  refine zR ?_
  refine zbx [.int _ _, .int _ _, .int _ _, .int _ _, .int _ _, .int _ _, .int _ _, .int _ _, .int _ _, .int _ _, .int _ _, .int _ _, _, _, .int _ _, .int _ _, .int _ _, .int _ _, .int _ _, .int _ _, .int _ _, .int _ _] 22 ?_
  refine zLB ?_
  refine zn ?_
  refine zs ?_
  refine zR ?_
  refine zLP ?_
  refine zLG [.int _ _, .int _ _, .int _ _, .int _ _, .int _ _, .int _ _, .int _ _, .int _ _] ?_
  refine zal [.int .i64 0, .int .i64 0, .int .i64 0, .int .i64 0, .int .i64 0, .int .i64 0, .int .i64 0, .int .i64 0] 8 ?_
  refine zst (.agg [.int _ _, .int _ _, .int _ _, .int _ _, .int _ _, .int _ _, .int _ _, .int _ _]) [_, _, _, _, _, _, _, _] [[_, _, _, _, _, _, _, _]] ?_
  refine zn ?_
  refine zs ?_
  refine zs ?_
  refine zR ?_
  refine zLP ?_
  refine zLI ?_
  refine zLB ?_
  refine zLB ?_
  refine zgLP ?_
  refine zgLI ?_
  refine zgLB ?_
  refine zgLB ?_
  refine zgLP ?_
  refine zgLG [.int _ _, .int _ _] ?_
  refine zgLG [.int _ _, .int _ _] ?_
  refine zgLB ?_
  refine zqLB ?_
  refine zpLB ?_
  refine zn ?_
  refine W_cond (b := _) rfl (fun h19 => ?_) (fun h19 => ?_)
  · replace h19 : sp1 o = true := h19
    refine zs ?_
    refine zR ?_
    refine zLB ?_
    refine zn ?_
    refine zt ?_
    refine ends (l := [.bool _]) (q := .bool _) (.inr rfl) rfl ⟨trivial, trivial⟩ rfl rfl ?_
    simp [*]
  · replace h19 : sp1 o = false := h19
    refine zk ?_
    refine zs ?_
    refine zs ?_
    refine zR ?_
    refine zLP ?_
    refine zLI ?_
    refine zLB ?_
    refine zLB ?_
    refine zgLP ?_
    refine zgLI ?_
    refine zgLB ?_
    refine zpLB ?_
    refine zLB ?_
    refine zgLP ?_
    refine zgLI ?_
    refine L_callg (hr := fun hg => ref08_Weighs _) rfl rfl rfl rfl rfl (fun hg => ⟨⟨(by exact hg), True.intro⟩, True.intro⟩) rfl rfl ?_
    refine zgLB ?_
    refine zgLB ?_
    refine zgLP ?_
    refine zgLO ?_
    refine zgLI ?_
    refine zgLP ?_
    refine zgLO ?_
    refine zgLI ?_
    refine zgLI ?_
    refine zgLB ?_
    refine zqLB ?_
    refine zpLB ?_
    refine zLB ?_
    refine zgLP ?_
    refine zgLI ?_
    refine L_callg (hr := fun hg => ref08_Scales _) rfl rfl rfl rfl rfl (fun hg => ⟨⟨(by exact hg), True.intro⟩, True.intro⟩) rfl rfl ?_
    refine zgLB ?_
    refine zgLB ?_
    refine zgLP ?_
    refine zgLG [.int _ _, .int _ _] ?_
    refine zgLG [.int _ _, .int _ _] ?_
    refine zgLB ?_
    refine zgLB ?_
    refine zgLP ?_
    refine zgLI ?_
    refine zgLB ?_
    refine zqLB ?_
    refine zqLB ?_
    refine zpLB ?_
    refine zn ?_
    refine W_cond (b := _) rfl (fun h60 => ?_) (fun h60 => ?_)
    · replace h60 : sp2 o = true := h60
      refine zs ?_
      refine zR ?_
      refine zLB ?_
      refine zn ?_
      refine zt ?_
      refine ends (l := [.bool _]) (q := .bool _) (.inr rfl) rfl ⟨trivial, trivial⟩ rfl rfl ?_
      simp [*]
    · replace h60 : sp2 o = false := h60
      refine zk ?_
      refine zs ?_
      refine zs ?_
      refine zR ?_
      refine zLP ?_
      refine zLI ?_
      refine zLc (ref08_Slides _) ?_
      refine zLB ?_
      refine zLB ?_
      refine zgLG [.int _ _, .int _ _, .int _ _, .int _ _, .int _ _, .int _ _, .int _ _, .int _ _] ?_
      refine zgLG [.int _ _, .int _ _, .int _ _, .int _ _, .int _ _, .int _ _, .int _ _, .int _ _] ?_
      refine zgLB ?_
      refine zpLB ?_
      refine zLB ?_
      refine zgLP ?_
      refine zgLI ?_
      refine zgLB ?_
      refine zgLB ?_
      refine zgLP ?_
      refine zgLI ?_
      refine zgLB ?_
      refine zqLB ?_
      refine zgLB ?_
      refine zgLP ?_
      refine zgLI ?_
      refine zgLB ?_
      refine zqLB ?_
      refine zpLB ?_
      refine zn ?_
      refine W_cond (b := _) rfl (fun h84 => ?_) (fun h84 => ?_)
      · replace h84 : sp3 o = true := h84
        refine zs ?_
        refine zR ?_
        refine zLB ?_
        refine zn ?_
        refine zt ?_
        refine ends (l := [.bool _]) (q := .bool _) (.inr rfl) rfl ⟨trivial, trivial⟩ rfl rfl ?_
        simp [*]
      · replace h84 : sp3 o = false := h84
        refine zk ?_
        refine zs ?_
        refine zR ?_
        refine zLP ?_
        refine zLI ?_
        refine zLB ?_
        refine zLB ?_
        refine zgLP ?_
        refine zgLI ?_
        refine zgLB ?_
        refine zpLB ?_
        refine zLB ?_
        refine zgLP ?_
        refine zgLI ?_
        refine zgLB ?_
        refine zgLB ?_
        refine zgLP ?_
        refine zgLI ?_
        refine zgLB ?_
        refine zqLB ?_
        refine zgLB ?_
        refine zgLP ?_
        refine zgLI ?_
        refine zgLB ?_
        refine zqLB ?_
        refine zgLB ?_
        refine zgLP ?_
        refine zgLI ?_
        refine zgLB ?_
        refine zqLB ?_
        refine zpLB ?_
        refine zLB ?_
        refine zn ?_
        refine zt ?_
        refine ends (l := [.bool _]) (q := .bool _) (.inr rfl) rfl ⟨trivial, trivial⟩ rfl rfl ?_
        simp only [*, Bool.not_false, Bool.true_and]; rfl
end Go.AM
end
section
open Go Go.AM Go.Proofs
set_option maxRecDepth 10000
set_option linter.unusedVariables false
set_option linter.unusedSimpArgs false
namespace Go.AM
theorem kinds8 {k : Int} (h : inB k 1 8 = true) : k = 1 ∨ k = 2 ∨ k = 3 ∨ k = 4 ∨ k = 5 ∨ k = 6 ∨ k = 7 ∨ k = 8 := by simp [inB] at h; omega
theorem mk_slide {o : MOp} {a : Shape} (h1 : (o.Kind == 1) = false) (h2 : inB o.Kind 2 5 = true) : mkE o a = outE a o.Win ∧ mkS o a = if outE a o.Win = 0 then ⟨outH a o.Win, outW a o.Win, if o.Kind = 2 then o.M else a.C⟩ else ⟨0, 0, 0⟩ := by
  have hk : o.Kind = 2 ∨ o.Kind = 3 ∨ o.Kind = 4 ∨ o.Kind = 5 := by simp [inB] at h2; omega
  have hw : (ofU o.Kind).win = true := by rcases hk with h | h | h | h <;> rw [h] <;> rfl
  have e : mkE o a = outE a o.Win := by unfold mkE; rw [hw]; rfl
  refine ⟨e, ?_⟩
  unfold mkS mkX
  rw [e, hw]
  have n1 : o.Kind ≠ 1 := by simpa using h1
  simp only [if_neg n1, cond_true]
  by_cases k2 : o.Kind = 2 <;> simp [k2]
theorem mk_plain {o : MOp} {a : Shape} (h0 : inB o.Kind 1 8 = true) (h2 : inB o.Kind 2 5 = false) : mkE o a = 0 ∧ mkS o a = if o.Kind = 1 then ⟨1, 1, o.M⟩ else a := by
  have hk : o.Kind = 1 ∨ o.Kind = 6 ∨ o.Kind = 7 ∨ o.Kind = 8 := by
    have := kinds8 h0; simp [inB] at h2; omega
  have hw : (ofU o.Kind).win = false := by rcases hk with h | h | h | h <;> rw [h] <;> rfl
  have e : mkE o a = 0 := by unfold mkE; rw [hw]; rfl
  refine ⟨e, ?_⟩
  unfold mkS mkX
  rw [e, hw, if_pos rfl]
  have n2 : o.Kind ≠ 2 := by omega
  simp only [if_neg n2, cond_false]
theorem ref08_Makes (o : MOp) (a : Shape) (h0 : inB o.Kind 1 8 = true) : Ok Try.prog 119 [.agg (opC o), .agg (shapeC a)] (.tup [.agg (shapeC (mkS o a)), .int .i64 (mkE o a)]) := by
  cases hc19 : inB o.Kind 2 5 with
  | true =>
    have hc13 : (o.Kind == 1) = false := by simp [inB] at hc19; simp; omega
    obtain ⟨e1, e2⟩ := mk_slide (a := a) hc13 hc19
    rw [e1, e2]
    --@@1
    skip
    refine fn_ok Tb_ok (fn := Try.f119) Try.func119 rfl rfl (e := [(0, _), (1, _)]) rfl (by decide) rfl ?_
    refine zs ?_
    refine zR ?_
    refine zbx [.int _ _, .int _ _, .int _ _, .int _ _, .int _ _, .int _ _, .int _ _, .int _ _, .int _ _, .int _ _, .int _ _, .int _ _, _, _, .int _ _, .int _ _, .int _ _, .int _ _, .int _ _, .int _ _, .int _ _, .int _ _] 22 ?_
    refine zbx [.int _ _, .int _ _, .int _ _] 3 ?_
    refine zal [.int .i64 0, .int .i64 0, .int .i64 0] 3 ?_
    refine zLI ?_
    refine zn ?_
    refine zs ?_
    refine zR ?_
    refine zLG [.int _ _, .int _ _, .int _ _] ?_
    refine zal [.int .i64 0, .int .i64 0, .int .i64 0] 3 ?_
    refine zst (.agg [.int _ _, .int _ _, .int _ _]) [_, _, _] [[_, _, _]] ?_
    refine zn ?_
    refine zs ?_
    refine zs ?_
    refine zR ?_
    refine zLP ?_
    refine zLI ?_
    refine zLB ?_
    refine zn ?_
    refine W_cond_f (b := _) rfl (by exact hc13) ?_
    refine zk ?_
    refine zs ?_
    refine zs ?_
    refine zR ?_
    refine zLP ?_
    refine zLI ?_
    refine zLc (ref08_Slides _) ?_
    refine zn ?_
    refine W_cond_t (b := _) rfl (by exact hc19) ?_
    refine zs ?_
    refine zR ?_
    refine zLG [.int _ _, .int _ _, .int _ _] ?_
    refine zLP ?_
    refine zLG [.int _ _, .int _ _, .int _ _, .int _ _, .int _ _, .int _ _, .int _ _, .int _ _] ?_
    refine zLc (ref06_Out a o.Win) ?_
    refine zLT [_, _, _] ?_
    refine zLI ?_
    refine zLI ?_
    refine zLI ?_
    refine zLI ?_
    refine zLI ?_
    refine zLI ?_
    refine zn ?_
    refine zs ?_
    refine zs ?_
    refine zR ?_
    refine zLI ?_
    refine zLB ?_
    refine zn ?_
    refine W_cond (b := _) rfl (fun h29 => ?_) (fun h29 => ?_)
    · refine zs ?_
      refine zR ?_
      refine zLG [.int _ _, .int _ _, .int _ _] ?_
      refine zLI ?_
      refine zst (.agg [.int _ _, .int _ _, .int _ _]) [_, _, _] [[_, _, _]] ?_
      refine zLI ?_
      refine zn ?_
      refine zt ?_
      refine ends (l := [.agg [.int _ _, .int _ _, .int _ _], .int _ _]) (q := .tup [.agg [.int _ _, .int _ _, .int _ _], .int _ _]) (.inr rfl) rfl ⟨rfl, trivial, trivial⟩ rfl rfl ?_
      have : outE a o.Win ≠ 0 := by simpa using h29
      simp [this, shapeC]
    · refine zk ?_
      refine zs ?_
      refine zR ?_
      refine zLI ?_
      refine zLP ?_
      refine zst (.int _ _) [_] [[_, _, _]] ?_
      refine zn ?_
      refine zs ?_
      refine zR ?_
      refine zLI ?_
      refine zLP ?_
      refine zst (.int _ _) [_] [[_, _, _]] ?_
      refine zn ?_
      refine zs ?_
      refine zR ?_
      refine zLP ?_
      refine zLI ?_
      refine zLB ?_
      refine zn ?_
      refine W_cond (b := _) rfl (fun h38 => ?_) (fun h38 => ?_)
      · refine zR ?_
        refine zLP ?_
        refine zLI ?_
        refine zLP ?_
        refine zst (.int _ _) [_] [[_, _, _]] ?_
        refine zn ?_
        refine zs ?_
        refine zR ?_
        refine zLG [.int _ _, .int _ _, .int _ _] ?_
        refine zst (.agg [.int _ _, .int _ _, .int _ _]) [_, _, _] [[_, _, _]] ?_
        refine zLI ?_
        refine zn ?_
        refine zt ?_
        refine ends (l := [.agg [.int _ _, .int _ _, .int _ _], .int _ _]) (q := .tup [.agg [.int _ _, .int _ _, .int _ _], .int _ _]) (.inr rfl) rfl ⟨rfl, trivial, trivial⟩ rfl rfl ?_
        have z : outE a o.Win = 0 := by simpa using h29
        have k2 : o.Kind = 2 := by simpa using h38
        simp [z, k2, shapeC]
      · refine zk ?_
        refine zs ?_
        refine zR ?_
        refine zLG [.int _ _, .int _ _, .int _ _] ?_
        refine zst (.agg [.int _ _, .int _ _, .int _ _]) [_, _, _] [[_, _, _]] ?_
        refine zLI ?_
        refine zn ?_
        refine zt ?_
        refine ends (l := [.agg [.int _ _, .int _ _, .int _ _], .int _ _]) (q := .tup [.agg [.int _ _, .int _ _, .int _ _], .int _ _]) (.inr rfl) rfl ⟨rfl, trivial, trivial⟩ rfl rfl ?_
        have z : outE a o.Win = 0 := by simpa using h29
        have k2 : o.Kind ≠ 2 := by simpa using h38
        simp [z, k2, shapeC]
  | false =>
    obtain ⟨e1, e2⟩ := mk_plain (a := a) h0 hc19
    rw [e1, e2]
    --@@2
    skip
    refine fn_ok Tb_ok (fn := Try.f119) Try.func119 rfl rfl (e := [(0, _), (1, _)]) rfl (by decide) rfl ?_
    refine zs ?_
    refine zR ?_
    refine zbx [.int _ _, .int _ _, .int _ _, .int _ _, .int _ _, .int _ _, .int _ _, .int _ _, .int _ _, .int _ _, .int _ _, .int _ _, _, _, .int _ _, .int _ _, .int _ _, .int _ _, .int _ _, .int _ _, .int _ _, .int _ _] 22 ?_
    refine zbx [.int _ _, .int _ _, .int _ _] 3 ?_
    refine zal [.int .i64 0, .int .i64 0, .int .i64 0] 3 ?_
    refine zLI ?_
    refine zn ?_
    refine zs ?_
    refine zR ?_
    refine zLG [.int _ _, .int _ _, .int _ _] ?_
    refine zal [.int .i64 0, .int .i64 0, .int .i64 0] 3 ?_
    refine zst (.agg [.int _ _, .int _ _, .int _ _]) [_, _, _] [[_, _, _]] ?_
    refine zn ?_
    refine zs ?_
    refine zs ?_
    refine zR ?_
    refine zLP ?_
    refine zLI ?_
    refine zLB ?_
    refine zn ?_
    refine W_cond (b := _) rfl (fun h13 => ?_) (fun h13 => ?_)
    · refine zR ?_
      refine zLP ?_
      refine zLI ?_
      refine zLG [.int _ _, .int _ _, .int _ _] ?_
      refine zst (.agg [.int _ _, .int _ _, .int _ _]) [_, _, _] [[_, _, _]] ?_
      refine zn ?_
      refine zs ?_
      refine zs ?_
      refine zR ?_
      refine zLP ?_
      refine zLI ?_
      refine zLc (ref08_Slides _) ?_
      refine zn ?_
      refine W_cond_f (b := _) rfl (by exact hc19) ?_
      refine zk ?_
      refine zs ?_
      refine zR ?_
      refine zLG [.int _ _, .int _ _, .int _ _] ?_
      refine zst (.agg [.int _ _, .int _ _, .int _ _]) [_, _, _] [[_, _, _]] ?_
      refine zLI ?_
      refine zn ?_
      refine zt ?_
      refine ends (l := [.agg [.int _ _, .int _ _, .int _ _], .int _ _]) (q := .tup [.agg [.int _ _, .int _ _, .int _ _], .int _ _]) (.inr rfl) rfl ⟨rfl, trivial, trivial⟩ rfl rfl ?_
      have k1 : o.Kind = 1 := by simpa using h13
      simp [k1, shapeC]
    · refine zk ?_
      refine zs ?_
      refine zs ?_
      refine zR ?_
      refine zLP ?_
      refine zLI ?_
      refine zLc (ref08_Slides _) ?_
      refine zn ?_
      refine W_cond_f (b := _) rfl (by exact hc19) ?_
      refine zk ?_
      refine zs ?_
      refine zR ?_
      refine zLG [.int _ _, .int _ _, .int _ _] ?_
      refine zst (.agg [.int _ _, .int _ _, .int _ _]) [_, _, _] [[_, _, _]] ?_
      refine zLI ?_
      refine zn ?_
      refine zt ?_
      refine ends (l := [.agg [.int _ _, .int _ _, .int _ _], .int _ _]) (q := .tup [.agg [.int _ _, .int _ _, .int _ _], .int _ _]) (.inr rfl) rfl ⟨rfl, trivial, trivial⟩ rfl rfl ?_
      have k1 : o.Kind ≠ 1 := by simpa using h13
      simp [k1, shapeC]
def r2 (o : MOp) (l : List Shape) : Bool := bif bif decide (o.A < 0) then true else decide (o.A ≥ (l.length : Int)) then true else bif o.Kind == 6 then bif decide (o.B < 0) then true else decide (o.B ≥ (l.length : Int)) else false
def r4 (o : MOp) : Bool := bif decide (o.Kind ≤ 2) then bif decide (o.M < 1) then true else decide (o.M > 1024) else false
def r6 (o : MOp) (l : List Shape) : Bool := bif bif o.Kind == 6 then !shapeQ (inS o l) (inA o l) else false then true else !shapeB (mkS o (inA o l))
def r7 (o : MOp) (a : Shape) : Bool := bif inB o.Kind 1 4 then decide (lenF o a > 512) else false
def r8 (o : MOp) (a : Shape) : Bool := bif ((o.Weights.map i16C).length : Int) != listW o a then true else ((o.Bias.map i32C).length : Int) != listB o a
def r9 (o : MOp) : Bool := bif bif scalesB o.Kind then !(inB o.SA.Mult 1 2147483647 && inB o.SA.Shift 0 62) else false then true else bif o.Kind == 6 then !(inB o.SB.Mult 1 2147483647 && inB o.SB.Shift 0 62) else false
def r10 (o : MOp) : Bool := bif bif bif bif !inB o.Lo (-128) 127 then true else !inB o.Hi (-128) 127 then true else decide (o.Lo > o.Hi) then true else !inB o.Zero (-128) 127 then true else !inB o.Pad (-128) 127
theorem ofU_b {k : Int} (h : inB k 1 8 = true) : (ofU k).b = (k == 6) ∧ (ofU k).m = decide (k ≤ 2) ∧ (ofU k).sa = scalesB k ∧ (ofU k).sb = (k == 6) ∧ (ofU k).weights = inB k 1 3 := by
  rcases kinds8 h with rfl | rfl | rfl | rfl | rfl | rfl | rfl | rfl <;> exact ⟨rfl, rfl, rfl, rfl, rfl⟩
theorem r2_eq {o : MOp} {l : List Shape} (h : inB o.Kind 1 8 = true) : op2 o l = r2 o l := by unfold op2 r2; rw [(ofU_b h).1, List.length_map]
theorem r4_eq {o : MOp} (h : inB o.Kind 1 8 = true) : op4 o = r4 o := by unfold op4 r4; rw [(ofU_b h).2.1]
theorem r6_eq {o : MOp} {l : List Shape} (h : inB o.Kind 1 8 = true) : op6 o l = r6 o l := by
  unfold op6 r6; rw [(ofU_b h).1]
  unfold shapeE
  cases shapeB (mkS o (inA o l)) <;> cases o.Kind == 6 <;> cases shapeQ (inS o l) (inA o l) <;> rfl
theorem mkL_eq {o : MOp} {a : Shape} (h : inB o.Kind 1 8 = true) (he : mkE o a = 0) : mkL o a = bif inB o.Kind 1 4 then lenF o a else 0 := by
  unfold mkL lenF
  rw [if_pos he]
  rcases kinds8 h with k | k | k | k | k | k | k | k <;> rw [k] <;> simp [inB, mkX, k, ofU]
theorem r7_eq {o : MOp} {l : List Shape} (h : inB o.Kind 1 8 = true) (he : mkE o (inA o l) = 0) : op7 o l = r7 o (inA o l) := by
  unfold op7 r7; rw [mkL_eq h he]; cases inB o.Kind 1 4 <;> rfl
theorem opR_eq {o : MOp} {l : List Shape} (h : inB o.Kind 1 8 = true) (he : mkE o (inA o l) = 0) : opR o l = listB o (inA o l) ∧ w64 (opR o l * mkL o (inA o l)) = listW o (inA o l) := by
  rw [mkL_eq h he]
  unfold opR listB listW mkS
  rw [if_pos he, (ofU_b h).2.2.2.2]
  rcases kinds8 h with k | k | k | k | k | k | k | k <;> rw [k] <;> simp [inB, mkX, k, ofU, w64, IntKind.wrap_i64]
theorem r8_eq {o : MOp} {l : List Shape} (h : inB o.Kind 1 8 = true) (he : mkE o (inA o l) = 0) : op8 o l = r8 o (inA o l) := by
  obtain ⟨h1, h2⟩ := opR_eq h he
  unfold op8 r8; rw [h2, h1]
theorem r9_eq {o : MOp} (h : inB o.Kind 1 8 = true) : op9 o = r9 o := by
  unfold op9 r9 scaleB; rw [(ofU_b h).2.2.1, (ofU_b h).2.2.2.1]
theorem r10_eq {o : MOp} : op10 o = r10 o := by
  unfold op10 r10 bytesB
  simp only [List.all_cons, List.all_nil, Bool.and_true]
  cases inB o.Lo (-128) 127 <;> cases inB o.Hi (-128) 127 <;> cases inB o.Zero (-128) 127 <;> cases inB o.Pad (-128) 127 <;> cases decide (o.Lo > o.Hi) <;> rfl
theorem ref08_one (o : MOp) (l : List Shape) (hl : (o.Weights.length : Int) + o.Bias.length ≤ 4611686018427387904) : Ok Try.prog 103 [.agg (opC o), .int .i64 (l.length : Int), .ro (l.map shapeC)] (.tup [.agg (shapeC (opS o l)), .int .i64 (opE o l)]) := by
  cases hc20 : op1 o with
  | true =>
    have hc20 : (bif decide (o.Kind < 1) then true else decide (o.Kind > 8)) = true := by
      unfold op1 inB at hc20; by_cases a : o.Kind < 1 <;> by_cases b : o.Kind > 8 <;> simp [a, b] at hc20 ⊢ <;> omega
    --@@1
    skip
    refine fn_ok Tb_ok (fn := Try.f103) Try.func103 rfl rfl (e := [(0, _), (1, _), (2, _)]) rfl (by decide) rfl ?_
    refine zs ?_
    refine zR ?_
    refine zbx [.int _ _, .int _ _, .int _ _, .int _ _, .int _ _, .int _ _, .int _ _, .int _ _, .int _ _, .int _ _, .int _ _, .int _ _, _, _, .int _ _, .int _ _, .int _ _, .int _ _, .int _ _, .int _ _, .int _ _, .int _ _] 22 ?_
    refine zal [.int .i64 0, .int .i64 0, .int .i64 0] 3 ?_
    refine zLI ?_
    refine zn ?_
    refine zs ?_
    refine zs ?_
    refine zR ?_
    refine zLP ?_
    refine zLI ?_
    refine zLB ?_
    refine zLB ?_
    refine zgLP ?_
    refine zgLI ?_
    refine zgLB ?_
    refine zpLB ?_
    refine zn ?_
    refine W_cond_t (b := _) rfl (by exact hc20) ?_
    refine zs ?_
    refine zR ?_
    refine zLG [.int _ _, .int _ _, .int _ _] ?_
    refine zst (.agg [.int _ _, .int _ _, .int _ _]) [_, _, _] [[_, _, _]] ?_
    refine zLI ?_
    refine zn ?_
    refine zt ?_
    refine ends (l := [.agg [.int _ _, .int _ _, .int _ _], .int _ _]) (q := .tup [.agg [.int _ _, .int _ _, .int _ _], .int _ _]) (.inr rfl) rfl ⟨rfl, trivial, trivial⟩ rfl rfl ?_
    simp [opS, opE, shapeC, *]
  | false =>
    have hk : inB o.Kind 1 8 = true := by simpa [op1] using hc20
    have q1 := hc20
    have hc20 : (bif decide (o.Kind < 1) then true else decide (o.Kind > 8)) = false := by
      unfold inB at hk; by_cases a : o.Kind < 1 <;> by_cases b : o.Kind > 8 <;> simp [a, b] at hk ⊢ <;> omega
    --@@2
    skip
    refine fn_ok Tb_ok (fn := Try.f103) Try.func103 rfl rfl (e := [(0, _), (1, _), (2, _)]) rfl (by decide) rfl ?_
    refine zs ?_
    refine zR ?_
    refine zbx [.int _ _, .int _ _, .int _ _, .int _ _, .int _ _, .int _ _, .int _ _, .int _ _, .int _ _, .int _ _, .int _ _, .int _ _, _, _, .int _ _, .int _ _, .int _ _, .int _ _, .int _ _, .int _ _, .int _ _, .int _ _] 22 ?_
    refine zal [.int .i64 0, .int .i64 0, .int .i64 0] 3 ?_
    refine zLI ?_
    refine zn ?_
    refine zs ?_
    refine zs ?_
    refine zR ?_
    refine zLP ?_
    refine zLI ?_
    refine zLB ?_
    refine zLB ?_
    refine zgLP ?_
    refine zgLI ?_
    refine zgLB ?_
    refine zpLB ?_
    refine zn ?_
    refine W_cond_f (b := _) rfl (by exact hc20) ?_
    refine zk ?_
    refine zs ?_
    refine zs ?_
    refine zR ?_
    refine zLP ?_
    refine zLI ?_
    refine zLB ?_
    refine zLB ?_
    refine zgLP ?_
    refine zgLI ?_
    refine zgLI ?_
    refine zgLB ?_
    refine zpLB ?_
    refine zLB ?_
    refine zgLP ?_
    refine zgLI ?_
    refine zgLB ?_
    refine zgLB ?_
    refine zgLP ?_
    refine zgLI ?_
    refine zgLB ?_
    refine zgLB ?_
    refine zgLP ?_
    refine zgLI ?_
    refine zgLI ?_
    refine zgLB ?_
    refine zqLB ?_
    refine zqLB ?_
    refine zpLB ?_
    refine zn ?_
    refine W_cond (b := _) rfl (fun h46 => ?_) (fun h46 => ?_)
    · have q2 : op2 o l = true := by rw [r2_eq hk]; simpa [r2] using h46
      refine zs ?_
      refine zR ?_
      refine zLG [.int _ _, .int _ _, .int _ _] ?_
      refine zst (.agg [.int _ _, .int _ _, .int _ _]) [_, _, _] [[_, _, _]] ?_
      refine zLI ?_
      refine zn ?_
      refine zt ?_
      refine ends (l := [.agg [.int _ _, .int _ _, .int _ _], .int _ _]) (q := .tup [.agg [.int _ _, .int _ _, .int _ _], .int _ _]) (.inr rfl) rfl ⟨rfl, trivial, trivial⟩ rfl rfl ?_
      simp [opS, opE, shapeC, *]
    · have q2 : op2 o l = false := by rw [r2_eq hk]; simpa [r2] using h46
      obtain ⟨a0, a1, a2⟩ := op2_ok q2
      have a1' : o.A < ((l.map shapeC).length : Int) := by rw [List.length_map]; exact a1
      refine zk ?_
      refine zs ?_
      refine zs ?_
      refine zR ?_
      refine zLG [.int _ _, .int _ _, .int _ _, .int _ _, .int _ _, .int _ _, .int _ _, .int _ _, .int _ _, .int _ _, .int _ _, .int _ _, _, _, .int _ _, .int _ _, .int _ _, .int _ _, .int _ _, .int _ _, .int _ _, .int _ _] ?_
      refine zLc (ref08_spare o hk hl) ?_
      refine zLB ?_
      refine zn ?_
      refine W_cond (b := _) rfl (fun h50 => ?_) (fun h50 => ?_)
      · have q3 : op3 o = true := by simpa using h50
        refine zs ?_
        refine zR ?_
        refine zLG [.int _ _, .int _ _, .int _ _] ?_
        refine zst (.agg [.int _ _, .int _ _, .int _ _]) [_, _, _] [[_, _, _]] ?_
        refine zLI ?_
        refine zn ?_
        refine zt ?_
        refine ends (l := [.agg [.int _ _, .int _ _, .int _ _], .int _ _]) (q := .tup [.agg [.int _ _, .int _ _, .int _ _], .int _ _]) (.inr rfl) rfl ⟨rfl, trivial, trivial⟩ rfl rfl ?_
        simp [opS, opE, shapeC, *]
      · have q3 : op3 o = false := by simpa using h50
        refine zk ?_
        refine zs ?_
        refine zs ?_
        refine zR ?_
        refine zLP ?_
        refine zLI ?_
        refine zLB ?_
        refine zLB ?_
        refine zgLP ?_
        refine zgLI ?_
        refine zgLB ?_
        refine zgLB ?_
        refine zgLP ?_
        refine zgLI ?_
        refine zgLB ?_
        refine zqLB ?_
        refine zpLB ?_
        refine zn ?_
        refine W_cond (b := _) rfl (fun h64 => ?_) (fun h64 => ?_)
        · have q4 : op4 o = true := by rw [r4_eq hk]; exact h64
          refine zs ?_
          refine zR ?_
          refine zLG [.int _ _, .int _ _, .int _ _] ?_
          refine zst (.agg [.int _ _, .int _ _, .int _ _]) [_, _, _] [[_, _, _]] ?_
          refine zLI ?_
          refine zn ?_
          refine zt ?_
          refine ends (l := [.agg [.int _ _, .int _ _, .int _ _], .int _ _]) (q := .tup [.agg [.int _ _, .int _ _, .int _ _], .int _ _]) (.inr rfl) rfl ⟨rfl, trivial, trivial⟩ rfl rfl ?_
          simp [opS, opE, shapeC, *]
        · have q4 : op4 o = false := by rw [r4_eq hk]; exact h64
          refine zk ?_
          refine zs ?_
          refine zR ?_
          refine zLO ?_
          refine zLP ?_
          refine zLI ?_
          (refine L_v Tb_ok (v := _) (ave_index_ro rfl rfl rfl (fun _ => rfl) rfl (by first | exact a0 | exact a1 | exact a1') (by first | exact a0 | exact a1 | exact a1') trivial) rfl ?_)
          refine zLG [.int _ _, .int _ _, .int _ _] ?_
          refine zal [.int .i64 0, .int .i64 0, .int .i64 0] 3 ?_
          refine zst (.agg [.int _ _, .int _ _, .int _ _]) [_, _, _] [[_, _, _]] ?_
          refine zn ?_
          refine zs ?_
          refine zR ?_
          refine zLG [.int _ _, .int _ _, .int _ _, .int _ _, .int _ _, .int _ _, .int _ _, .int _ _, .int _ _, .int _ _, .int _ _, .int _ _, _, _, .int _ _, .int _ _, .int _ _, .int _ _, .int _ _, .int _ _, .int _ _, .int _ _] ?_
          refine zLG [.int _ _, .int _ _, .int _ _] ?_
          refine zLc (ref08_Makes o (inA o l) hk) ?_
          refine zLT [_, _] ?_
          refine zLG [.int _ _, .int _ _, .int _ _] ?_
          refine zLI ?_
          refine zal [.int .i64 0, .int .i64 0, .int .i64 0] 3 ?_
          refine zst (.agg [.int _ _, .int _ _, .int _ _]) [_, _, _] [[_, _, _]] ?_
          refine zLI ?_
          refine zn ?_
          refine zs ?_
          refine zs ?_
          refine zR ?_
          refine zLI ?_
          refine zLB ?_
          refine zn ?_
          refine W_cond (b := _) rfl (fun h78 => ?_) (fun h78 => ?_)
          · have q5 : op5 o l = true := h78
            refine zs ?_
            refine zR ?_
            refine zLG [.int _ _, .int _ _, .int _ _] ?_
            refine zLI ?_
            refine zst (.agg [.int _ _, .int _ _, .int _ _]) [_, _, _] [[_, _, _]] ?_
            refine zLI ?_
            refine zn ?_
            refine zt ?_
            refine ends (l := [.agg [.int _ _, .int _ _, .int _ _], .int _ _]) (q := .tup [.agg [.int _ _, .int _ _, .int _ _], .int _ _]) (.inr rfl) rfl ⟨rfl, trivial, trivial⟩ rfl rfl ?_
            simp [opS, opE, shapeC, *]
          · have q5 : op5 o l = false := h78
            have e5 : mkE o (inA o l) = 0 := by simpa [op5] using q5
            refine zk ?_
            refine zs ?_
            refine zs ?_
            refine W_draw 17 Tb_mixed rfl (by decide) (by kernel_rfl) (by kernel_rfl) ?_
            refine zEP ?_
            refine zEI ?_
            refine zEB ?_
            refine zEB ?_
            refine zgEO ?_
            refine zgEP ?_
            refine zgEI ?_
            (refine E_g Tb_ok (v := _) rfl rfl ((fun hg => (ave_index_ro rfl rfl rfl (fun _ => rfl) rfl (by (have hb := a2 (by rw [(ofU_b hk).1]; simpa using hg)); first | exact hb.1 | exact hb.2 | (rw [List.length_map]; exact hb.2)) (by (have hb := a2 (by rw [(ofU_b hk).1]; simpa using hg)); first | exact hb.1 | exact hb.2 | (rw [List.length_map]; exact hb.2)) ⟨⟨(by first | exact hg | (simp_all; done) | (simp at hg ⊢; simp [hg])), True.intro⟩, ⟨⟨(by first | exact hg | (simp_all; done) | (simp at hg ⊢; simp [hg])), True.intro⟩, True.intro⟩⟩))) rfl rfl ?_)
            refine zgEG [.int _ _, .int _ _, .int _ _] ?_
            refine zgEG [.int _ _, .int _ _, .int _ _] ?_
            refine zgEB ?_
            refine zpEB ?_
            refine zEB ?_
            refine zgEG [.int _ _, .int _ _, .int _ _] ?_
            refine E_callg (hr := fun hg => ref05_Valid (mkS o (inA o l))) rfl rfl rfl rfl rfl (fun hg => ⟨⟨(by exact hg), True.intro⟩, True.intro⟩) rfl rfl ?_
            refine zgEB ?_
            refine zpEB ?_
            refine LexE_nil ?_
            refine zn ?_
            refine W_cond (b := _) rfl (fun h97 => ?_) (fun h97 => ?_)
            · have q6 : op6 o l = true := by rw [r6_eq hk]; exact h97
              refine zs ?_
              refine zR ?_
              refine zLG [.int _ _, .int _ _, .int _ _] ?_
              refine zst (.agg [.int _ _, .int _ _, .int _ _]) [_, _, _] [[_, _, _]] ?_
              refine zLI ?_
              refine zn ?_
              refine zt ?_
              refine ends (l := [.agg [.int _ _, .int _ _, .int _ _], .int _ _]) (q := .tup [.agg [.int _ _, .int _ _, .int _ _], .int _ _]) (.inr rfl) rfl ⟨rfl, trivial, trivial⟩ rfl rfl ?_
              simp [opS, opE, shapeC, *]
            · have q6 : op6 o l = false := by rw [r6_eq hk]; exact h97
              refine zk ?_
              refine zs ?_
              refine zs ?_
              refine zR ?_
              refine zLP ?_
              refine zLI ?_
              refine zLc (ref08_Reduces _) ?_
              refine zLB ?_
              refine zgLG [.int _ _, .int _ _, .int _ _, .int _ _, .int _ _, .int _ _, .int _ _, .int _ _, .int _ _, .int _ _, .int _ _, .int _ _, _, _, .int _ _, .int _ _, .int _ _, .int _ _, .int _ _, .int _ _, .int _ _, .int _ _] ?_
              refine zgLG [.int _ _, .int _ _, .int _ _] ?_
              refine L_callg (hr := fun hg => ref08_Length o (inA o l)) rfl rfl rfl rfl rfl (fun hg => ⟨⟨(by exact hg), True.intro⟩, ⟨⟨(by exact hg), True.intro⟩, True.intro⟩⟩) rfl rfl ?_
              refine zgLB ?_
              refine zpLB ?_
              refine zn ?_
              refine W_cond (b := _) rfl (fun h107 => ?_) (fun h107 => ?_)
              · have q7 : op7 o l = true := by rw [r7_eq hk e5]; exact h107
                refine zs ?_
                refine zR ?_
                refine zLG [.int _ _, .int _ _, .int _ _] ?_
                refine zst (.agg [.int _ _, .int _ _, .int _ _]) [_, _, _] [[_, _, _]] ?_
                refine zLI ?_
                refine zn ?_
                refine zt ?_
                refine ends (l := [.agg [.int _ _, .int _ _, .int _ _], .int _ _]) (q := .tup [.agg [.int _ _, .int _ _, .int _ _], .int _ _]) (.inr rfl) rfl ⟨rfl, trivial, trivial⟩ rfl rfl ?_
                simp [opS, opE, shapeC, *]
              · have q7 : op7 o l = false := by rw [r7_eq hk e5]; exact h107
                refine zk ?_
                refine zs ?_
                refine zR ?_
                refine zLG [.int _ _, .int _ _, .int _ _, .int _ _, .int _ _, .int _ _, .int _ _, .int _ _, .int _ _, .int _ _, .int _ _, .int _ _, _, _, .int _ _, .int _ _, .int _ _, .int _ _, .int _ _, .int _ _, .int _ _, .int _ _] ?_
                refine zLG [.int _ _, .int _ _, .int _ _] ?_
                refine zLc (ref08_Lists o (inA o l)) ?_
                refine zLT [_, _] ?_
                refine zLI ?_
                refine zLI ?_
                refine zLI ?_
                refine zLI ?_
                refine zn ?_
                refine zs ?_
                refine zs ?_
                refine zR ?_
                refine zLP ?_
                refine zLO ?_
                refine zLI ?_
                refine zLI ?_
                refine zLB ?_
                refine zLB ?_
                refine zgLP ?_
                refine zgLO ?_
                refine zgLI ?_
                refine zgLI ?_
                refine zgLB ?_
                refine zpLB ?_
                refine zn ?_
                refine W_cond (b := _) rfl (fun h126 => ?_) (fun h126 => ?_)
                · have q8 : op8 o l = true := by rw [r8_eq hk e5]; exact h126
                  refine zs ?_
                  refine zR ?_
                  refine zLG [.int _ _, .int _ _, .int _ _] ?_
                  refine zst (.agg [.int _ _, .int _ _, .int _ _]) [_, _, _] [[_, _, _]] ?_
                  refine zLI ?_
                  refine zn ?_
                  refine zt ?_
                  refine ends (l := [.agg [.int _ _, .int _ _, .int _ _], .int _ _]) (q := .tup [.agg [.int _ _, .int _ _, .int _ _], .int _ _]) (.inr rfl) rfl ⟨rfl, trivial, trivial⟩ rfl rfl ?_
                  simp [opS, opE, shapeC, *]
                · have q8 : op8 o l = false := by rw [r8_eq hk e5]; exact h126
                  refine zk ?_
                  refine zs ?_
                  refine zs ?_
                  refine zR ?_
                  refine zLP ?_
                  refine zLI ?_
                  refine zLc (ref08_Scales _) ?_
                  refine zLB ?_
                  refine zgLP ?_
                  refine zgLP ?_
                  refine zgLI ?_
                  refine zgLP ?_
                  refine zgLP ?_
                  refine zgLI ?_
                  refine L_callg (hr := fun hg => ref02_Valid _ _) rfl rfl rfl rfl rfl (fun hg => ⟨⟨(by exact hg), True.intro⟩, ⟨⟨(by exact hg), True.intro⟩, True.intro⟩⟩) rfl rfl ?_
                  refine zgLB ?_
                  refine zpLB ?_
                  refine zLB ?_
                  refine zgLP ?_
                  refine zgLI ?_
                  refine zgLB ?_
                  refine zgLB ?_
                  refine zgLP ?_
                  refine zgLP ?_
                  refine zgLI ?_
                  refine zgLP ?_
                  refine zgLP ?_
                  refine zgLI ?_
                  refine L_callg (hr := fun hg => ref02_Valid _ _) rfl rfl rfl rfl rfl (fun hg => ⟨⟨(by exact hg), True.intro⟩, ⟨⟨(by exact hg), True.intro⟩, True.intro⟩⟩) rfl rfl ?_
                  refine zgLB ?_
                  refine zqLB ?_
                  refine zpLB ?_
                  refine zn ?_
                  refine W_cond (b := _) rfl (fun h155 => ?_) (fun h155 => ?_)
                  · have q9 : op9 o = true := by rw [r9_eq hk]; exact h155
                    refine zs ?_
                    refine zR ?_
                    refine zLG [.int _ _, .int _ _, .int _ _] ?_
                    refine zst (.agg [.int _ _, .int _ _, .int _ _]) [_, _, _] [[_, _, _]] ?_
                    refine zLI ?_
                    refine zn ?_
                    refine zt ?_
                    refine ends (l := [.agg [.int _ _, .int _ _, .int _ _], .int _ _]) (q := .tup [.agg [.int _ _, .int _ _, .int _ _], .int _ _]) (.inr rfl) rfl ⟨rfl, trivial, trivial⟩ rfl rfl ?_
                    simp [opS, opE, shapeC, *]
                  · have q9 : op9 o = false := by rw [r9_eq hk]; exact h155
                    refine zk ?_
                    refine zs ?_
                    refine zs ?_
                    refine zR ?_
                    refine zLP ?_
                    refine zLI ?_
                    refine zLc (ref08_values _) ?_
                    refine zLB ?_
                    refine zLB ?_
                    refine zgLP ?_
                    refine zgLI ?_
                    refine L_callg (hr := fun hg => ref08_values _) rfl rfl rfl rfl rfl (fun hg => ⟨⟨(by exact hg), True.intro⟩, True.intro⟩) rfl rfl ?_
                    refine zgLB ?_
                    refine zpLB ?_
                    refine zLB ?_
                    refine zgLP ?_
                    refine zgLI ?_
                    refine zgLP ?_
                    refine zgLI ?_
                    refine zgLB ?_
                    refine zpLB ?_
                    refine zLB ?_
                    refine zgLP ?_
                    refine zgLI ?_
                    refine L_callg (hr := fun hg => ref08_values _) rfl rfl rfl rfl rfl (fun hg => ⟨⟨(by exact hg), True.intro⟩, True.intro⟩) rfl rfl ?_
                    refine zgLB ?_
                    refine zpLB ?_
                    refine zLB ?_
                    refine zgLP ?_
                    refine zgLI ?_
                    refine L_callg (hr := fun hg => ref08_values _) rfl rfl rfl rfl rfl (fun hg => ⟨⟨(by exact hg), True.intro⟩, True.intro⟩) rfl rfl ?_
                    refine zgLB ?_
                    refine zpLB ?_
                    refine zn ?_
                    refine W_cond (b := _) rfl (fun h185 => ?_) (fun h185 => ?_)
                    · have q10 : op10 o = true := by rw [r10_eq]; exact h185
                      refine zs ?_
                      refine zR ?_
                      refine zLG [.int _ _, .int _ _, .int _ _] ?_
                      refine zst (.agg [.int _ _, .int _ _, .int _ _]) [_, _, _] [[_, _, _]] ?_
                      refine zLI ?_
                      refine zn ?_
                      refine zt ?_
                      refine ends (l := [.agg [.int _ _, .int _ _, .int _ _], .int _ _]) (q := .tup [.agg [.int _ _, .int _ _, .int _ _], .int _ _]) (.inr rfl) rfl ⟨rfl, trivial, trivial⟩ rfl rfl ?_
                      simp [opS, opE, shapeC, *]
                    · have q10 : op10 o = false := by rw [r10_eq]; exact h185
                      refine zk ?_
                      refine zs ?_
                      refine zR ?_
                      refine zLG [.int _ _, .int _ _, .int _ _] ?_
                      refine zst (.agg [.int _ _, .int _ _, .int _ _]) [_, _, _] [[_, _, _]] ?_
                      refine zLI ?_
                      refine zn ?_
                      refine zt ?_
                      refine ends (l := [.agg [.int _ _, .int _ _, .int _ _], .int _ _]) (q := .tup [.agg [.int _ _, .int _ _, .int _ _], .int _ _]) (.inr rfl) rfl ⟨rfl, trivial, trivial⟩ rfl rfl ?_
                      simp [opS, opE, shapeC, *]
end Go.AM
end
section
open Go Go.AM Go.Proofs
set_option maxRecDepth 10000
set_option linter.unusedVariables false
set_option linter.unusedSimpArgs false
namespace Go.AM
theorem w64_add (x q : Int) : w64 (x + 18446744073709551616 * q) = w64 x := by unfold w64; rw [IntKind.wrap_i64, IntKind.wrap_i64]; omega
theorem w64_form (x : Int) : ∃ q, w64 x = x + 18446744073709551616 * q := by
  unfold w64; rw [IntKind.wrap_i64]
  exact ⟨-((x + 9223372036854775808) / 18446744073709551616), by omega⟩
theorem w64_mul (a b : Int) : w64 (w64 a * b) = w64 (a * b) := by
  obtain ⟨q, hq⟩ := w64_form a
  rw [hq, Int.add_mul, Int.mul_assoc]; exact w64_add _ _
theorem w64_mul' (a b : Int) : w64 (a * w64 b) = w64 (a * b) := by rw [Int.mul_comm, w64_mul, Int.mul_comm]
theorem w64_w64 (a : Int) : w64 (w64 a) = w64 a := by have := w64_mul a 1; simpa using this
theorem opE_kind {o : MOp} {l : List Shape} (h : opE o l = 0) : inB o.Kind 1 8 = true := by simpa [op1] using (opE_ok h).1
theorem lab_eq {o : MOp} {l : List Shape} (h : opE o l = 0) : labF o (inA o l) (opS o l) = opW o l := by
  have hk := opE_kind h
  obtain ⟨h1, h2, h3, h4, h5, h6, h7, h8, h9, h10⟩ := opE_ok h
  have e5 : op5 o l = false := by simp [op5, h5]
  have eW : opW o l = mkW o (inA o l) := by simp [opW, h1, h2, h3, h4, e5, h6, h7, h8, h9, h10]
  rw [opS_ok h, eW]
  generalize inA o l = a at *
  have eL := mkL_eq hk h5
  unfold labF mkW mkT elems
  rw [if_pos h5, eL]
  unfold lenF mkX
  rcases kinds8 hk with k | k | k | k | k | k | k | k <;> simp [k, inB, ofU] <;> simp only [w64_mul, w64_mul', w64_w64, Int.mul_assoc]
theorem lens_wf {m : Model} (hm : m.Wf) (i : Nat) : ((m.Ops.getD i default).Weights.length : Int) + (m.Ops.getD i default).Bias.length ≤ 4611686018427387904 := by
  rw [List.getD_eq_getElem?_getD]
  cases hq : m.Ops[i]? with
  | none => show ((0 : Nat) : Int) + ((0 : Nat) : Int) ≤ _; omega
  | some o =>
    obtain ⟨_, _, _, _, _, h1, h2, _⟩ := hm.2.2.2.1.2 o (List.mem_of_getElem? hq)
    have b1 := h1.1
    have b2 := h2.1
    have : reachBytes < 140737488355328 := by decide
    show (o.Weights.length : Int) + o.Bias.length ≤ _
    omega
theorem wh2_eq (m : Model) : (bif bif !inB m.Lo (-128) 127 then true else !inB m.Hi (-128) 127 then true else decide (m.Lo > m.Hi)) = wh2 m := by
  unfold wh2 bytesB
  simp only [List.all_cons, List.all_nil, Bool.and_true]
  cases inB m.Lo (-128) 127 <;> cases inB m.Hi (-128) 127 <;> cases decide (m.Lo > m.Hi) <;> rfl
theorem wh1_eq (m : Model) : (!shapeB m.In) = wh1 m := by unfold wh1 shapeE; cases shapeB m.In <;> rfl
theorem ref08_Look (m : Model) (hm : m.Wf) : Ok Try.prog 91 [.agg (modelC m)] (.tup [.ro ((wholeF m).1.map shapeC), .int .i64 (wholeF m).2.1, .agg (faultC (wholeF m).2.2)]) := by
  cases h1 : wh1 m with
  | true =>
    have hc15 := h1; rw [← wh1_eq] at hc15
    have he : shapeE m.In = 50 := by unfold shapeE; simp at hc15; rw [hc15]; rfl
    --@@1
    skip
    refine fn_ok Tb_ok (fn := Try.f91) Try.func91 rfl rfl (e := [(0, _)]) rfl (by decide) rfl ?_
    refine zs ?_
    refine zR ?_
    refine zbx [.int _ _, .int _ _, .int _ _, .int _ _, .int _ _, _, .int _ _] 7 ?_
    refine zLN ?_
    refine zLI ?_
    refine zal [.int .i64 0, .int .i64 0, .int .i64 0] 3 ?_
    refine zn ?_
    refine zs ?_
    refine zR ?_
    refine zLI ?_
    refine zn ?_
    refine zs ?_
    refine zs ?_
    refine zR ?_
    refine zLP ?_
    refine zLG [.int _ _, .int _ _, .int _ _] ?_
    refine zLc (ref05_Valid m.In) ?_
    refine zLB ?_
    refine zn ?_
    refine W_cond_t (b := _) rfl (by exact hc15) ?_
    refine zR ?_
    refine zLI ?_
    refine zn ?_
    refine zs ?_
    refine zs ?_
    refine zR ?_
    refine zLI ?_
    refine zLB ?_
    refine zn ?_
    refine W_cond_t (b := _) rfl (by rfl) ?_
    refine zs ?_
    refine zR ?_
    refine zLI ?_
    refine zLG [.int _ _, .int _ _, .int _ _] ?_
    refine zLN ?_
    refine zLI ?_
    refine zst (.agg [.int _ _, .int _ _, .int _ _]) [_, _, _] [[_, _, _]] ?_
    refine zn ?_
    refine zt ?_
    (refine ends (l := [.nils, .int _ _, .agg [.int _ _, .int _ _, .int _ _]]) (q := .tup [.ro _, .int _ _, .agg [.int _ _, .int _ _, .int _ _]]) (.inr rfl) rfl ⟨trivial, trivial, rfl, trivial⟩ rfl rfl ?_)
    simp [wholeF, h1, faultC, he]
  | false =>
  have hc15 := h1; rw [← wh1_eq] at hc15
  cases h2 : wh2 m with
  | true =>
    have hc32 := h2; rw [← wh2_eq] at hc32
    --@@2
    skip
    refine fn_ok Tb_ok (fn := Try.f91) Try.func91 rfl rfl (e := [(0, _)]) rfl (by decide) rfl ?_
    refine zs ?_
    refine zR ?_
    refine zbx [.int _ _, .int _ _, .int _ _, .int _ _, .int _ _, _, .int _ _] 7 ?_
    refine zLN ?_
    refine zLI ?_
    refine zal [.int .i64 0, .int .i64 0, .int .i64 0] 3 ?_
    refine zn ?_
    refine zs ?_
    refine zR ?_
    refine zLI ?_
    refine zn ?_
    refine zs ?_
    refine zs ?_
    refine zR ?_
    refine zLP ?_
    refine zLG [.int _ _, .int _ _, .int _ _] ?_
    refine zLc (ref05_Valid m.In) ?_
    refine zLB ?_
    refine zn ?_
    refine W_cond_f (b := _) rfl (by exact hc15) ?_
    refine zs ?_
    refine zR ?_
    refine zLP ?_
    refine zLI ?_
    refine zLc (ref08_values _) ?_
    refine zLB ?_
    refine zLB ?_
    refine zgLP ?_
    refine zgLI ?_
    refine L_callg (hr := fun hg => ref08_values _) rfl rfl rfl rfl rfl (fun hg => ⟨⟨(by exact hg), True.intro⟩, True.intro⟩) rfl rfl ?_
    refine zgLB ?_
    refine zpLB ?_
    refine zLB ?_
    refine zgLP ?_
    refine zgLI ?_
    refine zgLP ?_
    refine zgLI ?_
    refine zgLB ?_
    refine zpLB ?_
    refine zn ?_
    refine W_cond_t (b := _) rfl (by exact hc32) ?_
    refine zR ?_
    refine zLI ?_
    refine zn ?_
    refine zs ?_
    refine zs ?_
    refine zR ?_
    refine zLI ?_
    refine zLB ?_
    refine zn ?_
    refine W_cond_t (b := _) rfl (by rfl) ?_
    refine zs ?_
    refine zR ?_
    refine zLI ?_
    refine zLG [.int _ _, .int _ _, .int _ _] ?_
    refine zLN ?_
    refine zLI ?_
    refine zst (.agg [.int _ _, .int _ _, .int _ _]) [_, _, _] [[_, _, _]] ?_
    refine zn ?_
    refine zt ?_
    (refine ends (l := [.nils, .int _ _, .agg [.int _ _, .int _ _, .int _ _]]) (q := .tup [.ro _, .int _ _, .agg [.int _ _, .int _ _, .int _ _]]) (.inr rfl) rfl ⟨trivial, trivial, rfl, trivial⟩ rfl rfl ?_)
    simp [wholeF, h1, h2, faultC]
  | false =>
  have hc32 := h2; rw [← wh2_eq] at hc32
  cases h3 : wh3 m with
  | true =>
    have hc36 : decide (((m.Ops.map opC).length : Int) > 64) = true := h3
    --@@3
    skip
    refine fn_ok Tb_ok (fn := Try.f91) Try.func91 rfl rfl (e := [(0, _)]) rfl (by decide) rfl ?_
    refine zs ?_
    refine zR ?_
    refine zbx [.int _ _, .int _ _, .int _ _, .int _ _, .int _ _, _, .int _ _] 7 ?_
    refine zLN ?_
    refine zLI ?_
    refine zal [.int .i64 0, .int .i64 0, .int .i64 0] 3 ?_
    refine zn ?_
    refine zs ?_
    refine zR ?_
    refine zLI ?_
    refine zn ?_
    refine zs ?_
    refine zs ?_
    refine zR ?_
    refine zLP ?_
    refine zLG [.int _ _, .int _ _, .int _ _] ?_
    refine zLc (ref05_Valid m.In) ?_
    refine zLB ?_
    refine zn ?_
    refine W_cond_f (b := _) rfl (by exact hc15) ?_
    refine zs ?_
    refine zR ?_
    refine zLP ?_
    refine zLI ?_
    refine zLc (ref08_values _) ?_
    refine zLB ?_
    refine zLB ?_
    refine zgLP ?_
    refine zgLI ?_
    refine L_callg (hr := fun hg => ref08_values _) rfl rfl rfl rfl rfl (fun hg => ⟨⟨(by exact hg), True.intro⟩, True.intro⟩) rfl rfl ?_
    refine zgLB ?_
    refine zpLB ?_
    refine zLB ?_
    refine zgLP ?_
    refine zgLI ?_
    refine zgLP ?_
    refine zgLI ?_
    refine zgLB ?_
    refine zpLB ?_
    refine zn ?_
    refine W_cond_f (b := _) rfl (by exact hc32) ?_
    refine zs ?_
    refine zR ?_
    refine zLP ?_
    refine zLO ?_
    refine zLI ?_
    refine zLB ?_
    refine zn ?_
    refine W_cond_t (b := _) rfl (by exact hc36) ?_
    refine zR ?_
    refine zLI ?_
    refine zn ?_
    refine zs ?_
    refine zs ?_
    refine zR ?_
    refine zLI ?_
    refine zLB ?_
    refine zn ?_
    refine W_cond_t (b := _) rfl (by rfl) ?_
    refine zs ?_
    refine zR ?_
    refine zLI ?_
    refine zLG [.int _ _, .int _ _, .int _ _] ?_
    refine zLN ?_
    refine zLI ?_
    refine zst (.agg [.int _ _, .int _ _, .int _ _]) [_, _, _] [[_, _, _]] ?_
    refine zn ?_
    refine zt ?_
    (refine ends (l := [.nils, .int _ _, .agg [.int _ _, .int _ _, .int _ _]]) (q := .tup [.ro _, .int _ _, .agg [.int _ _, .int _ _, .int _ _]]) (.inr rfl) rfl ⟨trivial, trivial, rfl, trivial⟩ rfl rfl ?_)
    simp [wholeF, h1, h2, h3, faultC]
  | false =>
  have hc36 : decide (((m.Ops.map opC).length : Int) > 64) = false := h3
  cases h4 : wh4 m with
  | true =>
    have hc47 : (bif decide (m.Out < 0) then true else decide (m.Out > ((m.Ops.map opC).length : Int))) = true := h4
    --@@4
    skip
    refine fn_ok Tb_ok (fn := Try.f91) Try.func91 rfl rfl (e := [(0, _)]) rfl (by decide) rfl ?_
    refine zs ?_
    refine zR ?_
    refine zbx [.int _ _, .int _ _, .int _ _, .int _ _, .int _ _, _, .int _ _] 7 ?_
    refine zLN ?_
    refine zLI ?_
    refine zal [.int .i64 0, .int .i64 0, .int .i64 0] 3 ?_
    refine zn ?_
    refine zs ?_
    refine zR ?_
    refine zLI ?_
    refine zn ?_
    refine zs ?_
    refine zs ?_
    refine zR ?_
    refine zLP ?_
    refine zLG [.int _ _, .int _ _, .int _ _] ?_
    refine zLc (ref05_Valid m.In) ?_
    refine zLB ?_
    refine zn ?_
    refine W_cond_f (b := _) rfl (by exact hc15) ?_
    refine zs ?_
    refine zR ?_
    refine zLP ?_
    refine zLI ?_
    refine zLc (ref08_values _) ?_
    refine zLB ?_
    refine zLB ?_
    refine zgLP ?_
    refine zgLI ?_
    refine L_callg (hr := fun hg => ref08_values _) rfl rfl rfl rfl rfl (fun hg => ⟨⟨(by exact hg), True.intro⟩, True.intro⟩) rfl rfl ?_
    refine zgLB ?_
    refine zpLB ?_
    refine zLB ?_
    refine zgLP ?_
    refine zgLI ?_
    refine zgLP ?_
    refine zgLI ?_
    refine zgLB ?_
    refine zpLB ?_
    refine zn ?_
    refine W_cond_f (b := _) rfl (by exact hc32) ?_
    refine zs ?_
    refine zR ?_
    refine zLP ?_
    refine zLO ?_
    refine zLI ?_
    refine zLB ?_
    refine zn ?_
    refine W_cond_f (b := _) rfl (by exact hc36) ?_
    refine zs ?_
    refine zR ?_
    refine zLP ?_
    refine zLI ?_
    refine zLB ?_
    refine zLB ?_
    refine zgLP ?_
    refine zgLI ?_
    refine zgLP ?_
    refine zgLO ?_
    refine zgLI ?_
    refine zgLB ?_
    refine zpLB ?_
    refine zn ?_
    refine W_cond_t (b := _) rfl (by exact hc47) ?_
    refine zR ?_
    refine zLI ?_
    refine zn ?_
    refine zs ?_
    refine zs ?_
    refine zR ?_
    refine zLI ?_
    refine zLB ?_
    refine zn ?_
    refine W_cond_t (b := _) rfl (by rfl) ?_
    refine zs ?_
    refine zR ?_
    refine zLI ?_
    refine zLG [.int _ _, .int _ _, .int _ _] ?_
    refine zLN ?_
    refine zLI ?_
    refine zst (.agg [.int _ _, .int _ _, .int _ _]) [_, _, _] [[_, _, _]] ?_
    refine zn ?_
    refine zt ?_
    (refine ends (l := [.nils, .int _ _, .agg [.int _ _, .int _ _, .int _ _]]) (q := .tup [.ro _, .int _ _, .agg [.int _ _, .int _ _, .int _ _]]) (.inr rfl) rfl ⟨trivial, trivial, rfl, trivial⟩ rfl rfl ?_)
    simp [wholeF, h1, h2, h3, h4, faultC]
  | false =>
  have hc47 : (bif decide (m.Out < 0) then true else decide (m.Out > ((m.Ops.map opC).length : Int))) = false := h4
  have hn : m.Ops.length ≤ 64 := by rw [List.length_map] at hc36; have := of_decide_eq_false hc36; omega
  have w0 : wholeF m = wgo (m.Ops.drop 0) 0 [m.In] 0 := by simp [wholeF, h1, h2, h3, h4]
  --@@5
  skip
  refine fn_ok Tb_ok (fn := Try.f91) Try.func91 rfl rfl (e := [(0, _)]) rfl (by decide) rfl ?_
  refine zs ?_
  refine zR ?_
  refine zbx [.int _ _, .int _ _, .int _ _, .int _ _, .int _ _, _, .int _ _] 7 ?_
  refine zLN ?_
  refine zLI ?_
  refine zal [.int .i64 0, .int .i64 0, .int .i64 0] 3 ?_
  refine zn ?_
  refine zs ?_
  refine zR ?_
  refine zLI ?_
  refine zn ?_
  refine zs ?_
  refine zs ?_
  refine zR ?_
  refine zLP ?_
  refine zLG [.int _ _, .int _ _, .int _ _] ?_
  refine zLc (ref05_Valid m.In) ?_
  refine zLB ?_
  refine zn ?_
  refine W_cond_f (b := _) rfl (by exact hc15) ?_
  refine zs ?_
  refine zR ?_
  refine zLP ?_
  refine zLI ?_
  refine zLc (ref08_values _) ?_
  refine zLB ?_
  refine zLB ?_
  refine zgLP ?_
  refine zgLI ?_
  refine L_callg (hr := fun hg => ref08_values _) rfl rfl rfl rfl rfl (fun hg => ⟨⟨(by exact hg), True.intro⟩, True.intro⟩) rfl rfl ?_
  refine zgLB ?_
  refine zpLB ?_
  refine zLB ?_
  refine zgLP ?_
  refine zgLI ?_
  refine zgLP ?_
  refine zgLI ?_
  refine zgLB ?_
  refine zpLB ?_
  refine zn ?_
  refine W_cond_f (b := _) rfl (by exact hc32) ?_
  refine zs ?_
  refine zR ?_
  refine zLP ?_
  refine zLO ?_
  refine zLI ?_
  refine zLB ?_
  refine zn ?_
  refine W_cond_f (b := _) rfl (by exact hc36) ?_
  refine zs ?_
  refine zR ?_
  refine zLP ?_
  refine zLI ?_
  refine zLB ?_
  refine zLB ?_
  refine zgLP ?_
  refine zgLI ?_
  refine zgLP ?_
  refine zgLO ?_
  refine zgLI ?_
  refine zgLB ?_
  refine zpLB ?_
  refine zn ?_
  refine W_cond_f (b := _) rfl (by exact hc47) ?_
  refine zk ?_
  refine zs ?_
  refine zs ?_
  refine zR ?_
  refine zLI ?_
  refine zLB ?_
  refine zn ?_
  refine W_cond_f (b := _) rfl (by rfl) ?_
  refine zk ?_
  refine zs ?_
  refine zR ?_
  refine zLP ?_
  refine zLG [.int _ _, .int _ _, .int _ _] ?_
  refine L_build Tb_ok (t := 131) (len := 1) (el := 23) (sz := 3) (es := [[_, _, _]]) (z := [.int .i64 0, .int .i64 0, .int .i64 0]) rfl rfl rfl rfl rfl (by decide) trivial rfl rfl rfl rfl rfl ?_
  refine zLW ?_
  refine zn ?_
  refine zs ?_
  refine zR ?_
  refine zLI ?_
  refine zn ?_
  refine zs ?_
  refine zs ?_
  refine zR ?_
  refine zLP ?_
  refine zLO ?_
  refine zLI ?_
  refine zLI ?_
  refine zn ?_
  refine W_block ?_
  refine W_tok (t := 6) (id := 2) (ty := 23) (sz := 3) (fz := 0) (es := [shapeC m.In]) (l := [shapeC m.In]) rfl rfl rfl rfl rfl rfl rfl ?_
  refine W_inv (ι := WI m) (fun i => ⟨[(1, .ptr 0 0 0), (4, .ptr 1 0 0), (6, .app 3 (i.l.map shapeC)), (7, .int .i64 i.s), (56, .ro (m.Ops.map opC)), (57, .int .i64 ((m.Ops.map opC).length : Int)), (58, .int .i64 (i.k : Int))], [(0, some ⟨26, 7, 0, [modelC m]⟩), (1, some ⟨133, 3, 0, [[.int .i64 0, .int .i64 0, .int .i64 0]]⟩)], [(3, some (23, 3, i.l.length))], 4⟩) (fun i => m.Ops.length - i.k) ⟨0, [m.In], 0, Nat.zero_le _, rfl, hn, w0⟩ (le_fit ⟨rfl, rfl, rfl, rfl, rfl, rfl, rfl, trivial⟩ ⟨.inr rfl, .inr rfl, trivial⟩ ⟨.inr rfl, trivial⟩ rfl rfl rfl rfl rfl) ?_
  rintro ⟨k, l, s, hk, hl, hmm, hw⟩
  have hkl : IntKind.i64.wrap ((k : Int) + 1) = (l.length : Int) := by rw [hl, w64_id (by omega)]; omega
  refine zs ?_
  refine zR ?_
  refine zLB ?_
  refine zn ?_
  refine zs ?_
  refine W_cond (b := _) rfl (fun h59 => ?_) (fun h59 => ?_)
  · have hlt : k < m.Ops.length := by simpa using h59
    refine zk ?_
    refine zs ?_
    refine W_block ?_
    refine zs ?_
    refine zR ?_
    refine zLI ?_
    (refine L_v Tb_ok (v := _) (ave_index_ro rfl rfl rfl (fun _ => rfl) rfl (by first | omega | assumption | decide | (simp_all; done) | (simp_all; omega)) (by first | omega | assumption | decide | (simp_all; done) | (simp_all; omega)) trivial) rfl ?_)
    refine zLG [.int _ _, .int _ _, .int _ _, .int _ _, .int _ _, .int _ _, .int _ _, .int _ _, .int _ _, .int _ _, .int _ _, .int _ _, _, _, .int _ _, .int _ _, .int _ _, .int _ _, .int _ _, .int _ _, .int _ _, .int _ _] ?_
    refine zal [.int .i64 0, .int .i64 0, .int .i64 0, .int .i64 0, .int .i64 0, .int .i64 0, .int .i64 0, .int .i64 0, .int .i64 0, .int .i64 0, .int .i64 0, .int .i64 0, .nils, .nils, .int .i64 0, .int .i64 0, .int .i64 0, .int .i64 0, .int .i64 0, .int .i64 0, .int .i64 0, .int .i64 0] 22 ?_
    refine zLI ?_
    refine zst (.agg [.int _ _, .int _ _, .int _ _, .int _ _, .int _ _, .int _ _, .int _ _, .int _ _, .int _ _, .int _ _, .int _ _, .int _ _, _, _, .int _ _, .int _ _, .int _ _, .int _ _, .int _ _, .int _ _, .int _ _, .int _ _]) [_, _, _, _, _, _, _, _, _, _, _, _, _, _, _, _, _, _, _, _, _, _] [[_, _, _, _, _, _, _, _, _, _, _, _, _, _, _, _, _, _, _, _, _, _]] ?_
    refine zn ?_
    refine zs ?_
    refine zR ?_
    refine zLG [.int _ _, .int _ _, .int _ _, .int _ _, .int _ _, .int _ _, .int _ _, .int _ _, .int _ _, .int _ _, .int _ _, .int _ _, _, _, .int _ _, .int _ _, .int _ _, .int _ _, .int _ _, .int _ _, .int _ _, .int _ _] ?_
    refine zLI ?_
    refine zLI ?_
    refine zLA ?_
    refine zLc ((show Ok Try.prog 103 [.agg (opC (m.Ops.getD ((k : Nat) : Int).toNat default)), .int .i64 (IntKind.i64.wrap ((k : Int) + 1)), .ro (l.map shapeC)] _ from by rw [hkl]; exact ref08_one (m.Ops.getD k default) l (lens_wf hm k))) ?_
    refine zLT [_, _] ?_
    refine zLG [.int _ _, .int _ _, .int _ _] ?_
    refine zLI ?_
    refine zal [.int .i64 0, .int .i64 0, .int .i64 0] 3 ?_
    refine zst (.agg [.int _ _, .int _ _, .int _ _]) [_, _, _] [[_, _, _]] ?_
    refine zLI ?_
    refine zn ?_
    refine zs ?_
    refine zs ?_
    refine zR ?_
    refine zLI ?_
    refine zLB ?_
    refine zn ?_
    refine W_cond (b := _) rfl (fun h72 => ?_) (fun h72 => ?_)
    · refine zs ?_
      refine zR ?_
      refine zLI ?_
      refine zLI ?_
      refine zLI ?_
      refine zLG [.int _ _, .int _ _, .int _ _] ?_
      refine zLN ?_
      refine zLI ?_
      refine zst (.agg [.int _ _, .int _ _, .int _ _]) [_, _, _] [[_, _, _]] ?_
      refine zn ?_
      refine zt ?_
      (refine ends (l := [.nils, .int _ _, .agg [.int _ _, .int _ _, .int _ _]]) (q := .tup [.ro _, .int _ _, .agg [.int _ _, .int _ _, .int _ _]]) (.inr rfl) rfl ⟨trivial, trivial, rfl, trivial⟩ rfl rfl ?_)
      have hne : (opE (m.Ops.getD k default) l != 0) = true := h72
      have hq : (opE (m.Ops.getD k default) l == 0) = false := by simpa [bne] using hne
      have hw1 : werr (m.Ops.getD k default) l s = opE (m.Ops.getD k default) l := werr_ok (by unfold wbig; rw [hq]; rfl)
      rw [hw, wgo_bad hlt hw1 hne]; rfl
    · have hz : opE (m.Ops.getD k default) l = 0 := by simpa using h72
      have hlab := lab_eq hz
      obtain ⟨a0, a1, _⟩ := op2_ok (opE_ok hz).2.1
      refine zk ?_
      refine zs ?_
      refine W_draw 11 Tb_mixed rfl (by decide) (by kernel_rfl) (by kernel_rfl) ?_
      refine zEI ?_
      refine zEG [.int _ _, .int _ _, .int _ _, .int _ _, .int _ _, .int _ _, .int _ _, .int _ _, .int _ _, .int _ _, .int _ _, .int _ _, _, _, .int _ _, .int _ _, .int _ _, .int _ _, .int _ _, .int _ _, .int _ _, .int _ _] ?_
      refine zEA ?_
      refine zEP ?_
      refine zEI ?_
      (refine E_v Tb_ok (v := _) (ave_index_app rfl rfl rfl (fun _ => rfl) rfl (by first | exact a0 | exact a1 | (rw [List.length_map]; exact a1)) (by first | exact a0 | exact a1 | (rw [List.length_map]; exact a1)) trivial) rfl ?_)
      refine zEG [.int _ _, .int _ _, .int _ _] ?_
      refine zEG [.int _ _, .int _ _, .int _ _] ?_
      refine zEc (ref08_Labour (m.Ops.getD k default) (inA (m.Ops.getD k default) l) (opS (m.Ops.getD k default) l)) ?_
      refine zEI ?_
      refine zEI ?_
      refine LexE_nil ?_
      refine zn ?_
      refine zs ?_
      refine zs ?_
      refine zR ?_
      refine zLI ?_
      refine zLB ?_
      refine zn ?_
      refine W_cond (b := _) rfl (fun h88 => ?_) (fun h88 => ?_)
      · have hbig : werr (m.Ops.getD k default) l s = 86 := werr_big (by unfold wbig; rw [hz, ← hlab]; exact h88)
        refine zs ?_
        refine zR ?_
        refine zLI ?_
        refine zLI ?_
        refine zLG [.int _ _, .int _ _, .int _ _] ?_
        refine zLN ?_
        refine zLI ?_
        refine zst (.agg [.int _ _, .int _ _, .int _ _]) [_, _, _] [[_, _, _]] ?_
        refine zn ?_
        refine zt ?_
        (refine ends (l := [.nils, .int _ _, .agg [.int _ _, .int _ _, .int _ _]]) (q := .tup [.ro _, .int _ _, .agg [.int _ _, .int _ _, .int _ _]]) (.inr rfl) rfl ⟨trivial, trivial, rfl, trivial⟩ rfl rfl ?_)
        rw [hw, wgo_bad hlt hbig rfl]; rfl
      · have hgood : werr (m.Ops.getD k default) l s = 0 := by rw [werr_ok (by unfold wbig; rw [hz, ← hlab]; exact h88), hz]
        refine zk ?_
        refine zR ?_
        refine zLA ?_
        refine zLG [.int _ _, .int _ _, .int _ _] ?_
        refine L_build Tb_ok (t := 131) (len := 1) (el := 23) (sz := 3) (es := [[_, _, _]]) (z := [.int .i64 0, .int .i64 0, .int .i64 0]) rfl rfl rfl rfl rfl (by decide) trivial rfl rfl rfl rfl rfl ?_
        refine L_app1 Tb_ok (xs := l) (v := opS (m.Ops.getD k default) l) (el := 23) (sz := 3) rfl rfl rfl rfl rfl ⟨trivial, trivial⟩ (fun _ => ⟨rfl, rfl⟩) (by rw [show (Tb.at 23).bytes = 24 from rfl]; omega) rfl ?_
        refine zLA ?_
        refine zn ?_
        refine zR ?_
        refine zLI ?_
        refine zLI ?_
        refine zn ?_
        refine round_end ⟨k + 1, l ++ [opS (m.Ops.getD k default) l], w64 (s + opW (m.Ops.getD k default) l), hlt, by simp [hl], hmm, by rw [hw]; exact wgo_good hlt hgood (by rfl)⟩ (by dsimp only; omega) (le_fit ⟨rfl, rfl, rfl, congrArg (AV.int .i64) (congrArg (fun z => w64 (s + z)) hlab), rfl, rfl, congrArg _ (w_succ hlt (by omega)), trivial⟩ ⟨.inr rfl, .inr rfl, trivial⟩ ⟨.inr rfl, trivial⟩ rfl rfl rfl rfl rfl)
  · have hke : k = m.Ops.length := by simp at h59; omega
    refine W_exit ?_
    repeat (first | refine pass_then ?_ | refine pass_round ?_)
    refine blockQ_hit ?_
    refine zs ?_
    refine zR ?_
    refine zLA ?_
    refine zLI ?_
    refine zLG [.int _ _, .int _ _, .int _ _] ?_
    refine zLA ?_
    refine zLI ?_
    refine zst (.agg [.int _ _, .int _ _, .int _ _]) [_, _, _] [[_, _, _]] ?_
    refine zn ?_
    refine zt ?_
    (refine ends (l := [.app _ _, .int _ _, .agg [.int _ _, .int _ _, .int _ _]]) (q := .tup [.ro _, .int _ _, .agg [.int _ _, .int _ _, .int _ _]]) (.inr rfl) rfl ⟨trivial, trivial, rfl, trivial⟩ rfl rfl ?_)
    subst hke
    rw [hw, List.drop_length, wgo]; rfl
end Go.AM
end
section
open Go Go.AM Go.Proofs
set_option maxRecDepth 10000
set_option linter.unusedVariables false
set_option linter.unusedSimpArgs false
namespace Go.AM
/-- the reference's site -/
def rsiteC (s : Site) : List AV := opC s.Op ++ (shapeC s.In ++ shapeC s.Out)
def rfE (m : Model) (op ch : Int) : Int := if findE m op = 0 then if (bif decide (ch < 0) then true else decide (ch > (findS m op).Out.C)) then 3 else 0 else findE m op
def rfS (m : Model) (op ch : Int) : Site := if rfE m op ch = 0 then findS m op else site0
theorem ref10_Find (m : Model) (hm : m.Wf) (op ch : Int) : Ok Try.prog 78 [.agg (modelC m), .int .i64 op, .int .i64 ch] (.tup [.agg (rsiteC (rfS m op ch)), .int .i64 (rfE m op ch)]) := by
  cases h1 : fi1 m with
  | true =>
    have hc21 : ((wholeF m).2.2.Err != 0) = true := h1
    have e : findE m op = (wholeF m).2.2.Err := by simp [findE, h1]
    have n0 : (wholeF m).2.2.Err ≠ 0 := by simpa using hc21
    --@@1
    skip
    refine fn_ok Tb_ok (fn := Try.f78) Try.func78 rfl rfl (e := [(0, _), (1, _), (2, _)]) rfl (by decide) rfl ?_
    refine zs ?_
    refine zR ?_
    refine zbx [.int _ _, .int _ _, .int _ _, .int _ _, .int _ _, _, .int _ _] 7 ?_
    refine zal [.int .i64 0, .int .i64 0, .int .i64 0, .int .i64 0, .int .i64 0, .int .i64 0, .int .i64 0, .int .i64 0, .int .i64 0, .int .i64 0, .int .i64 0, .int .i64 0, .nils, .nils, .int .i64 0, .int .i64 0, .int .i64 0, .int .i64 0, .int .i64 0, .int .i64 0, .int .i64 0, .int .i64 0, .int .i64 0, .int .i64 0, .int .i64 0, .int .i64 0, .int .i64 0, .int .i64 0] 28 ?_
    refine zLI ?_
    refine zn ?_
    refine zs ?_
    refine zR ?_
    refine zLG [.int _ _, .int _ _, .int _ _, .int _ _, .int _ _, _, .int _ _] ?_
    refine zLc (ref08_Look m hm) ?_
    refine zLT [_, _, _] ?_
    refine zLO ?_
    refine zLI ?_
    refine zLG [.int _ _, .int _ _, .int _ _] ?_
    refine zal [.int .i64 0, .int .i64 0, .int .i64 0] 3 ?_
    refine zLO ?_
    refine zLI ?_
    refine zst (.agg [.int _ _, .int _ _, .int _ _]) [_, _, _] [[_, _, _]] ?_
    refine zn ?_
    refine zs ?_
    refine zs ?_
    refine zR ?_
    refine zLP ?_
    refine zLI ?_
    refine zLB ?_
    refine zn ?_
    refine W_cond_t (b := _) rfl (by exact hc21) ?_
    refine zs ?_
    refine W_drawF (fun e => [idOf (get e 6)]) 3 [[3, 4]] Tb_mixed rfl (by decide) (by kernel_rfl) ?_
    refine zSG [.int _ _, .int _ _, .int _ _, .int _ _, .int _ _, .int _ _, .int _ _, .int _ _, .int _ _, .int _ _, .int _ _, .int _ _, _, _, .int _ _, .int _ _, .int _ _, .int _ _, .int _ _, .int _ _, .int _ _, .int _ _, .int _ _, .int _ _, .int _ _, .int _ _, .int _ _, .int _ _] ?_
    refine zSP ?_
    refine zSI ?_
    refine S_nil ?_
    refine TT_one ?_
    refine TT_store Tb_ok (OSub_forget _ _) rfl (v := .agg [.int _ _, .int _ _, .int _ _, .int _ _, .int _ _, .int _ _, .int _ _, .int _ _, .int _ _, .int _ _, .int _ _, .int _ _, _, _, .int _ _, .int _ _, .int _ _, .int _ _, .int _ _, .int _ _, .int _ _, .int _ _, .int _ _, .int _ _, .int _ _, .int _ _, .int _ _, .int _ _]) (cs := [_, _, _, _, _, _, _, _, _, _, _, _, _, _, _, _, _, _, _, _, _, _, _, _, _, _, _, _]) (es' := [[_, _, _, _, _, _, _, _, _, _, _, _, _, _, _, _, _, _, _, _, _, _, _, _, _, _, _, _]]) rfl rfl rfl rfl rfl rfl rfl rfl rfl rfl rfl ⟨trivial, trivial⟩ (fun ht1 => ?_)
    refine TT_v Tb_ok ht1 rfl (v := .int _ _) (av rfl ⟨trivial, trivial⟩) rfl (fun ht2 => ?_)
    refine TT_nil ?_
    try clear ht2
    try clear ht1
    refine zt ?_
    refine ends (l := [.agg [.int _ _, .int _ _, .int _ _, .int _ _, .int _ _, .int _ _, .int _ _, .int _ _, .int _ _, .int _ _, .int _ _, .int _ _, _, _, .int _ _, .int _ _, .int _ _, .int _ _, .int _ _, .int _ _, .int _ _, .int _ _, .int _ _, .int _ _, .int _ _, .int _ _, .int _ _, .int _ _], .int _ _]) (q := .tup [.agg [.int _ _, .int _ _, .int _ _, .int _ _, .int _ _, .int _ _, .int _ _, .int _ _, .int _ _, .int _ _, .int _ _, .int _ _, _, _, .int _ _, .int _ _, .int _ _, .int _ _, .int _ _, .int _ _, .int _ _, .int _ _, .int _ _, .int _ _, .int _ _, .int _ _, .int _ _, .int _ _], .int _ _]) (.inr rfl) rfl ⟨rfl, trivial, trivial⟩ rfl rfl ?_
    simp [rfE, rfS, e, n0, rsiteC, site0, opC, shapeC, demC]
  | false =>
  have hc21 : ((wholeF m).2.2.Err != 0) = false := h1
  cases h2 : fi2 m op with
  | true =>
    have hc33 : (bif decide (op < 1) then true else decide (op > ((m.Ops.map opC).length : Int))) = true := h2
    have e : findE m op = 3 := by simp [findE, h1, h2]
    --@@2
    skip
    refine fn_ok Tb_ok (fn := Try.f78) Try.func78 rfl rfl (e := [(0, _), (1, _), (2, _)]) rfl (by decide) rfl ?_
    refine zs ?_
    refine zR ?_
    refine zbx [.int _ _, .int _ _, .int _ _, .int _ _, .int _ _, _, .int _ _] 7 ?_
    refine zal [.int .i64 0, .int .i64 0, .int .i64 0, .int .i64 0, .int .i64 0, .int .i64 0, .int .i64 0, .int .i64 0, .int .i64 0, .int .i64 0, .int .i64 0, .int .i64 0, .nils, .nils, .int .i64 0, .int .i64 0, .int .i64 0, .int .i64 0, .int .i64 0, .int .i64 0, .int .i64 0, .int .i64 0, .int .i64 0, .int .i64 0, .int .i64 0, .int .i64 0, .int .i64 0, .int .i64 0] 28 ?_
    refine zLI ?_
    refine zn ?_
    refine zs ?_
    refine zR ?_
    refine zLG [.int _ _, .int _ _, .int _ _, .int _ _, .int _ _, _, .int _ _] ?_
    refine zLc (ref08_Look m hm) ?_
    refine zLT [_, _, _] ?_
    refine zLO ?_
    refine zLI ?_
    refine zLG [.int _ _, .int _ _, .int _ _] ?_
    refine zal [.int .i64 0, .int .i64 0, .int .i64 0] 3 ?_
    refine zLO ?_
    refine zLI ?_
    refine zst (.agg [.int _ _, .int _ _, .int _ _]) [_, _, _] [[_, _, _]] ?_
    refine zn ?_
    refine zs ?_
    refine zs ?_
    refine zR ?_
    refine zLP ?_
    refine zLI ?_
    refine zLB ?_
    refine zn ?_
    refine W_cond_f (b := _) rfl (by exact hc21) ?_
    refine zk ?_
    refine zs ?_
    refine zs ?_
    refine zR ?_
    refine zLI ?_
    refine zLB ?_
    refine zLB ?_
    refine zgLI ?_
    refine zgLP ?_
    refine zgLO ?_
    refine zgLI ?_
    refine zgLB ?_
    refine zpLB ?_
    refine zn ?_
    refine W_cond_t (b := _) rfl (by exact hc33) ?_
    refine zs ?_
    refine zR ?_
    refine zLG [.int _ _, .int _ _, .int _ _, .int _ _, .int _ _, .int _ _, .int _ _, .int _ _, .int _ _, .int _ _, .int _ _, .int _ _, _, _, .int _ _, .int _ _, .int _ _, .int _ _, .int _ _, .int _ _, .int _ _, .int _ _, .int _ _, .int _ _, .int _ _, .int _ _, .int _ _, .int _ _] ?_
    refine zst (.agg [.int _ _, .int _ _, .int _ _, .int _ _, .int _ _, .int _ _, .int _ _, .int _ _, .int _ _, .int _ _, .int _ _, .int _ _, _, _, .int _ _, .int _ _, .int _ _, .int _ _, .int _ _, .int _ _, .int _ _, .int _ _, .int _ _, .int _ _, .int _ _, .int _ _, .int _ _, .int _ _]) [_, _, _, _, _, _, _, _, _, _, _, _, _, _, _, _, _, _, _, _, _, _, _, _, _, _, _, _] [[_, _, _, _, _, _, _, _, _, _, _, _, _, _, _, _, _, _, _, _, _, _, _, _, _, _, _, _]] ?_
    refine zLI ?_
    refine zn ?_
    refine zt ?_
    refine ends (l := [.agg [.int _ _, .int _ _, .int _ _, .int _ _, .int _ _, .int _ _, .int _ _, .int _ _, .int _ _, .int _ _, .int _ _, .int _ _, _, _, .int _ _, .int _ _, .int _ _, .int _ _, .int _ _, .int _ _, .int _ _, .int _ _, .int _ _, .int _ _, .int _ _, .int _ _, .int _ _, .int _ _], .int _ _]) (q := .tup [.agg [.int _ _, .int _ _, .int _ _, .int _ _, .int _ _, .int _ _, .int _ _, .int _ _, .int _ _, .int _ _, .int _ _, .int _ _, _, _, .int _ _, .int _ _, .int _ _, .int _ _, .int _ _, .int _ _, .int _ _, .int _ _, .int _ _, .int _ _, .int _ _, .int _ _, .int _ _, .int _ _], .int _ _]) (.inr rfl) rfl ⟨rfl, trivial, trivial⟩ rfl rfl ?_
    simp [rfE, rfS, e, rsiteC, site0, opC, shapeC, demC]
  | false =>
  have hc33 : (bif decide (op < 1) then true else decide (op > ((m.Ops.map opC).length : Int))) = false := h2
  obtain ⟨o1, o2, o3, o4, o5, o6⟩ := fi_ok h1 h2
  have p1 : 0 ≤ IntKind.i64.wrap (op - 1) := by rw [o3]; omega
  have p2 : IntKind.i64.wrap (op - 1) < (m.Ops.length : Int) := by rw [o3]; omega
  have eo : m.Ops.getD (IntKind.i64.wrap (op - 1)).toNat default = opAt m op := by rw [o3]; rfl
  cases h3 : fi3 m op with
  | true =>
    have hc44 : (!inB (m.Ops.getD (IntKind.i64.wrap (op - 1)).toNat default).Kind 1 4) = true := by rw [eo]; exact h3
    have e : findE m op = 81 := by simp [findE, h1, h2, h3]
    --@@3
    skip
    refine fn_ok Tb_ok (fn := Try.f78) Try.func78 rfl rfl (e := [(0, _), (1, _), (2, _)]) rfl (by decide) rfl ?_
    refine zs ?_
    refine zR ?_
    refine zbx [.int _ _, .int _ _, .int _ _, .int _ _, .int _ _, _, .int _ _] 7 ?_
    refine zal [.int .i64 0, .int .i64 0, .int .i64 0, .int .i64 0, .int .i64 0, .int .i64 0, .int .i64 0, .int .i64 0, .int .i64 0, .int .i64 0, .int .i64 0, .int .i64 0, .nils, .nils, .int .i64 0, .int .i64 0, .int .i64 0, .int .i64 0, .int .i64 0, .int .i64 0, .int .i64 0, .int .i64 0, .int .i64 0, .int .i64 0, .int .i64 0, .int .i64 0, .int .i64 0, .int .i64 0] 28 ?_
    refine zLI ?_
    refine zn ?_
    refine zs ?_
    refine zR ?_
    refine zLG [.int _ _, .int _ _, .int _ _, .int _ _, .int _ _, _, .int _ _] ?_
    refine zLc (ref08_Look m hm) ?_
    refine zLT [_, _, _] ?_
    refine zLO ?_
    refine zLI ?_
    refine zLG [.int _ _, .int _ _, .int _ _] ?_
    refine zal [.int .i64 0, .int .i64 0, .int .i64 0] 3 ?_
    refine zLO ?_
    refine zLI ?_
    refine zst (.agg [.int _ _, .int _ _, .int _ _]) [_, _, _] [[_, _, _]] ?_
    refine zn ?_
    refine zs ?_
    refine zs ?_
    refine zR ?_
    refine zLP ?_
    refine zLI ?_
    refine zLB ?_
    refine zn ?_
    refine W_cond_f (b := _) rfl (by exact hc21) ?_
    refine zk ?_
    refine zs ?_
    refine zs ?_
    refine zR ?_
    refine zLI ?_
    refine zLB ?_
    refine zLB ?_
    refine zgLI ?_
    refine zgLP ?_
    refine zgLO ?_
    refine zgLI ?_
    refine zgLB ?_
    refine zpLB ?_
    refine zn ?_
    refine W_cond_f (b := _) rfl (by exact hc33) ?_
    refine zk ?_
    refine zs ?_
    refine zR ?_
    refine zLP ?_
    refine zLO ?_
    refine zLI ?_
    refine zLI ?_
    (refine L_v Tb_ok (v := _) (ave_index_ro rfl rfl rfl (fun _ => rfl) rfl (by first | exact p1 | exact p2) (by first | exact p1 | exact p2) trivial) rfl ?_)
    refine zLG [.int _ _, .int _ _, .int _ _, .int _ _, .int _ _, .int _ _, .int _ _, .int _ _, .int _ _, .int _ _, .int _ _, .int _ _, _, _, .int _ _, .int _ _, .int _ _, .int _ _, .int _ _, .int _ _, .int _ _, .int _ _] ?_
    refine zal [.int .i64 0, .int .i64 0, .int .i64 0, .int .i64 0, .int .i64 0, .int .i64 0, .int .i64 0, .int .i64 0, .int .i64 0, .int .i64 0, .int .i64 0, .int .i64 0, .nils, .nils, .int .i64 0, .int .i64 0, .int .i64 0, .int .i64 0, .int .i64 0, .int .i64 0, .int .i64 0, .int .i64 0] 22 ?_
    refine zst (.agg [.int _ _, .int _ _, .int _ _, .int _ _, .int _ _, .int _ _, .int _ _, .int _ _, .int _ _, .int _ _, .int _ _, .int _ _, _, _, .int _ _, .int _ _, .int _ _, .int _ _, .int _ _, .int _ _, .int _ _, .int _ _]) [_, _, _, _, _, _, _, _, _, _, _, _, _, _, _, _, _, _, _, _, _, _] [[_, _, _, _, _, _, _, _, _, _, _, _, _, _, _, _, _, _, _, _, _, _]] ?_
    refine zn ?_
    refine zs ?_
    refine zs ?_
    refine zR ?_
    refine zLP ?_
    refine zLI ?_
    refine zLc (ref08_Reduces _) ?_
    refine zLB ?_
    refine zn ?_
    refine W_cond_t (b := _) rfl (by exact hc44) ?_
    refine zs ?_
    refine zR ?_
    refine zLG [.int _ _, .int _ _, .int _ _, .int _ _, .int _ _, .int _ _, .int _ _, .int _ _, .int _ _, .int _ _, .int _ _, .int _ _, _, _, .int _ _, .int _ _, .int _ _, .int _ _, .int _ _, .int _ _, .int _ _, .int _ _, .int _ _, .int _ _, .int _ _, .int _ _, .int _ _, .int _ _] ?_
    refine zst (.agg [.int _ _, .int _ _, .int _ _, .int _ _, .int _ _, .int _ _, .int _ _, .int _ _, .int _ _, .int _ _, .int _ _, .int _ _, _, _, .int _ _, .int _ _, .int _ _, .int _ _, .int _ _, .int _ _, .int _ _, .int _ _, .int _ _, .int _ _, .int _ _, .int _ _, .int _ _, .int _ _]) [_, _, _, _, _, _, _, _, _, _, _, _, _, _, _, _, _, _, _, _, _, _, _, _, _, _, _, _] [[_, _, _, _, _, _, _, _, _, _, _, _, _, _, _, _, _, _, _, _, _, _, _, _, _, _, _, _]] ?_
    refine zLI ?_
    refine zn ?_
    refine zt ?_
    refine ends (l := [.agg [.int _ _, .int _ _, .int _ _, .int _ _, .int _ _, .int _ _, .int _ _, .int _ _, .int _ _, .int _ _, .int _ _, .int _ _, _, _, .int _ _, .int _ _, .int _ _, .int _ _, .int _ _, .int _ _, .int _ _, .int _ _, .int _ _, .int _ _, .int _ _, .int _ _, .int _ _, .int _ _], .int _ _]) (q := .tup [.agg [.int _ _, .int _ _, .int _ _, .int _ _, .int _ _, .int _ _, .int _ _, .int _ _, .int _ _, .int _ _, .int _ _, .int _ _, _, _, .int _ _, .int _ _, .int _ _, .int _ _, .int _ _, .int _ _, .int _ _, .int _ _, .int _ _, .int _ _, .int _ _, .int _ _, .int _ _, .int _ _], .int _ _]) (.inr rfl) rfl ⟨rfl, trivial, trivial⟩ rfl rfl ?_
    simp [rfE, rfS, e, rsiteC, site0, opC, shapeC, demC]
  | false =>
  have hc44 : (!inB (m.Ops.getD (IntKind.i64.wrap (op - 1)).toNat default).Kind 1 4) = false := by rw [eo]; exact h3
  have e : findE m op = 0 := by simp [findE, h1, h2, h3]
  have eS : findS m op = ⟨opAt m op, aAt m op, (wholeF m).1.getD op.toNat default, lenAt m op⟩ := by simp [findS, h1, h2, h3]
  have q1 : 0 ≤ (m.Ops.getD (IntKind.i64.wrap (op - 1)).toNat default).A := by rw [eo]; exact o5
  have q2 : (m.Ops.getD (IntKind.i64.wrap (op - 1)).toNat default).A < ((wholeF m).1.length : Int) := by rw [eo]; exact o6
  have q3 : 0 ≤ op := by omega
  --@@4
  skip
  refine fn_ok Tb_ok (fn := Try.f78) Try.func78 rfl rfl (e := [(0, _), (1, _), (2, _)]) rfl (by decide) rfl ?_
  refine zs ?_
  refine zR ?_
  refine zbx [.int _ _, .int _ _, .int _ _, .int _ _, .int _ _, _, .int _ _] 7 ?_
  refine zal [.int .i64 0, .int .i64 0, .int .i64 0, .int .i64 0, .int .i64 0, .int .i64 0, .int .i64 0, .int .i64 0, .int .i64 0, .int .i64 0, .int .i64 0, .int .i64 0, .nils, .nils, .int .i64 0, .int .i64 0, .int .i64 0, .int .i64 0, .int .i64 0, .int .i64 0, .int .i64 0, .int .i64 0, .int .i64 0, .int .i64 0, .int .i64 0, .int .i64 0, .int .i64 0, .int .i64 0] 28 ?_
  refine zLI ?_
  refine zn ?_
  refine zs ?_
  refine zR ?_
  refine zLG [.int _ _, .int _ _, .int _ _, .int _ _, .int _ _, _, .int _ _] ?_
  refine zLc (ref08_Look m hm) ?_
  refine zLT [_, _, _] ?_
  refine zLO ?_
  refine zLI ?_
  refine zLG [.int _ _, .int _ _, .int _ _] ?_
  refine zal [.int .i64 0, .int .i64 0, .int .i64 0] 3 ?_
  refine zLO ?_
  refine zLI ?_
  refine zst (.agg [.int _ _, .int _ _, .int _ _]) [_, _, _] [[_, _, _]] ?_
  refine zn ?_
  refine zs ?_
  refine zs ?_
  refine zR ?_
  refine zLP ?_
  refine zLI ?_
  refine zLB ?_
  refine zn ?_
  refine W_cond_f (b := _) rfl (by exact hc21) ?_
  refine zk ?_
  refine zs ?_
  refine zs ?_
  refine zR ?_
  refine zLI ?_
  refine zLB ?_
  refine zLB ?_
  refine zgLI ?_
  refine zgLP ?_
  refine zgLO ?_
  refine zgLI ?_
  refine zgLB ?_
  refine zpLB ?_
  refine zn ?_
  refine W_cond_f (b := _) rfl (by exact hc33) ?_
  refine zk ?_
  refine zs ?_
  refine zR ?_
  refine zLP ?_
  refine zLO ?_
  refine zLI ?_
  refine zLI ?_
  (refine L_v Tb_ok (v := _) (ave_index_ro rfl rfl rfl (fun _ => rfl) rfl (by first | exact p1 | exact p2) (by first | exact p1 | exact p2) trivial) rfl ?_)
  refine zLG [.int _ _, .int _ _, .int _ _, .int _ _, .int _ _, .int _ _, .int _ _, .int _ _, .int _ _, .int _ _, .int _ _, .int _ _, _, _, .int _ _, .int _ _, .int _ _, .int _ _, .int _ _, .int _ _, .int _ _, .int _ _] ?_
  refine zal [.int .i64 0, .int .i64 0, .int .i64 0, .int .i64 0, .int .i64 0, .int .i64 0, .int .i64 0, .int .i64 0, .int .i64 0, .int .i64 0, .int .i64 0, .int .i64 0, .nils, .nils, .int .i64 0, .int .i64 0, .int .i64 0, .int .i64 0, .int .i64 0, .int .i64 0, .int .i64 0, .int .i64 0] 22 ?_
  refine zst (.agg [.int _ _, .int _ _, .int _ _, .int _ _, .int _ _, .int _ _, .int _ _, .int _ _, .int _ _, .int _ _, .int _ _, .int _ _, _, _, .int _ _, .int _ _, .int _ _, .int _ _, .int _ _, .int _ _, .int _ _, .int _ _]) [_, _, _, _, _, _, _, _, _, _, _, _, _, _, _, _, _, _, _, _, _, _] [[_, _, _, _, _, _, _, _, _, _, _, _, _, _, _, _, _, _, _, _, _, _]] ?_
  refine zn ?_
  refine zs ?_
  refine zs ?_
  refine zR ?_
  refine zLP ?_
  refine zLI ?_
  refine zLc (ref08_Reduces _) ?_
  refine zLB ?_
  refine zn ?_
  refine W_cond_f (b := _) rfl (by exact hc44) ?_
  refine zk ?_
  refine zs ?_
  refine W_drawF (fun e => []) 11 [[11, 12]] Tb_mixed rfl (by decide) (by kernel_rfl) ?_
  refine zSG [.int _ _, .int _ _, .int _ _, .int _ _, .int _ _, .int _ _, .int _ _, .int _ _, .int _ _, .int _ _, .int _ _, .int _ _, _, _, .int _ _, .int _ _, .int _ _, .int _ _, .int _ _, .int _ _, .int _ _, .int _ _] ?_
  refine zSO ?_
  refine zSP ?_
  refine zSI ?_
  (refine S_v Tb_ok (v := _) (ave_index_ro rfl rfl rfl (fun _ => rfl) rfl (by first | exact q1 | exact q2) (by first | exact q1 | exact q2) trivial) rfl ?_)
  refine zSG [.int _ _, .int _ _, .int _ _] ?_
  refine zSO ?_
  refine zSI ?_
  (refine S_v Tb_ok (v := _) (ave_index_ro rfl rfl rfl (fun _ => rfl) rfl (by first | exact q3 | exact o4) (by first | exact q3 | exact o4) trivial) rfl ?_)
  refine zSG [.int _ _, .int _ _, .int _ _] ?_
  refine zSG [.int _ _, .int _ _, .int _ _, .int _ _, .int _ _, .int _ _, .int _ _, .int _ _, .int _ _, .int _ _, .int _ _, .int _ _, _, _, .int _ _, .int _ _, .int _ _, .int _ _, .int _ _, .int _ _, .int _ _, .int _ _, .int _ _, .int _ _, .int _ _, .int _ _, .int _ _, .int _ _] ?_
  refine S_nil ?_
  refine TT_one ?_
  refine TT_alloc Tb_ok (OSub_forget _ _) rfl (z := [.int .i64 0, .int .i64 0, .int .i64 0, .int .i64 0, .int .i64 0, .int .i64 0, .int .i64 0, .int .i64 0, .int .i64 0, .int .i64 0, .int .i64 0, .int .i64 0, .nils, .nils, .int .i64 0, .int .i64 0, .int .i64 0, .int .i64 0, .int .i64 0, .int .i64 0, .int .i64 0, .int .i64 0, .int .i64 0, .int .i64 0, .int .i64 0, .int .i64 0, .int .i64 0, .int .i64 0]) (n := 28) rfl rfl rfl rfl rfl rfl (fun ht1 => ?_)
  refine TT_store Tb_ok ht1 rfl (v := .agg [.int _ _, .int _ _, .int _ _, .int _ _, .int _ _, .int _ _, .int _ _, .int _ _, .int _ _, .int _ _, .int _ _, .int _ _, _, _, .int _ _, .int _ _, .int _ _, .int _ _, .int _ _, .int _ _, .int _ _, .int _ _, .int _ _, .int _ _, .int _ _, .int _ _, .int _ _, .int _ _]) (cs := [_, _, _, _, _, _, _, _, _, _, _, _, _, _, _, _, _, _, _, _, _, _, _, _, _, _, _, _]) (es' := [[_, _, _, _, _, _, _, _, _, _, _, _, _, _, _, _, _, _, _, _, _, _, _, _, _, _, _, _]]) rfl rfl rfl rfl rfl rfl rfl rfl rfl rfl rfl ⟨trivial, trivial⟩ (fun ht2 => ?_)
  refine TT_nil ?_
  try clear ht2
  try clear ht1
  refine zs ?_
  refine zs ?_
  refine zR ?_
  refine zLI ?_
  refine zLB ?_
  refine zLB ?_
  refine zgLI ?_
  refine zgLP ?_
  refine zgLP ?_
  refine zgLI ?_
  refine zgLB ?_
  refine zpLB ?_
  refine zn ?_
  refine W_cond (b := _) rfl (fun h65 => ?_) (fun h65 => ?_)
  · have hb : (bif decide (ch < 0) then true else decide (ch > (findS m op).Out.C)) = true := by rw [eS]; exact h65
    refine zs ?_
    refine zR ?_
    refine zLG [.int _ _, .int _ _, .int _ _, .int _ _, .int _ _, .int _ _, .int _ _, .int _ _, .int _ _, .int _ _, .int _ _, .int _ _, _, _, .int _ _, .int _ _, .int _ _, .int _ _, .int _ _, .int _ _, .int _ _, .int _ _, .int _ _, .int _ _, .int _ _, .int _ _, .int _ _, .int _ _] ?_
    refine zst (.agg [.int _ _, .int _ _, .int _ _, .int _ _, .int _ _, .int _ _, .int _ _, .int _ _, .int _ _, .int _ _, .int _ _, .int _ _, _, _, .int _ _, .int _ _, .int _ _, .int _ _, .int _ _, .int _ _, .int _ _, .int _ _, .int _ _, .int _ _, .int _ _, .int _ _, .int _ _, .int _ _]) [_, _, _, _, _, _, _, _, _, _, _, _, _, _, _, _, _, _, _, _, _, _, _, _, _, _, _, _] [[_, _, _, _, _, _, _, _, _, _, _, _, _, _, _, _, _, _, _, _, _, _, _, _, _, _, _, _]] ?_
    refine zLI ?_
    refine zn ?_
    refine zt ?_
    refine ends (l := [.agg [.int _ _, .int _ _, .int _ _, .int _ _, .int _ _, .int _ _, .int _ _, .int _ _, .int _ _, .int _ _, .int _ _, .int _ _, _, _, .int _ _, .int _ _, .int _ _, .int _ _, .int _ _, .int _ _, .int _ _, .int _ _, .int _ _, .int _ _, .int _ _, .int _ _, .int _ _, .int _ _], .int _ _]) (q := .tup [.agg [.int _ _, .int _ _, .int _ _, .int _ _, .int _ _, .int _ _, .int _ _, .int _ _, .int _ _, .int _ _, .int _ _, .int _ _, _, _, .int _ _, .int _ _, .int _ _, .int _ _, .int _ _, .int _ _, .int _ _, .int _ _, .int _ _, .int _ _, .int _ _, .int _ _, .int _ _, .int _ _], .int _ _]) (.inr rfl) rfl ⟨rfl, trivial, trivial⟩ rfl rfl ?_
    have r : rfE m op ch = 3 := by simp only [rfE, e, hb, if_true]
    simp [rfS, r, rsiteC, site0, opC, shapeC, demC]
  · have hb : (bif decide (ch < 0) then true else decide (ch > (findS m op).Out.C)) = false := by rw [eS]; exact h65
    refine zk ?_
    refine zs ?_
    refine zR ?_
    refine zLG [.int _ _, .int _ _, .int _ _, .int _ _, .int _ _, .int _ _, .int _ _, .int _ _, .int _ _, .int _ _, .int _ _, .int _ _, _, _, .int _ _, .int _ _, .int _ _, .int _ _, .int _ _, .int _ _, .int _ _, .int _ _, .int _ _, .int _ _, .int _ _, .int _ _, .int _ _, .int _ _] ?_
    refine zst (.agg [.int _ _, .int _ _, .int _ _, .int _ _, .int _ _, .int _ _, .int _ _, .int _ _, .int _ _, .int _ _, .int _ _, .int _ _, _, _, .int _ _, .int _ _, .int _ _, .int _ _, .int _ _, .int _ _, .int _ _, .int _ _, .int _ _, .int _ _, .int _ _, .int _ _, .int _ _, .int _ _]) [_, _, _, _, _, _, _, _, _, _, _, _, _, _, _, _, _, _, _, _, _, _, _, _, _, _, _, _] [[_, _, _, _, _, _, _, _, _, _, _, _, _, _, _, _, _, _, _, _, _, _, _, _, _, _, _, _]] ?_
    refine zLI ?_
    refine zn ?_
    refine zt ?_
    refine ends (l := [.agg [.int _ _, .int _ _, .int _ _, .int _ _, .int _ _, .int _ _, .int _ _, .int _ _, .int _ _, .int _ _, .int _ _, .int _ _, _, _, .int _ _, .int _ _, .int _ _, .int _ _, .int _ _, .int _ _, .int _ _, .int _ _, .int _ _, .int _ _, .int _ _, .int _ _, .int _ _, .int _ _], .int _ _]) (q := .tup [.agg [.int _ _, .int _ _, .int _ _, .int _ _, .int _ _, .int _ _, .int _ _, .int _ _, .int _ _, .int _ _, .int _ _, .int _ _, _, _, .int _ _, .int _ _, .int _ _, .int _ _, .int _ _, .int _ _, .int _ _, .int _ _, .int _ _, .int _ _, .int _ _, .int _ _, .int _ _, .int _ _], .int _ _]) (.inr rfl) rfl ⟨rfl, trivial, trivial⟩ rfl rfl ?_
    have r : rfE m op ch = 0 := by simp [rfE, e, hb]
    have eS2 : findS m op = ⟨m.Ops.getD (IntKind.i64.wrap (op - 1)).toNat default, (wholeF m).1.getD (m.Ops.getD (IntKind.i64.wrap (op - 1)).toNat default).A.toNat default, (wholeF m).1.getD op.toNat default, lenAt m op⟩ := by rw [eS, eo]; rfl
    simp only [rfS, r, if_true, eS2]; rfl
def rcE (m : Model) (op ch : Int) : Int := if (rfE m op ch == 0 && ch == 0) then 3 else rfE m op ch
def rcS (m : Model) (op ch : Int) : Site := if (rfE m op ch == 0 && ch == 0) then site0 else rfS m op ch
theorem ref10_FindChan (m : Model) (hm : m.Wf) (op ch : Int) : Ok Try.prog 40 [.agg (modelC m), .int .i64 op, .int .i64 ch] (.tup [.agg (rsiteC (rcS m op ch)), .int .i64 (rcE m op ch)]) := by
  refine fn_ok Tb_ok (fn := Try.f40) Try.func40 rfl rfl (e := [(0, _), (1, _), (2, _)]) rfl (by decide) rfl ?_
  refine zs ?_
  refine zR ?_
  refine zbx [.int _ _, .int _ _, .int _ _, .int _ _, .int _ _, _, .int _ _] 7 ?_
  refine zal [.int .i64 0, .int .i64 0, .int .i64 0, .int .i64 0, .int .i64 0, .int .i64 0, .int .i64 0, .int .i64 0, .int .i64 0, .int .i64 0, .int .i64 0, .int .i64 0, .nils, .nils, .int .i64 0, .int .i64 0, .int .i64 0, .int .i64 0, .int .i64 0, .int .i64 0, .int .i64 0, .int .i64 0, .int .i64 0, .int .i64 0, .int .i64 0, .int .i64 0, .int .i64 0, .int .i64 0] 28 ?_
  refine zLI ?_
  refine zn ?_
  refine zs ?_
  refine zR ?_
  refine zLG [.int _ _, .int _ _, .int _ _, .int _ _, .int _ _, _, .int _ _] ?_
  refine zLI ?_
  refine zLI ?_
  refine zLc (ref10_Find m hm op ch) ?_
  refine zLT [_, _] ?_
  refine zLG [.int _ _, .int _ _, .int _ _, .int _ _, .int _ _, .int _ _, .int _ _, .int _ _, .int _ _, .int _ _, .int _ _, .int _ _, _, _, .int _ _, .int _ _, .int _ _, .int _ _, .int _ _, .int _ _, .int _ _, .int _ _, .int _ _, .int _ _, .int _ _, .int _ _, .int _ _, .int _ _] ?_
  refine zLI ?_
  refine zal [.int .i64 0, .int .i64 0, .int .i64 0, .int .i64 0, .int .i64 0, .int .i64 0, .int .i64 0, .int .i64 0, .int .i64 0, .int .i64 0, .int .i64 0, .int .i64 0, .nils, .nils, .int .i64 0, .int .i64 0, .int .i64 0, .int .i64 0, .int .i64 0, .int .i64 0, .int .i64 0, .int .i64 0, .int .i64 0, .int .i64 0, .int .i64 0, .int .i64 0, .int .i64 0, .int .i64 0] 28 ?_
  refine zst (.agg [.int _ _, .int _ _, .int _ _, .int _ _, .int _ _, .int _ _, .int _ _, .int _ _, .int _ _, .int _ _, .int _ _, .int _ _, _, _, .int _ _, .int _ _, .int _ _, .int _ _, .int _ _, .int _ _, .int _ _, .int _ _, .int _ _, .int _ _, .int _ _, .int _ _, .int _ _, .int _ _]) [_, _, _, _, _, _, _, _, _, _, _, _, _, _, _, _, _, _, _, _, _, _, _, _, _, _, _, _] [[_, _, _, _, _, _, _, _, _, _, _, _, _, _, _, _, _, _, _, _, _, _, _, _, _, _, _, _]] ?_
  refine zLI ?_
  refine zn ?_
  refine zs ?_
  refine zs ?_
  refine zR ?_
  refine zLI ?_
  refine zLB ?_
  refine zLB ?_
  refine zgLI ?_
  refine zgLB ?_
  refine zpLB ?_
  refine zn ?_
  refine W_cond (b := _) rfl (fun h22 => ?_) (fun h22 => ?_)
  · have hb : (rfE m op ch == 0 && ch == 0) = true := by rw [← cond_x]; exact h22
    refine zs ?_
    refine zR ?_
    refine zLG [.int _ _, .int _ _, .int _ _, .int _ _, .int _ _, .int _ _, .int _ _, .int _ _, .int _ _, .int _ _, .int _ _, .int _ _, _, _, .int _ _, .int _ _, .int _ _, .int _ _, .int _ _, .int _ _, .int _ _, .int _ _, .int _ _, .int _ _, .int _ _, .int _ _, .int _ _, .int _ _] ?_
    refine zst (.agg [.int _ _, .int _ _, .int _ _, .int _ _, .int _ _, .int _ _, .int _ _, .int _ _, .int _ _, .int _ _, .int _ _, .int _ _, _, _, .int _ _, .int _ _, .int _ _, .int _ _, .int _ _, .int _ _, .int _ _, .int _ _, .int _ _, .int _ _, .int _ _, .int _ _, .int _ _, .int _ _]) [_, _, _, _, _, _, _, _, _, _, _, _, _, _, _, _, _, _, _, _, _, _, _, _, _, _, _, _] [[_, _, _, _, _, _, _, _, _, _, _, _, _, _, _, _, _, _, _, _, _, _, _, _, _, _, _, _]] ?_
    refine zLI ?_
    refine zn ?_
    refine zt ?_
    refine ends (l := [.agg [.int _ _, .int _ _, .int _ _, .int _ _, .int _ _, .int _ _, .int _ _, .int _ _, .int _ _, .int _ _, .int _ _, .int _ _, _, _, .int _ _, .int _ _, .int _ _, .int _ _, .int _ _, .int _ _, .int _ _, .int _ _, .int _ _, .int _ _, .int _ _, .int _ _, .int _ _, .int _ _], .int _ _]) (q := .tup [.agg [.int _ _, .int _ _, .int _ _, .int _ _, .int _ _, .int _ _, .int _ _, .int _ _, .int _ _, .int _ _, .int _ _, .int _ _, _, _, .int _ _, .int _ _, .int _ _, .int _ _, .int _ _, .int _ _, .int _ _, .int _ _, .int _ _, .int _ _, .int _ _, .int _ _, .int _ _, .int _ _], .int _ _]) (.inr rfl) rfl ⟨rfl, trivial, trivial⟩ rfl rfl ?_
    simp only [rcE, rcS, hb, if_true]; rfl
  · have hb : (rfE m op ch == 0 && ch == 0) = false := by rw [← cond_x]; exact h22
    refine zk ?_
    refine zs ?_
    refine zR ?_
    refine zLG [.int _ _, .int _ _, .int _ _, .int _ _, .int _ _, .int _ _, .int _ _, .int _ _, .int _ _, .int _ _, .int _ _, .int _ _, _, _, .int _ _, .int _ _, .int _ _, .int _ _, .int _ _, .int _ _, .int _ _, .int _ _, .int _ _, .int _ _, .int _ _, .int _ _, .int _ _, .int _ _] ?_
    refine zLI ?_
    refine zst (.agg [.int _ _, .int _ _, .int _ _, .int _ _, .int _ _, .int _ _, .int _ _, .int _ _, .int _ _, .int _ _, .int _ _, .int _ _, _, _, .int _ _, .int _ _, .int _ _, .int _ _, .int _ _, .int _ _, .int _ _, .int _ _, .int _ _, .int _ _, .int _ _, .int _ _, .int _ _, .int _ _]) [_, _, _, _, _, _, _, _, _, _, _, _, _, _, _, _, _, _, _, _, _, _, _, _, _, _, _, _] [[_, _, _, _, _, _, _, _, _, _, _, _, _, _, _, _, _, _, _, _, _, _, _, _, _, _, _, _]] ?_
    refine zLI ?_
    refine zn ?_
    refine zt ?_
    refine ends (l := [.agg [.int _ _, .int _ _, .int _ _, .int _ _, .int _ _, .int _ _, .int _ _, .int _ _, .int _ _, .int _ _, .int _ _, .int _ _, _, _, .int _ _, .int _ _, .int _ _, .int _ _, .int _ _, .int _ _, .int _ _, .int _ _, .int _ _, .int _ _, .int _ _, .int _ _, .int _ _, .int _ _], .int _ _]) (q := .tup [.agg [.int _ _, .int _ _, .int _ _, .int _ _, .int _ _, .int _ _, .int _ _, .int _ _, .int _ _, .int _ _, .int _ _, .int _ _, _, _, .int _ _, .int _ _, .int _ _, .int _ _, .int _ _, .int _ _, .int _ _, .int _ _, .int _ _, .int _ _, .int _ _, .int _ _, .int _ _, .int _ _], .int _ _]) (.inr rfl) rfl ⟨rfl, trivial, trivial⟩ rfl rfl ?_
    simp only [rcE, rcS, hb, Bool.false_eq_true, if_false]; rfl
theorem ref10_Positions (s : Site) : Ok Try.prog 47 [.agg (rsiteC s)] (.int .i64 (w64 (s.Out.H * s.Out.W))) := by
  refine fn_ok Tb_ok (fn := Try.f47) Try.func47 rfl rfl (e := [(0, _)]) rfl (by decide) rfl ?_
  refine zs ?_
  refine zR ?_
  refine zbx [.int _ _, .int _ _, .int _ _, .int _ _, .int _ _, .int _ _, .int _ _, .int _ _, .int _ _, .int _ _, .int _ _, .int _ _, _, _, .int _ _, .int _ _, .int _ _, .int _ _, .int _ _, .int _ _, .int _ _, .int _ _, .int _ _, .int _ _, .int _ _, .int _ _, .int _ _, .int _ _] 28 ?_
  refine zLI ?_
  refine zn ?_
  refine zs ?_
  refine zR ?_
  refine zLP ?_
  refine zLP ?_
  refine zLI ?_
  refine zLP ?_
  refine zLP ?_
  refine zLI ?_
  refine zLI ?_
  refine zLI ?_
  refine zn ?_
  refine zt ?_
  refine ends (l := [.int _ _]) (q := .int _ _) (.inr rfl) rfl ⟨trivial, trivial⟩ rfl rfl ?_
  rfl
theorem ref10_Length (s : Site) : Ok Try.prog 21 [.agg (rsiteC s)] (.int .i64 (lenF s.Op s.In)) := by
  refine fn_ok Tb_ok (fn := Try.f21) Try.func21 rfl rfl (e := [(0, _)]) rfl (by decide) rfl ?_
  refine zs ?_
  refine zR ?_
  refine zbx [.int _ _, .int _ _, .int _ _, .int _ _, .int _ _, .int _ _, .int _ _, .int _ _, .int _ _, .int _ _, .int _ _, .int _ _, _, _, .int _ _, .int _ _, .int _ _, .int _ _, .int _ _, .int _ _, .int _ _, .int _ _, .int _ _, .int _ _, .int _ _, .int _ _, .int _ _, .int _ _] 28 ?_
  refine zLI ?_
  refine zn ?_
  refine zs ?_
  refine zR ?_
  refine zLP ?_
  refine zLG [.int _ _, .int _ _, .int _ _, .int _ _, .int _ _, .int _ _, .int _ _, .int _ _, .int _ _, .int _ _, .int _ _, .int _ _, _, _, .int _ _, .int _ _, .int _ _, .int _ _, .int _ _, .int _ _, .int _ _, .int _ _] ?_
  refine zLP ?_
  refine zLG [.int _ _, .int _ _, .int _ _] ?_
  refine zLc (ref08_Length s.Op s.In) ?_
  refine zLI ?_
  refine zn ?_
  refine zt ?_
  refine ends (l := [.int _ _]) (q := .int _ _) (.inr rfl) rfl ⟨trivial, trivial⟩ rfl rfl ?_
  rfl
theorem ref10_Bias (s : Site) (ch : Int) (h : s.Op.Kind ≠ 4 → 0 ≤ w64 (ch - 1) ∧ w64 (ch - 1) < s.Op.Bias.length) : Ok Try.prog 80 [.agg (rsiteC s), .int .i64 ch] (.int .i64 (if s.Op.Kind = 4 then 0 else w64 (s.Op.Bias.getD (w64 (ch - 1)).toNat default))) := by
  refine fn_ok Tb_ok (fn := Try.f80) Try.func80 rfl rfl (e := [(0, _), (1, _)]) rfl (by decide) rfl ?_
  refine zs ?_
  refine zR ?_
  refine zbx [.int _ _, .int _ _, .int _ _, .int _ _, .int _ _, .int _ _, .int _ _, .int _ _, .int _ _, .int _ _, .int _ _, .int _ _, _, _, .int _ _, .int _ _, .int _ _, .int _ _, .int _ _, .int _ _, .int _ _, .int _ _, .int _ _, .int _ _, .int _ _, .int _ _, .int _ _, .int _ _] 28 ?_
  refine zLI ?_
  refine zn ?_
  refine zs ?_
  refine zs ?_
  refine zR ?_
  refine zLP ?_
  refine zLP ?_
  refine zLI ?_
  refine zLB ?_
  refine zn ?_
  refine W_cond (b := _) rfl (fun h8 => ?_) (fun h8 => ?_)
  · refine zs ?_
    refine zR ?_
    refine zLI ?_
    refine zn ?_
    refine zt ?_
    refine ends (l := [.int _ _]) (q := .int _ _) (.inr rfl) rfl ⟨trivial, trivial⟩ rfl rfl ?_
    have hk : s.Op.Kind = 4 := by simpa using h8
    simp [hk]
  · have hk : s.Op.Kind ≠ 4 := by simpa using h8
    obtain ⟨b0, b1⟩ := h hk
    refine zk ?_
    refine zs ?_
    refine zR ?_
    refine zLP ?_
    refine zLP ?_
    refine zLO ?_
    refine zLI ?_
    refine zLI ?_
    (refine L_v Tb_ok (v := _) (ave_index_ro rfl rfl rfl (fun _ => rfl) rfl (by first | exact b0 | exact b1) (by first | exact b0 | exact b1) trivial) rfl ?_)
    refine zLI ?_
    refine zLI ?_
    refine zLI ?_
    refine zn ?_
    refine zt ?_
    refine ends (l := [.int _ _]) (q := .int _ _) (.inr rfl) rfl ⟨trivial, trivial⟩ rfl rfl ?_
    rw [if_neg hk]; rfl
theorem lenF_site {m : Model} {op : Int} (h : findE m op = 0) : lenF (findS m op).Op (findS m op).In = (findS m op).Len := by
  obtain ⟨hS, _, _, _, e⟩ := site_ok h
  have hk := hS.kind
  rw [e] at hk ⊢
  dsimp only at hk ⊢
  unfold lenF lenAt
  by_cases k1 : (opAt m op).Kind = 1
  · simp [k1]
  · have z1 : ((opAt m op).Kind == 1) = false := by simpa using k1
    by_cases k2 : (opAt m op).Kind = 2
    · simp [k2]
    · have z2 : ((opAt m op).Kind == 2) = false := by simpa using k2
      rw [z1, z2, if_neg k1, if_neg k2]; rfl
end Go.AM
end
section
open Go Go.AM Go.Proofs
set_option maxRecDepth 10000
set_option linter.unusedVariables false
set_option linter.unusedSimpArgs false
namespace Go.AM
def tapL (s : Shape) (w : Window) (top left : Int) : List Int := (List.range (tapN w)).map fun (k : Nat) => tapPlace s w top left k
theorem take_snoc {l : List Int} {k : Nat} {v : Int} (h : k < l.length) (hv : l.getD k 0 = v) : l.take k ++ [v] = l.take (k + 1) := by
  rw [List.take_add_one, ← hv]; simp [List.getD_eq_getElem?_getD, h]
theorem tapL_get {s : Shape} {w : Window} {top left : Int} {k : Nat} (h : k < tapN w) : (tapL s w top left).getD k 0 = tapPlace s w top left k := by
  simp [tapL, List.getD_eq_getElem?_getD, h]
theorem w64_addr (a b : Int) : w64 (a + w64 b) = w64 (a + b) := by obtain ⟨q, hq⟩ := w64_form b; rw [hq, ← Int.add_assoc]; exact w64_add _ _
theorem tap_yx {s : Shape} {w : Window} {top left : Int} {ky kx : Nat} (hW : 1 ≤ w.KW) (hs : shapeB s = true) (hkx : (kx : Int) < w.KW) :
    tapPlace s w top left ((ky * w.KW.toNat + kx : Nat) : Int) = bif (bif (bif (bif decide (w64 (top + ky) < 0) then true else decide (w64 (top + ky) ≥ s.H)) then true else decide (w64 (left + kx) < 0)) then true else decide (w64 (left + kx) ≥ s.W)) then -1 else w64 (w64 (w64 (top + ky) * s.W) + w64 (left + kx)) := by
  have B := shapeB_iff.1 hs
  have e0 : ((ky * w.KW.toNat + kx : Nat) : Int) = (kx : Int) + w.KW * ky := by
    have : ((w.KW.toNat : Nat) : Int) = w.KW := by omega
    rw [Int.natCast_add, Int.natCast_mul, this, Int.mul_comm]; omega
  have e1 : ((ky * w.KW.toNat + kx : Nat) : Int).tdiv w.KW = ky := by
    rw [Int.tdiv_eq_ediv_of_nonneg (by omega), e0, Int.add_mul_ediv_left _ _ (by omega), Int.ediv_eq_zero_of_lt (by omega) hkx]; omega
  have e2 : ((ky * w.KW.toNat + kx : Nat) : Int).tmod w.KW = kx := by
    rw [Int.tmod_eq_emod_of_nonneg (by omega), e0, Int.add_mul_emod_self_left, Int.emod_eq_of_lt (by omega) hkx]
  unfold tapPlace
  rw [e1, e2]
  simp only [w64_addr]
  rw [show w64 (s.H - 1) = s.H - 1 from w64_id (by omega), show w64 (s.W - 1) = s.W - 1 from w64_id (by omega)]
  generalize w64 (top + (ky : Int)) = y
  generalize w64 (left + (kx : Int)) = x
  unfold inB
  have d1 : decide (0 ≤ y) = !decide (y < 0) := by by_cases h : y < 0 <;> simp [h] <;> omega
  have d2 : decide (y ≤ s.H - 1) = !decide (y ≥ s.H) := by by_cases h : y ≥ s.H <;> simp [h] <;> omega
  have d3 : decide (0 ≤ x) = !decide (x < 0) := by by_cases h : x < 0 <;> simp [h] <;> omega
  have d4 : decide (x ≤ s.W - 1) = !decide (x ≥ s.W) := by by_cases h : x ≥ s.W <;> simp [h] <;> omega
  rw [d1, d2, d3, d4]
  cases decide (y < 0) <;> cases decide (y ≥ s.H) <;> cases decide (x < 0) <;> cases decide (x ≥ s.W) <;> rfl
theorem mul_lt_two {a b A B : Nat} (ha : a < A) (hb : b < B) : a * B + b < A * B := by
  have : (a + 1) * B ≤ A * B := Nat.mul_le_mul_right _ ha
  rw [Nat.add_mul, Nat.one_mul] at this; omega
theorem ref06_Taps (s : Shape) (w : Window) (at_ : Int) (hbad : tapsBad s w at_ = false) : Ok Try.prog 83 [.agg (shapeC s), .agg (windowC w), .int .i64 at_] (.ro ((tapL s w (tapsTop s w at_) (tapsLeft s w at_)).map intC)) := by
  have hE : outE s w = 0 := by
    unfold tapsBad at hbad
    cases hq : outE s w != 0 with
    | true => rw [hq] at hbad; simp at hbad
    | false => simpa using hq
  obtain ⟨hs, hw, _, _⟩ := outE_zero hE
  have W := windowB_iff hw
  have hne := taps_ne hbad
  have hKH : ((w.KH.toNat : Nat) : Int) = w.KH := by omega
  have hKW : ((w.KW.toNat : Nat) : Int) = w.KW := by omega
  have hN : tapN w = w.KH.toNat * w.KW.toNat := by
    unfold tapN
    have a0 := Int.mul_le_mul W.1.1 W.2.1.1 (by omega) (by omega)
    have a2 : w.KH * w.KW ≤ 32 * 32 := Int.mul_le_mul W.1.2 W.2.1.2 (by omega) (by omega)
    rw [show w64 (w.KH * w.KW) = w.KH * w.KW from w64_id (by omega), Int.toNat_mul (by omega) (by omega)]
  have hN2 : w.KH.toNat * w.KW.toNat ≤ 32 * 32 := Nat.mul_le_mul (by omega) (by omega)
  have hLl : (tapL s w (tapsTop s w at_) (tapsLeft s w at_)).length = w.KH.toNat * w.KW.toNat := by simp [tapL, hN]
  have hget : ∀ ky kx, ky < w.KH.toNat → kx < w.KW.toNat → (tapL s w (tapsTop s w at_) (tapsLeft s w at_)).getD (ky * w.KW.toNat + kx) 0 = tapPlace s w (tapsTop s w at_) (tapsLeft s w at_) ((ky * w.KW.toNat + kx : Nat) : Int) := fun ky kx h1 h2 => tapL_get (by rw [hN]; exact mul_lt_two h1 h2)
  generalize hL : tapL s w (tapsTop s w at_) (tapsLeft s w at_) = L at *
  refine fn_ok Tb_ok (fn := Try.f83) Try.func83 rfl rfl (e := [(0, _), (1, _), (2, _)]) rfl (by decide) rfl ?_
  refine zs ?_
  refine zR ?_
  refine zbx [.int _ _, .int _ _, .int _ _] 3 ?_
  refine zbx [.int _ _, .int _ _, .int _ _, .int _ _, .int _ _, .int _ _, .int _ _, .int _ _] 8 ?_
  refine zLN ?_
  refine zn ?_
  refine zs ?_
  refine zR ?_
  refine zLG [.int _ _, .int _ _, .int _ _] ?_
  refine zLG [.int _ _, .int _ _, .int _ _, .int _ _, .int _ _, .int _ _, .int _ _, .int _ _] ?_
  refine zLc (ref06_Out s w) ?_
  refine zLT [_, _, _] ?_
  refine zLI ?_
  refine zLI ?_
  refine zLI ?_
  refine zLI ?_
  refine zLI ?_
  refine zLI ?_
  refine zn ?_
  refine zs ?_
  refine W_draw 8 Tb_mixed rfl (by decide) (by kernel_rfl) (by kernel_rfl) ?_
  refine zEI ?_
  refine zEI ?_
  refine E_v Tb_ok (v := .int _ _) (av rfl ⟨trivial, (by exact hne)⟩) rfl ?_
  refine zEI ?_
  refine zEI ?_
  refine E_v Tb_ok (v := .int _ _) (av rfl ⟨trivial, (by exact hne)⟩) rfl ?_
  refine zEI ?_
  refine zEI ?_
  refine LexE_nil ?_
  refine zn ?_
  refine zs ?_
  refine zR ?_
  refine zLN ?_
  refine zn ?_
  refine zs ?_
  refine zs ?_
  refine zR ?_
  refine zLI ?_
  refine zn ?_
  refine W_block ?_
  refine W_nils (t := 12) 3 1 rfl rfl ?_
  refine W_for w.KH.toNat (fun ky => ⟨[(3, .ptr 0 0 0), (4, .ptr 1 0 0), (10, .int .i64 (w64 (at_.tdiv (outW s w)))), (11, .int .i64 (at_.tmod (outW s w))), (12, .app 2 ((L.take (ky * w.KW.toNat)).map intC)), (13, .int .i64 (ky : Int))], [(0, some ⟨23, 3, 0, [shapeC s]⟩), (1, some ⟨38, 8, 0, [windowC w]⟩)], [(2, some (3, 1, (L.take (ky * w.KW.toNat)).length))], 3⟩) (le_fit ⟨rfl, rfl, rfl, rfl, by rw [Nat.zero_mul]; rfl, rfl, trivial⟩ ⟨.inr rfl, .inr rfl, trivial⟩ ⟨.inr (by rw [Nat.zero_mul]; rfl), trivial⟩ rfl rfl rfl rfl rfl) ?_
  intro ky hky
  refine zs ?_
  refine zs ?_
  refine zR ?_
  refine zLI ?_
  refine zLP ?_
  refine zLI ?_
  refine zLB ?_
  refine zn ?_
  refine W_cond (b := _) rfl (fun h33 => ?_) (fun h33 => ?_)
  · have hlt : ky < w.KH.toNat := by have := of_decide_eq_true h33; omega
    refine zk ?_
    refine zs ?_
    refine W_block ?_
    refine zs ?_
    refine zR ?_
    refine zLI ?_
    refine zn ?_
    refine W_block ?_
    refine W_for w.KW.toNat (fun kx => ⟨[(3, .ptr 0 0 0), (4, .ptr 1 0 0), (10, .int .i64 (w64 (at_.tdiv (outW s w)))), (11, .int .i64 (at_.tmod (outW s w))), (12, .app 2 ((L.take (ky * w.KW.toNat + kx)).map intC)), (13, .int .i64 (ky : Int)), (14, .int .i64 (kx : Int))], [(0, some ⟨23, 3, 0, [shapeC s]⟩), (1, some ⟨38, 8, 0, [windowC w]⟩)], [(2, some (3, 1, (L.take (ky * w.KW.toNat + kx)).length))], 3⟩) (le_fit ⟨rfl, rfl, rfl, rfl, rfl, rfl, rfl, trivial⟩ ⟨.inr rfl, .inr rfl, trivial⟩ ⟨.inr rfl, trivial⟩ rfl rfl rfl rfl rfl) ?_
    intro kx hkx
    have hlen : (L.take (ky * w.KW.toNat + kx)).length ≤ 4096 := by rw [List.length_take, hLl]; omega
    refine zs ?_
    refine zs ?_
    refine zR ?_
    refine zLI ?_
    refine zLP ?_
    refine zLI ?_
    refine zLB ?_
    refine zn ?_
    refine W_cond (b := _) rfl (fun h39 => ?_) (fun h39 => ?_)
    · have hlx : kx < w.KW.toNat := by have := of_decide_eq_true h39; omega
      have hg := (hget ky kx hlt hlx).trans (tap_yx (ky := ky) (kx := kx) W.2.1.1 hs (by omega))
      refine zk ?_
      refine zs ?_
      refine W_block ?_
      refine zs ?_
      refine zR ?_
      refine zLI ?_
      refine zLP ?_
      refine zLI ?_
      refine zLI ?_
      refine zLP ?_
      refine zLI ?_
      refine zLI ?_
      refine zLI ?_
      refine zLI ?_
      refine zLI ?_
      refine zn ?_
      refine zs ?_
      refine zR ?_
      refine zLI ?_
      refine zLP ?_
      refine zLI ?_
      refine zLI ?_
      refine zLP ?_
      refine zLI ?_
      refine zLI ?_
      refine zLI ?_
      refine zLI ?_
      refine zLI ?_
      refine zn ?_
      refine zs ?_
      refine zR ?_
      refine zLI ?_
      refine zLB ?_
      refine zLB ?_
      refine zgLI ?_
      refine zgLP ?_
      refine zgLI ?_
      refine zgLB ?_
      refine zpLB ?_
      refine zLB ?_
      refine zgLI ?_
      refine zgLB ?_
      refine zpLB ?_
      refine zLB ?_
      refine zgLI ?_
      refine zgLP ?_
      refine zgLI ?_
      refine zgLB ?_
      refine zpLB ?_
      refine zn ?_
      refine W_cond (b := _) rfl (fun h77 => ?_) (fun h77 => ?_)
      · have hap := take_snoc (by rw [hLl]; exact mul_lt_two hlt hlx) (hg.trans (congrArg (fun b => bif b then -1 else w64 (w64 (w64 (tapsTop s w at_ + ky) * s.W) + w64 (tapsLeft s w at_ + kx))) h77))
        refine zR ?_
        refine zLA ?_
        refine L_build Tb_ok (t := 116) (len := 1) (el := 3) (sz := 1) (es := [[_]]) (z := [.int .i64 0]) rfl rfl rfl rfl rfl (by decide) trivial rfl rfl rfl rfl rfl ?_
        refine L_app1 Tb_ok (f := intC) (v := -1) (tok := 2) (el := 3) (sz := 1) rfl rfl rfl rfl rfl ⟨trivial, trivial⟩ (fun _ => ⟨rfl, rfl⟩) (by rw [show (Tb.at 3).bytes = 8 from rfl]; omega) rfl ?_
        refine zLA ?_
        refine zn ?_
        refine zR ?_
        refine zLI ?_
        refine zLI ?_
        refine zLI ?_
        refine zn ?_
        refine for_end hlx (le_fit ⟨rfl, rfl, rfl, rfl, congrArg (fun z => AV.app 2 (List.map intC z)) hap, rfl, congrArg _ (w_succ hlx (by omega)), trivial⟩ ⟨.inr rfl, .inr rfl, trivial⟩ ⟨.inr (congrArg (fun z => some (3, 1, List.length z)) hap), trivial⟩ rfl rfl rfl rfl rfl)
      · have hap := take_snoc (by rw [hLl]; exact mul_lt_two hlt hlx) (hg.trans (congrArg (fun b => bif b then -1 else w64 (w64 (w64 (tapsTop s w at_ + ky) * s.W) + w64 (tapsLeft s w at_ + kx))) h77))
        refine zR ?_
        refine zLA ?_
        refine zLI ?_
        refine zLP ?_
        refine zLI ?_
        refine zLI ?_
        refine zLI ?_
        refine zLI ?_
        refine L_build Tb_ok (t := 116) (len := 1) (el := 3) (sz := 1) (es := [[_]]) (z := [.int .i64 0]) rfl rfl rfl rfl rfl (by decide) trivial rfl rfl rfl rfl rfl ?_
        refine L_app1 Tb_ok (f := intC) (v := w64 (w64 (w64 (tapsTop s w at_ + ky) * s.W) + w64 (tapsLeft s w at_ + kx))) (tok := 2) (el := 3) (sz := 1) rfl rfl rfl rfl rfl ⟨trivial, trivial⟩ (fun _ => ⟨rfl, rfl⟩) (by rw [show (Tb.at 3).bytes = 8 from rfl]; omega) rfl ?_
        refine zLA ?_
        refine zn ?_
        refine zR ?_
        refine zLI ?_
        refine zLI ?_
        refine zLI ?_
        refine zn ?_
        refine for_end hlx (le_fit ⟨rfl, rfl, rfl, rfl, congrArg (fun z => AV.app 2 (List.map intC z)) hap, rfl, congrArg _ (w_succ hlx (by omega)), trivial⟩ ⟨.inr rfl, .inr rfl, trivial⟩ ⟨.inr (congrArg (fun z => some (3, 1, List.length z)) hap), trivial⟩ rfl rfl rfl rfl rfl)
    · have hje : kx = w.KW.toNat := by have := of_decide_eq_false h39; omega
      refine W_exit ?_
      repeat (first | refine pass_then ?_ | refine pass_for ?_)
      refine blockQ_hit ?_
      refine zR ?_
      refine zLI ?_
      refine zLI ?_
      refine zLI ?_
      refine zn ?_
      refine for_end hlt (le_fit ⟨rfl, rfl, rfl, rfl, by rw [hje, ← Nat.succ_mul]; rfl, congrArg _ (w_succ hlt (by omega)), trivial⟩ ⟨.inr rfl, .inr rfl, trivial⟩ ⟨.inr (by rw [hje, ← Nat.succ_mul]; rfl), trivial⟩ rfl rfl rfl rfl rfl)
  · have hke : ky = w.KH.toNat := by have := of_decide_eq_false h33; omega
    refine W_exit ?_
    repeat (first | refine pass_then ?_ | refine pass_for ?_)
    refine blockQ_hit ?_
    refine zs ?_
    refine zR ?_
    refine zLA ?_
    refine zLA ?_
    refine zn ?_
    refine zt ?_
    (refine ends (l := [.app _ _]) (q := .ro _) (.inr rfl) rfl ⟨trivial, trivial⟩ rfl rfl ?_)
    rw [hke, ← hLl, List.take_length]
end Go.AM
end
section
open Go Go.AM Go.Proofs
set_option maxRecDepth 10000
set_option linter.unusedVariables false
set_option linter.unusedSimpArgs false
namespace Go.AM
theorem take_snoc' {α : Type} [Inhabited α] {l : List α} {k : Nat} {v : α} (h : k < l.length) (hv : l.getD k default = v) : l.take k ++ [v] = l.take (k + 1) := by
  rw [List.take_add_one, ← hv]; simp [List.getD_eq_getElem?_getD, h]
theorem ref10_weight {s : Site} (hS : SiteOk s) (hln : lenF s.Op s.In = s.Len) {ch : Int} (hch : 1 ≤ ch ∧ ch ≤ s.Out.C) {i : Nat} (hi : i < s.Len.toNat) : Ok Try.prog 82 [.agg (rsiteC s), .int .i64 ch, .int .i64 (i : Int)] (.int .i64 (wtF s ch i)) := by
  have hl := hS.len
  have O := shapeB_iff.1 hS.outB
  have b2 : ch * s.Len ≤ 1024 * 512 := Int.mul_le_mul (by omega) hl.2 (by omega) (by omega)
  have hb : s.Op.Kind ≠ 4 → 0 ≤ w64 (w64 (w64 (ch - 1) * s.Len) + i) ∧ w64 (w64 (w64 (ch - 1) * s.Len) + i) < s.Op.Weights.length := by
    intro k4
    obtain ⟨w1, w2, w3, w4, w5, w6, w7⟩ := of_weights hS k4 hch
    have e : w64 (w64 (w64 (ch - 1) * s.Len) + (i : Int)) = (ch - 1) * s.Len + i := by rw [w1, w2]; exact w64_id (by omega)
    rw [e]; omega
  have hL := ref10_Length s
  rw [hln] at hL
  refine fn_ok Tb_ok (fn := Try.f82) Try.func82 rfl rfl (e := [(0, _), (1, _), (2, _)]) rfl (by decide) rfl ?_
  refine zs ?_
  refine zR ?_
  refine zbx [.int _ _, .int _ _, .int _ _, .int _ _, .int _ _, .int _ _, .int _ _, .int _ _, .int _ _, .int _ _, .int _ _, .int _ _, _, _, .int _ _, .int _ _, .int _ _, .int _ _, .int _ _, .int _ _, .int _ _, .int _ _, .int _ _, .int _ _, .int _ _, .int _ _, .int _ _, .int _ _] 28 ?_
  refine zLI ?_
  refine zn ?_
  refine zs ?_
  refine zs ?_
  refine zR ?_
  refine zLP ?_
  refine zLP ?_
  refine zLI ?_
  refine zLB ?_
  refine zn ?_
  refine W_cond (b := _) rfl (fun h10 => ?_) (fun h10 => ?_)
  · refine zs ?_
    refine zR ?_
    refine zLI ?_
    refine zn ?_
    refine zt ?_
    refine ends (l := [.int _ _]) (q := .int _ _) (.inr rfl) rfl ⟨trivial, trivial⟩ rfl rfl ?_
    have hk : s.Op.Kind = 4 := by simpa using h10
    simp [wtF, hk]
  · have hk : s.Op.Kind ≠ 4 := by simpa using h10
    obtain ⟨b0, b1⟩ := hb hk
    refine zk ?_
    refine zs ?_
    refine W_draw 14 Tb_mixed rfl (by decide) (by kernel_rfl) (by kernel_rfl) ?_
    refine zEP ?_
    refine zEP ?_
    refine zEO ?_
    refine zEI ?_
    refine zEI ?_
    refine zEG [.int _ _, .int _ _, .int _ _, .int _ _, .int _ _, .int _ _, .int _ _, .int _ _, .int _ _, .int _ _, .int _ _, .int _ _, _, _, .int _ _, .int _ _, .int _ _, .int _ _, .int _ _, .int _ _, .int _ _, .int _ _, .int _ _, .int _ _, .int _ _, .int _ _, .int _ _, .int _ _] ?_
    refine zEc (hL) ?_
    refine zEI ?_
    refine zEI ?_
    refine zEI ?_
    (refine E_v Tb_ok (v := _) (ave_index_ro rfl rfl rfl (fun _ => rfl) rfl (by first | exact b0 | exact b1) (by first | exact b0 | exact b1) trivial) rfl ?_)
    refine zEI ?_
    refine zEI ?_
    refine zEI ?_
    refine LexE_nil ?_
    refine zn ?_
    refine zt ?_
    refine ends (l := [.int _ _]) (q := .int _ _) (.inr rfl) rfl ⟨trivial, trivial⟩ rfl rfl ?_
    simp only [wtF, if_neg hk]; rfl
theorem ref10_Terms_dense {S : Site} (hS : SiteOk S) (hln : lenF S.Op S.In = S.Len) {ch at_ : Int} (hch : 1 ≤ ch ∧ ch ≤ S.Out.C) (k1 : S.Op.Kind = 1) : Ok Try.prog 57 [.agg (rsiteC S), .int .i64 ch, .int .i64 at_] (.ro ((tlF S ch at_).map termC)) := by
  have hc20 : (S.Op.Kind == 1) = true := by simp [k1]
  have hl := hS.len
  have hLl := tlF_len hS ch at_
  have hg : ∀ i, i < S.Len.toNat → (tlF S ch at_).getD i default = ⟨wtF S ch i, i⟩ := fun i hi => by rw [tlF_get hS hch at_ hi]; simp [atF, k1]
  have hL := ref10_Length S
  rw [hln] at hL
  generalize tlF S ch at_ = L at *
  refine fn_ok Tb_ok (fn := Try.f57) Try.func57 rfl rfl (e := [(0, _), (1, _), (2, _)]) rfl (by decide) rfl ?_
  refine zs ?_
  refine zR ?_
  refine zbx [.int _ _, .int _ _, .int _ _, .int _ _, .int _ _, .int _ _, .int _ _, .int _ _, .int _ _, .int _ _, .int _ _, .int _ _, _, _, .int _ _, .int _ _, .int _ _, .int _ _, .int _ _, .int _ _, .int _ _, .int _ _, .int _ _, .int _ _, .int _ _, .int _ _, .int _ _, .int _ _] 28 ?_
  refine zLN ?_
  refine zn ?_
  refine zs ?_
  refine zR ?_
  refine zLN ?_
  refine zn ?_
  refine zs ?_
  refine zR ?_
  refine zLG [.int _ _, .int _ _, .int _ _, .int _ _, .int _ _, .int _ _, .int _ _, .int _ _, .int _ _, .int _ _, .int _ _, .int _ _, _, _, .int _ _, .int _ _, .int _ _, .int _ _, .int _ _, .int _ _, .int _ _, .int _ _, .int _ _, .int _ _, .int _ _, .int _ _, .int _ _, .int _ _] ?_
  refine zLc (hL) ?_
  refine zLI ?_
  refine zn ?_
  refine zs ?_
  refine zs ?_
  refine zR ?_
  refine zLP ?_
  refine zLP ?_
  refine zLI ?_
  refine zLB ?_
  refine zn ?_
  refine W_cond_t (b := _) rfl (by exact hc20) ?_
  refine zs ?_
  refine zs ?_
  refine zR ?_
  refine zLI ?_
  refine zn ?_
  refine W_block ?_
  refine W_nils (t := 7) 112 2 rfl rfl ?_
  refine W_for S.Len.toNat (fun i => ⟨[(1, .int .i64 ch), (3, .ptr 0 0 0), (7, .app 1 ((L.take i).map termC)), (8, .int .i64 S.Len), (9, .int .i64 (i : Int))], [(0, some ⟨46, 28, 0, [rsiteC S]⟩)], [(1, some (112, 2, (L.take i).length))], 2⟩) (le_fit ⟨rfl, rfl, rfl, rfl, rfl, trivial⟩ ⟨.inr rfl, trivial⟩ ⟨.inr rfl, trivial⟩ rfl rfl rfl rfl rfl) ?_
  intro i hi
  have hlen : (L.take i).length ≤ 512 := by rw [List.length_take, hLl]; omega
  refine zs ?_
  refine zs ?_
  refine zR ?_
  refine zLI ?_
  refine zLI ?_
  refine zLB ?_
  refine zn ?_
  refine W_cond (b := _) rfl (fun h23 => ?_) (fun h23 => ?_)
  · have hlt : i < S.Len.toNat := by have := of_decide_eq_true h23; omega
    have hap := take_snoc' (by rw [hLl]; exact hlt) (hg i hlt)
    refine zk ?_
    refine zs ?_
    refine W_block ?_
    refine zR ?_
    refine zLA ?_
    refine zLG [.int _ _, .int _ _, .int _ _, .int _ _, .int _ _, .int _ _, .int _ _, .int _ _, .int _ _, .int _ _, .int _ _, .int _ _, _, _, .int _ _, .int _ _, .int _ _, .int _ _, .int _ _, .int _ _, .int _ _, .int _ _, .int _ _, .int _ _, .int _ _, .int _ _, .int _ _, .int _ _] ?_
    refine zLI ?_
    refine zLI ?_
    refine zLc (ref10_weight hS hln hch (i := i) hlt) ?_
    refine zLI ?_
    refine zLG [.int _ _, .int _ _] ?_
    refine L_build Tb_ok (t := 100) (len := 1) (el := 112) (sz := 2) (es := [[_, _]]) (z := [.int .i64 0, .int .i64 0]) rfl rfl rfl rfl rfl (by decide) trivial rfl rfl rfl rfl rfl ?_
    refine L_app1 Tb_ok (f := termC) (v := ⟨wtF S ch i, i⟩) (tok := 1) (el := 112) (sz := 2) rfl rfl rfl rfl rfl ⟨trivial, trivial⟩ (fun _ => ⟨rfl, rfl⟩) (by rw [show (Tb.at 112).bytes = 16 from rfl]; omega) rfl ?_
    refine zLA ?_
    refine zn ?_
    refine zR ?_
    refine zLI ?_
    refine zLI ?_
    refine zLI ?_
    refine zn ?_
    refine for_end hlt (le_fit ⟨rfl, rfl, congrArg (fun z => AV.app 1 (List.map termC z)) hap, rfl, congrArg _ (w_succ hlt (by omega)), trivial⟩ ⟨.inr rfl, trivial⟩ ⟨.inr (congrArg (fun z => some (112, 2, List.length z)) hap), trivial⟩ rfl rfl rfl rfl rfl)
  · have hke : i = S.Len.toNat := by have := of_decide_eq_false h23; omega
    refine W_exit ?_
    repeat (first | refine pass_then ?_ | refine pass_for ?_)
    refine blockQ_hit ?_
    refine zs ?_
    refine zR ?_
    refine zLA ?_
    refine zLA ?_
    refine zn ?_
    refine zt ?_
    (refine ends (l := [.app _ _]) (q := .ro _) (.inr rfl) rfl ⟨trivial, trivial⟩ rfl rfl ?_)
    rw [hke, ← hLl, List.take_length]
theorem ref10_Terms_conv {S : Site} (hS : SiteOk S) (hln : lenF S.Op S.In = S.Len) {ch at_ : Int} (hch : 1 ≤ ch ∧ ch ≤ S.Out.C) (hat : 0 ≤ at_ ∧ at_ < S.Out.H * S.Out.W) (k2 : S.Op.Kind = 2) : Ok Try.prog 57 [.agg (rsiteC S), .int .i64 ch, .int .i64 at_] (.ro ((tlF S ch at_).map termC)) := by
  have hc20 : (S.Op.Kind == 1) = false := by simp [k2]
  have hc54 : (S.Op.Kind == 2) = true := by simp [k2]
  have hl := hS.len
  have B := shapeB_iff.1 hS.inB
  have hCne : S.In.C ≠ 0 := by omega
  have hLl := tlF_len hS ch at_
  have hT := ref06_Taps S.In S.Op.Win at_ (taps_good hS (by omega) hat.1 hat.2)
  have hTn : tapN S.Op.Win * S.In.C.toNat = S.Len.toNat := by
    obtain ⟨h1, h2, h3⟩ := taps_win hS (by omega)
    unfold tapN
    rw [h1, hS.len2 k2, ← Int.toNat_mul (by omega) (by omega)]
  have hTl : (tapL S.In S.Op.Win (tapsTop S.In S.Op.Win at_) (tapsLeft S.In S.Op.Win at_)).length = tapN S.Op.Win := by simp [tapL]
  have hk : ∀ i, i < S.Len.toNat → i / S.In.C.toNat < tapN S.Op.Win := fun i hi => by rw [Nat.div_lt_iff_lt_mul (by omega), hTn]; exact hi
  have hq : ∀ i : Nat, i < S.Len.toNat → IntKind.i64.wrap ((i : Int).tdiv S.In.C) = ((i / S.In.C.toNat : Nat) : Int) := fun i hi => by
    have e : (i : Int).tdiv S.In.C = ((i / S.In.C.toNat : Nat) : Int) := by
      rw [Int.tdiv_eq_ediv_of_nonneg (by omega), Int.natCast_ediv]; congr 1; omega
    rw [e, w64_id]
    have : i / S.In.C.toNat ≤ i := Nat.div_le_self _ _
    generalize i / S.In.C.toNat = q at this ⊢
    omega
  have hr : ∀ i : Nat, (i : Int).tmod S.In.C = ((i % S.In.C.toNat : Nat) : Int) := fun i => by
    rw [Int.tmod_eq_emod_of_nonneg (by omega), Int.natCast_emod]; congr 1; omega
  have hTg : ∀ i, i < S.Len.toNat → (tapL S.In S.Op.Win (tapsTop S.In S.Op.Win at_) (tapsLeft S.In S.Op.Win at_)).getD (i / S.In.C.toNat) 0 = tapAt S at_ (i / S.In.C.toNat) := fun i hi => tapL_get (hk i hi)
  have hg : ∀ i, i < S.Len.toNat → (tlF S ch at_).getD i default = ⟨wtF S ch i, if tapAt S at_ (i / S.In.C.toNat) < 0 then -1 else w64 (w64 (tapAt S at_ (i / S.In.C.toNat) * S.In.C) + ((i % S.In.C.toNat : Nat) : Int))⟩ := fun i hi => by rw [tlF_get hS hch at_ hi]; simp [atF, k2]
  have hL := ref10_Length S
  rw [hln] at hL
  generalize tlF S ch at_ = L at *
  generalize tapL S.In S.Op.Win (tapsTop S.In S.Op.Win at_) (tapsLeft S.In S.Op.Win at_) = T at *
  refine fn_ok Tb_ok (fn := Try.f57) Try.func57 rfl rfl (e := [(0, _), (1, _), (2, _)]) rfl (by decide) rfl ?_
  refine zs ?_
  refine zR ?_
  refine zbx [.int _ _, .int _ _, .int _ _, .int _ _, .int _ _, .int _ _, .int _ _, .int _ _, .int _ _, .int _ _, .int _ _, .int _ _, _, _, .int _ _, .int _ _, .int _ _, .int _ _, .int _ _, .int _ _, .int _ _, .int _ _, .int _ _, .int _ _, .int _ _, .int _ _, .int _ _, .int _ _] 28 ?_
  refine zLN ?_
  refine zn ?_
  refine zs ?_
  refine zR ?_
  refine zLN ?_
  refine zn ?_
  refine zs ?_
  refine zR ?_
  refine zLG [.int _ _, .int _ _, .int _ _, .int _ _, .int _ _, .int _ _, .int _ _, .int _ _, .int _ _, .int _ _, .int _ _, .int _ _, _, _, .int _ _, .int _ _, .int _ _, .int _ _, .int _ _, .int _ _, .int _ _, .int _ _, .int _ _, .int _ _, .int _ _, .int _ _, .int _ _, .int _ _] ?_
  refine zLc (hL) ?_
  refine zLI ?_
  refine zn ?_
  refine zs ?_
  refine zs ?_
  refine zR ?_
  refine zLP ?_
  refine zLP ?_
  refine zLI ?_
  refine zLB ?_
  refine zn ?_
  refine W_cond_f (b := _) rfl (by exact hc20) ?_
  refine zk ?_
  refine zs ?_
  refine zR ?_
  refine zLP ?_
  refine zLG [.int _ _, .int _ _, .int _ _] ?_
  refine zLP ?_
  refine zLP ?_
  refine zLG [.int _ _, .int _ _, .int _ _, .int _ _, .int _ _, .int _ _, .int _ _, .int _ _] ?_
  refine zLI ?_
  refine zLc (hT) ?_
  refine zLO ?_
  refine zn ?_
  refine zs ?_
  refine zs ?_
  refine zR ?_
  refine zLI ?_
  refine zn ?_
  refine W_block ?_
  refine W_nils (t := 7) 112 2 rfl rfl ?_
  refine W_for S.Len.toNat (fun i => ⟨[(1, .int .i64 ch), (3, .ptr 0 0 0), (7, .app 1 ((L.take i).map termC)), (8, .int .i64 S.Len), (10, .ro (T.map intC)), (11, .int .i64 (i : Int))], [(0, some ⟨46, 28, 0, [rsiteC S]⟩)], [(1, some (112, 2, (L.take i).length))], 2⟩) (le_fit ⟨rfl, rfl, rfl, rfl, rfl, rfl, trivial⟩ ⟨.inr rfl, trivial⟩ ⟨.inr rfl, trivial⟩ rfl rfl rfl rfl rfl) ?_
  intro i hi
  have hlen : (L.take i).length ≤ 512 := by rw [List.length_take, hLl]; omega
  refine zs ?_
  refine zs ?_
  refine zR ?_
  refine zLI ?_
  refine zLI ?_
  refine zLB ?_
  refine zn ?_
  refine W_cond (b := _) rfl (fun h45 => ?_) (fun h45 => ?_)
  · have hlt : i < S.Len.toNat := by have := of_decide_eq_true h45; omega
    have hqi := hq i hlt
    have hgi := hg i hlt
    have ia0 : 0 ≤ IntKind.i64.wrap ((i : Int).tdiv S.In.C) := by rw [hqi]; exact Int.natCast_nonneg _
    have ia1 : IntKind.i64.wrap ((i : Int).tdiv S.In.C) < (T.length : Int) := by rw [hqi, hTl]; exact Int.ofNat_lt.2 (hk i hlt)
    have hTi : T.getD (IntKind.i64.wrap ((i : Int).tdiv S.In.C)).toNat 0 = tapAt S at_ (i / S.In.C.toNat) := by rw [hqi, Int.toNat_natCast]; exact hTg i hlt
    refine zk ?_
    refine zs ?_
    refine W_block ?_
    refine zs ?_
    refine zR ?_
    refine zLI ?_
    refine zLI ?_
    refine zLI ?_
    refine zLI ?_
    refine zLI ?_
    refine zn ?_
    refine zs ?_
    refine zs ?_
    refine zR ?_
    refine zLP ?_
    refine zLP ?_
    refine zLI ?_
    refine zLB ?_
    refine zn ?_
    refine W_cond_t (b := _) rfl (by exact hc54) ?_
    refine W_draw 12 Tb_mixed rfl (by decide) (by kernel_rfl) (by kernel_rfl) ?_
    refine zEI ?_
    refine zEP ?_
    refine zEP ?_
    refine zEI ?_
    refine E_v Tb_ok (v := .int _ _) (av rfl ⟨trivial, (by exact hCne)⟩) rfl ?_
    refine zEI ?_
    refine zEP ?_
    refine zEP ?_
    refine zEI ?_
    refine E_v Tb_ok (v := .int _ _) (av rfl ⟨trivial, (by exact hCne)⟩) rfl ?_
    refine zEI ?_
    refine zEI ?_
    refine LexE_nil ?_
    refine zn ?_
    refine zs ?_
    refine zR ?_
    refine zLG [.int _ _, .int _ _, .int _ _, .int _ _, .int _ _, .int _ _, .int _ _, .int _ _, .int _ _, .int _ _, .int _ _, .int _ _, _, _, .int _ _, .int _ _, .int _ _, .int _ _, .int _ _, .int _ _, .int _ _, .int _ _, .int _ _, .int _ _, .int _ _, .int _ _, .int _ _, .int _ _] ?_
    refine zLI ?_
    refine zLI ?_
    refine zLc (ref10_weight hS hln hch (i := i) hlt) ?_
    refine zLG [.int _ _, .int _ _] ?_
    refine zal [.int .i64 0, .int .i64 0] 2 ?_
    refine zst (.agg [.int _ _, .int _ _]) [_, _] [[_, _]] ?_
    refine zn ?_
    refine zs ?_
    refine zs ?_
    refine zR ?_
    refine zLO ?_
    refine zLI ?_
    (refine L_v Tb_ok (v := _) (ave_index_ro rfl rfl rfl (fun _ => rfl) rfl (by first | exact ia0 | exact ia1 | (rw [List.length_map]; exact ia1)) (by first | exact ia0 | exact ia1 | (rw [List.length_map]; exact ia1)) trivial) rfl ?_)
    refine zLI ?_
    refine zLB ?_
    refine zn ?_
    refine W_cond (b := _) rfl (fun h74 => ?_) (fun h74 => ?_)
    · have h0 : ¬ tapAt S at_ (i / S.In.C.toNat) < 0 := by have := of_decide_eq_true h74; rw [← hTi]; exact Int.not_lt.2 this
      have hap := take_snoc' (v := (⟨wtF S ch i, w64 (w64 (T.getD (IntKind.i64.wrap ((i : Int).tdiv S.In.C)).toNat 0 * S.In.C) + (i : Int).tmod S.In.C)⟩ : Term)) (by rw [hLl]; exact hlt) (by rw [hgi, if_neg h0, hTi, hr])
      refine W_draw 11 Tb_mixed rfl (by decide) (by kernel_rfl) (by kernel_rfl) ?_
      refine zEO ?_
      refine zEI ?_
      (refine E_v Tb_ok (v := _) (ave_index_ro rfl rfl rfl (fun _ => rfl) rfl (by first | exact ia0 | exact ia1 | (rw [List.length_map]; exact ia1)) (by first | exact ia0 | exact ia1 | (rw [List.length_map]; exact ia1)) trivial) rfl ?_)
      refine zEI ?_
      refine zEP ?_
      refine zEP ?_
      refine zEI ?_
      refine zEI ?_
      refine zEI ?_
      refine zEI ?_
      refine zEP ?_
      refine LexE_nil ?_
      refine zst (.int _ _) [_] [[_, _]] ?_
      refine zn ?_
      refine zR ?_
      refine zLA ?_
      refine zLG [.int _ _, .int _ _] ?_
      refine L_build Tb_ok (t := 100) (len := 1) (el := 112) (sz := 2) (es := [[_, _]]) (z := [.int .i64 0, .int .i64 0]) rfl rfl rfl rfl rfl (by decide) trivial rfl rfl rfl rfl rfl ?_
      refine L_app1 Tb_ok (f := termC) (v := ⟨wtF S ch i, w64 (w64 (T.getD (IntKind.i64.wrap ((i : Int).tdiv S.In.C)).toNat 0 * S.In.C) + (i : Int).tmod S.In.C)⟩) (tok := 1) (el := 112) (sz := 2) rfl rfl rfl rfl rfl ⟨trivial, trivial⟩ (fun _ => ⟨rfl, rfl⟩) (by rw [show (Tb.at 112).bytes = 16 from rfl]; omega) rfl ?_
      refine zLA ?_
      refine zn ?_
      refine zR ?_
      refine zLI ?_
      refine zLI ?_
      refine zLI ?_
      refine zn ?_
      refine for_end hlt (le_fit ⟨rfl, rfl, congrArg (fun z => AV.app 1 (List.map termC z)) hap, rfl, rfl, congrArg _ (w_succ hlt (by omega)), trivial⟩ ⟨.inr rfl, trivial⟩ ⟨.inr (congrArg (fun z => some (112, 2, List.length z)) hap), trivial⟩ rfl rfl rfl rfl rfl)
    · have h0 : tapAt S at_ (i / S.In.C.toNat) < 0 := by have := of_decide_eq_false h74; rw [← hTi]; exact Int.not_le.1 this
      have hap := take_snoc' (v := (⟨wtF S ch i, -1⟩ : Term)) (by rw [hLl]; exact hlt) (by rw [hgi, if_pos h0])
      refine zk ?_
      refine zR ?_
      refine zLA ?_
      refine zLG [.int _ _, .int _ _] ?_
      refine L_build Tb_ok (t := 100) (len := 1) (el := 112) (sz := 2) (es := [[_, _]]) (z := [.int .i64 0, .int .i64 0]) rfl rfl rfl rfl rfl (by decide) trivial rfl rfl rfl rfl rfl ?_
      refine L_app1 Tb_ok (f := termC) (v := ⟨wtF S ch i, -1⟩) (tok := 1) (el := 112) (sz := 2) rfl rfl rfl rfl rfl ⟨trivial, trivial⟩ (fun _ => ⟨rfl, rfl⟩) (by rw [show (Tb.at 112).bytes = 16 from rfl]; omega) rfl ?_
      refine zLA ?_
      refine zn ?_
      refine zR ?_
      refine zLI ?_
      refine zLI ?_
      refine zLI ?_
      refine zn ?_
      refine for_end hlt (le_fit ⟨rfl, rfl, congrArg (fun z => AV.app 1 (List.map termC z)) hap, rfl, rfl, congrArg _ (w_succ hlt (by omega)), trivial⟩ ⟨.inr rfl, trivial⟩ ⟨.inr (congrArg (fun z => some (112, 2, List.length z)) hap), trivial⟩ rfl rfl rfl rfl rfl)
  · have hke : i = S.Len.toNat := by have := of_decide_eq_false h45; omega
    refine W_exit ?_
    repeat (first | refine pass_then ?_ | refine pass_for ?_)
    refine blockQ_hit ?_
    refine zs ?_
    refine zR ?_
    refine zLA ?_
    refine zLA ?_
    refine zn ?_
    refine zt ?_
    (refine ends (l := [.app _ _]) (q := .ro _) (.inr rfl) rfl ⟨trivial, trivial⟩ rfl rfl ?_)
    rw [hke, ← hLl, List.take_length]
theorem ref10_Terms_rest {S : Site} (hS : SiteOk S) (hln : lenF S.Op S.In = S.Len) {ch at_ : Int} (hch : 1 ≤ ch ∧ ch ≤ S.Out.C) (hat : 0 ≤ at_ ∧ at_ < S.Out.H * S.Out.W) (k1 : S.Op.Kind ≠ 1) (k2 : S.Op.Kind ≠ 2) : Ok Try.prog 57 [.agg (rsiteC S), .int .i64 ch, .int .i64 at_] (.ro ((tlF S ch at_).map termC)) := by
  have hc20 : (S.Op.Kind == 1) = false := by simp [k1]
  have hc54 : (S.Op.Kind == 2) = false := by simp [k2]
  have hl := hS.len
  have B := shapeB_iff.1 hS.inB
  have hCne : S.In.C ≠ 0 := by omega
  have hLl := tlF_len hS ch at_
  have hT := ref06_Taps S.In S.Op.Win at_ (taps_good hS k1 hat.1 hat.2)
  have hTn : tapN S.Op.Win = S.Len.toNat := by
    obtain ⟨h1, h2, h3⟩ := taps_win hS k1
    unfold tapN
    rw [h1, hS.len3 (by have := hS.kind; omega)]
  have hTl : (tapL S.In S.Op.Win (tapsTop S.In S.Op.Win at_) (tapsLeft S.In S.Op.Win at_)).length = tapN S.Op.Win := by simp [tapL]
  have hTg : ∀ i, i < S.Len.toNat → (tapL S.In S.Op.Win (tapsTop S.In S.Op.Win at_) (tapsLeft S.In S.Op.Win at_)).getD i 0 = tapAt S at_ i := fun i hi => tapL_get (by omega)
  have hg : ∀ i, i < S.Len.toNat → (tlF S ch at_).getD i default = ⟨wtF S ch i, if tapAt S at_ i < 0 then -1 else w64 (w64 (tapAt S at_ i * S.In.C) + (ch - 1))⟩ := fun i hi => by rw [tlF_get hS hch at_ hi]; simp [atF, k1, k2]
  have hcw : w64 (ch - 1) = ch - 1 := by have O := shapeB_iff.1 hS.outB; exact w64_id (by omega)
  have hL := ref10_Length S
  rw [hln] at hL
  generalize tlF S ch at_ = L at *
  generalize tapL S.In S.Op.Win (tapsTop S.In S.Op.Win at_) (tapsLeft S.In S.Op.Win at_) = T at *
  refine fn_ok Tb_ok (fn := Try.f57) Try.func57 rfl rfl (e := [(0, _), (1, _), (2, _)]) rfl (by decide) rfl ?_
  refine zs ?_
  refine zR ?_
  refine zbx [.int _ _, .int _ _, .int _ _, .int _ _, .int _ _, .int _ _, .int _ _, .int _ _, .int _ _, .int _ _, .int _ _, .int _ _, _, _, .int _ _, .int _ _, .int _ _, .int _ _, .int _ _, .int _ _, .int _ _, .int _ _, .int _ _, .int _ _, .int _ _, .int _ _, .int _ _, .int _ _] 28 ?_
  refine zLN ?_
  refine zn ?_
  refine zs ?_
  refine zR ?_
  refine zLN ?_
  refine zn ?_
  refine zs ?_
  refine zR ?_
  refine zLG [.int _ _, .int _ _, .int _ _, .int _ _, .int _ _, .int _ _, .int _ _, .int _ _, .int _ _, .int _ _, .int _ _, .int _ _, _, _, .int _ _, .int _ _, .int _ _, .int _ _, .int _ _, .int _ _, .int _ _, .int _ _, .int _ _, .int _ _, .int _ _, .int _ _, .int _ _, .int _ _] ?_
  refine zLc (hL) ?_
  refine zLI ?_
  refine zn ?_
  refine zs ?_
  refine zs ?_
  refine zR ?_
  refine zLP ?_
  refine zLP ?_
  refine zLI ?_
  refine zLB ?_
  refine zn ?_
  refine W_cond_f (b := _) rfl (by exact hc20) ?_
  refine zk ?_
  refine zs ?_
  refine zR ?_
  refine zLP ?_
  refine zLG [.int _ _, .int _ _, .int _ _] ?_
  refine zLP ?_
  refine zLP ?_
  refine zLG [.int _ _, .int _ _, .int _ _, .int _ _, .int _ _, .int _ _, .int _ _, .int _ _] ?_
  refine zLI ?_
  refine zLc (hT) ?_
  refine zLO ?_
  refine zn ?_
  refine zs ?_
  refine zs ?_
  refine zR ?_
  refine zLI ?_
  refine zn ?_
  refine W_block ?_
  refine W_nils (t := 7) 112 2 rfl rfl ?_
  refine W_for S.Len.toNat (fun i => ⟨[(1, .int .i64 ch), (3, .ptr 0 0 0), (7, .app 1 ((L.take i).map termC)), (8, .int .i64 S.Len), (10, .ro (T.map intC)), (11, .int .i64 (i : Int))], [(0, some ⟨46, 28, 0, [rsiteC S]⟩)], [(1, some (112, 2, (L.take i).length))], 2⟩) (le_fit ⟨rfl, rfl, rfl, rfl, rfl, rfl, trivial⟩ ⟨.inr rfl, trivial⟩ ⟨.inr rfl, trivial⟩ rfl rfl rfl rfl rfl) ?_
  intro i hi
  have hlen : (L.take i).length ≤ 512 := by rw [List.length_take, hLl]; omega
  refine zs ?_
  refine zs ?_
  refine zR ?_
  refine zLI ?_
  refine zLI ?_
  refine zLB ?_
  refine zn ?_
  refine W_cond (b := _) rfl (fun h45 => ?_) (fun h45 => ?_)
  · have hlt : i < S.Len.toNat := by have := of_decide_eq_true h45; omega
    have hgi := hg i hlt
    have ia0 : 0 ≤ ((i : Nat) : Int) := Int.natCast_nonneg _
    have ia1 : ((i : Nat) : Int) < (T.length : Int) := by rw [hTl, hTn]; exact Int.ofNat_lt.2 hlt
    have hTi : T.getD ((i : Nat) : Int).toNat 0 = tapAt S at_ i := by rw [Int.toNat_natCast]; exact hTg i hlt
    refine zk ?_
    refine zs ?_
    refine W_block ?_
    refine zs ?_
    refine zR ?_
    refine zLI ?_
    refine zLI ?_
    refine zLI ?_
    refine zLI ?_
    refine zLI ?_
    refine zn ?_
    refine zs ?_
    refine zs ?_
    refine zR ?_
    refine zLP ?_
    refine zLP ?_
    refine zLI ?_
    refine zLB ?_
    refine zn ?_
    refine W_cond_f (b := _) rfl (by exact hc54) ?_
    refine zk ?_
    refine zs ?_
    refine zR ?_
    refine zLG [.int _ _, .int _ _, .int _ _, .int _ _, .int _ _, .int _ _, .int _ _, .int _ _, .int _ _, .int _ _, .int _ _, .int _ _, _, _, .int _ _, .int _ _, .int _ _, .int _ _, .int _ _, .int _ _, .int _ _, .int _ _, .int _ _, .int _ _, .int _ _, .int _ _, .int _ _, .int _ _] ?_
    refine zLI ?_
    refine zLI ?_
    refine zLc (ref10_weight hS hln hch (i := i) hlt) ?_
    refine zLG [.int _ _, .int _ _] ?_
    refine zal [.int .i64 0, .int .i64 0] 2 ?_
    refine zst (.agg [.int _ _, .int _ _]) [_, _] [[_, _]] ?_
    refine zn ?_
    refine zs ?_
    refine zs ?_
    refine zR ?_
    refine zLO ?_
    refine zLI ?_
    (refine L_v Tb_ok (v := _) (ave_index_ro rfl rfl rfl (fun _ => rfl) rfl (by first | exact ia0 | exact ia1 | (rw [List.length_map]; exact ia1)) (by first | exact ia0 | exact ia1 | (rw [List.length_map]; exact ia1)) trivial) rfl ?_)
    refine zLI ?_
    refine zLB ?_
    refine zn ?_
    refine W_cond (b := _) rfl (fun h74 => ?_) (fun h74 => ?_)
    · have h0 : ¬ tapAt S at_ i < 0 := by have := of_decide_eq_true h74; rw [← hTi]; exact Int.not_lt.2 this
      have hap := take_snoc' (v := (⟨wtF S ch i, w64 (w64 (T.getD ((i : Nat) : Int).toNat 0 * S.In.C) + w64 (ch - 1))⟩ : Term)) (by rw [hLl]; exact hlt) (by rw [hgi, if_neg h0, hTi, hcw])
      refine W_draw 11 Tb_mixed rfl (by decide) (by kernel_rfl) (by kernel_rfl) ?_
      refine zEO ?_
      refine zEI ?_
      (refine E_v Tb_ok (v := _) (ave_index_ro rfl rfl rfl (fun _ => rfl) rfl (by first | exact ia0 | exact ia1 | (rw [List.length_map]; exact ia1)) (by first | exact ia0 | exact ia1 | (rw [List.length_map]; exact ia1)) trivial) rfl ?_)
      refine zEI ?_
      refine zEP ?_
      refine zEP ?_
      refine zEI ?_
      refine zEI ?_
      refine zEI ?_
      refine zEI ?_
      refine zEP ?_
      refine LexE_nil ?_
      refine zst (.int _ _) [_] [[_, _]] ?_
      refine zn ?_
      refine zR ?_
      refine zLA ?_
      refine zLG [.int _ _, .int _ _] ?_
      refine L_build Tb_ok (t := 100) (len := 1) (el := 112) (sz := 2) (es := [[_, _]]) (z := [.int .i64 0, .int .i64 0]) rfl rfl rfl rfl rfl (by decide) trivial rfl rfl rfl rfl rfl ?_
      refine L_app1 Tb_ok (f := termC) (v := ⟨wtF S ch i, w64 (w64 (T.getD ((i : Nat) : Int).toNat 0 * S.In.C) + w64 (ch - 1))⟩) (tok := 1) (el := 112) (sz := 2) rfl rfl rfl rfl rfl ⟨trivial, trivial⟩ (fun _ => ⟨rfl, rfl⟩) (by rw [show (Tb.at 112).bytes = 16 from rfl]; omega) rfl ?_
      refine zLA ?_
      refine zn ?_
      refine zR ?_
      refine zLI ?_
      refine zLI ?_
      refine zLI ?_
      refine zn ?_
      refine for_end hlt (le_fit ⟨rfl, rfl, congrArg (fun z => AV.app 1 (List.map termC z)) hap, rfl, rfl, congrArg _ (w_succ hlt (by omega)), trivial⟩ ⟨.inr rfl, trivial⟩ ⟨.inr (congrArg (fun z => some (112, 2, List.length z)) hap), trivial⟩ rfl rfl rfl rfl rfl)
    · have h0 : tapAt S at_ i < 0 := by have := of_decide_eq_false h74; rw [← hTi]; exact Int.not_le.1 this
      have hap := take_snoc' (v := (⟨wtF S ch i, -1⟩ : Term)) (by rw [hLl]; exact hlt) (by rw [hgi, if_pos h0])
      refine zk ?_
      refine zR ?_
      refine zLA ?_
      refine zLG [.int _ _, .int _ _] ?_
      refine L_build Tb_ok (t := 100) (len := 1) (el := 112) (sz := 2) (es := [[_, _]]) (z := [.int .i64 0, .int .i64 0]) rfl rfl rfl rfl rfl (by decide) trivial rfl rfl rfl rfl rfl ?_
      refine L_app1 Tb_ok (f := termC) (v := ⟨wtF S ch i, -1⟩) (tok := 1) (el := 112) (sz := 2) rfl rfl rfl rfl rfl ⟨trivial, trivial⟩ (fun _ => ⟨rfl, rfl⟩) (by rw [show (Tb.at 112).bytes = 16 from rfl]; omega) rfl ?_
      refine zLA ?_
      refine zn ?_
      refine zR ?_
      refine zLI ?_
      refine zLI ?_
      refine zLI ?_
      refine zn ?_
      refine for_end hlt (le_fit ⟨rfl, rfl, congrArg (fun z => AV.app 1 (List.map termC z)) hap, rfl, rfl, congrArg _ (w_succ hlt (by omega)), trivial⟩ ⟨.inr rfl, trivial⟩ ⟨.inr (congrArg (fun z => some (112, 2, List.length z)) hap), trivial⟩ rfl rfl rfl rfl rfl)
  · have hke : i = S.Len.toNat := by have := of_decide_eq_false h45; omega
    refine W_exit ?_
    repeat (first | refine pass_then ?_ | refine pass_for ?_)
    refine blockQ_hit ?_
    refine zs ?_
    refine zR ?_
    refine zLA ?_
    refine zLA ?_
    refine zn ?_
    refine zt ?_
    (refine ends (l := [.app _ _]) (q := .ro _) (.inr rfl) rfl ⟨trivial, trivial⟩ rfl rfl ?_)
    rw [hke, ← hLl, List.take_length]
theorem ref10_Terms {S : Site} (hS : SiteOk S) (hln : lenF S.Op S.In = S.Len) {ch at_ : Int} (hch : 1 ≤ ch ∧ ch ≤ S.Out.C) (hat : 0 ≤ at_ ∧ at_ < S.Out.H * S.Out.W) : Ok Try.prog 57 [.agg (rsiteC S), .int .i64 ch, .int .i64 at_] (.ro ((tlF S ch at_).map termC)) := by
  by_cases k1 : S.Op.Kind = 1
  · exact ref10_Terms_dense hS hln hch k1
  · by_cases k2 : S.Op.Kind = 2
    · exact ref10_Terms_conv hS hln hch hat k2
    · exact ref10_Terms_rest hS hln hch hat k1 k2
end Go.AM
end
section
open Go Go.AM
set_option linter.unusedVariables false
set_option linter.unusedSimpArgs false
namespace Go.AM
theorem rfE_bad {m : Model} {op ch : Int} (h : findE m op ≠ 0) : rfE m op ch = findE m op := by unfold rfE; rw [if_neg h]
theorem rcE_bad {m : Model} {op ch : Int} (h : findE m op ≠ 0) : rcE m op ch = findE m op := by
  unfold rcE
  rw [rfE_bad h]
  have : (findE m op == 0) = false := by simpa using h
  rw [this]; rfl
theorem rc_ok {m : Model} {op ch : Int} (h : findE m op = 0) : (1 ≤ ch ∧ ch ≤ (findS m op).Out.C → rcE m op ch = 0 ∧ rcS m op ch = findS m op) ∧ (¬ (1 ≤ ch ∧ ch ≤ (findS m op).Out.C) → rcE m op ch = 3) := by
  obtain ⟨hS, _⟩ := site_ok h
  have O := shapeB_iff.1 hS.outB
  constructor
  · rintro ⟨h1, h2⟩
    have c1 : ¬ ch < 0 := by omega
    have c2 : ¬ ch > (findS m op).Out.C := by omega
    have e : rfE m op ch = 0 := by simp [rfE, h, c1, c2]
    have z : (ch == 0) = false := by simp; omega
    simp [rcE, rcS, e, z, rfS]
  · intro hn
    by_cases h0 : ch = 0
    · subst h0
      have c2 : ¬ (0 : Int) > (findS m op).Out.C := by omega
      have e : rfE m op 0 = 0 := by simp [rfE, h, c2]
      simp [rcE, e]
    · have z : (ch == 0) = false := by simpa using h0
      have e : rfE m op ch = 3 := by
        by_cases c1 : ch < 0
        · simp [rfE, h, c1]
        · have c2 : ch > (findS m op).Out.C := by omega
          simp [rfE, h, c2]
      simp [rcE, e]
theorem rcE_zero {m : Model} {op ch : Int} (h : rcE m op ch = 0) : findE m op = 0 ∧ (1 ≤ ch ∧ ch ≤ (findS m op).Out.C) ∧ rcS m op ch = findS m op := by
  by_cases h0 : findE m op = 0
  · by_cases hc : 1 ≤ ch ∧ ch ≤ (findS m op).Out.C
    · exact ⟨h0, hc, ((rc_ok h0).1 hc).2⟩
    · rw [(rc_ok h0).2 hc] at h; omega
  · rw [rcE_bad h0] at h; exact absurd h h0
theorem ofE_rc {m : Model} {op ch at_ : Int} : ofE m op ch at_ = (bif (bif rcE m op ch == 0 then bif decide (at_ < 0) then true else decide (at_ ≥ w64 ((rcS m op ch).Out.H * (rcS m op ch).Out.W)) else false) then 3 else rcE m op ch) := by
  by_cases h0 : findE m op = 0
  · obtain ⟨hS, _⟩ := site_ok h0
    unfold ofE
    rw [if_pos h0]
    by_cases hc : 1 ≤ ch ∧ ch ≤ (findS m op).Out.C
    · obtain ⟨e1, e2⟩ := (rc_ok h0).1 hc
      rw [e1, e2, (out_pos hS).1]
      cases hb : ofBad (findS m op) ch at_ with
      | true =>
        have : ¬ (0 ≤ at_ ∧ at_ < (findS m op).Out.H * (findS m op).Out.W) := fun h => by
          have := (ofBad_iff hS).2 ⟨hc, h⟩; rw [hb] at this; cases this
        by_cases c1 : at_ < 0
        · simp [c1]
        · have c2 : at_ ≥ (findS m op).Out.H * (findS m op).Out.W := by omega
          simp [c2]
      | false =>
        obtain ⟨_, h1, h2⟩ := (ofBad_iff hS).1 hb
        have c1 : ¬ at_ < 0 := by omega
        have c2 : ¬ at_ ≥ (findS m op).Out.H * (findS m op).Out.W := by omega
        simp [c1, c2]
    · rw [(rc_ok h0).2 hc]
      have : ofBad (findS m op) ch at_ = true := by
        cases hb : ofBad (findS m op) ch at_ with
        | true => rfl
        | false => exact absurd ((ofBad_iff hS).1 hb).1 hc
      simp [this]
  · rw [rcE_bad h0]
    have z : (findE m op == 0) = false := by simpa using h0
    unfold ofE; rw [if_neg h0, z]; rfl
theorem ofE_rc0 {m : Model} {op ch : Int} : ofE m op ch 0 = rcE m op ch := by
  rw [ofE_rc]
  cases hq : rcE m op ch == 0 with
  | false => rfl
  | true =>
    obtain ⟨h0, hc, e⟩ := rcE_zero (by simpa using hq)
    obtain ⟨hS, _⟩ := site_ok h0
    obtain ⟨p1, p2, _⟩ := out_pos hS
    have c2 : ¬ (0 : Int) ≥ (findS m op).Out.H * (findS m op).Out.W := by omega
    rw [e, p1]; simp [c2]
theorem bias_eq {m : Model} {op ch at_ : Int} (h0 : findE m op = 0) (hb : ofBad (findS m op) ch at_ = false) : biasF m op ch at_ = if (findS m op).Op.Kind = 4 then 0 else w64 ((findS m op).Op.Bias.getD (w64 (ch - 1)).toNat default) := by
  simp [biasF, h0, hb]
theorem bias_ix {S : Site} (hS : SiteOk S) {ch : Int} (hch : 1 ≤ ch ∧ ch ≤ S.Out.C) : S.Op.Kind ≠ 4 → 0 ≤ w64 (ch - 1) ∧ w64 (ch - 1) < S.Op.Bias.length := fun k4 => by
  obtain ⟨w1, _, _, _, _, _, w7⟩ := of_weights hS k4 hch
  rw [w1]; omega
end Go.AM
end
section
open Go Go.AM Go.Proofs
set_option maxRecDepth 10000
set_option linter.unusedVariables false
set_option linter.unusedSimpArgs false
namespace Go.AM
def plusS (a b : Span) : Span := ⟨w64 (a.Lo + b.Lo), w64 (a.Hi + b.Hi)⟩
theorem bound_plus (a b : Span) : Ok Try.prog 72 [.agg (spanC a), .agg (spanC b)] (.agg (spanC (plusS a b))) := by
  refine fn_ok Tb_ok (fn := Try.f72) Try.func72 rfl rfl (e := [(0, _), (1, _)]) rfl (by decide) rfl ?_
  refine zs ?_
  refine zR ?_
  refine zbx [.int _ _, .int _ _] 2 ?_
  refine zbx [.int _ _, .int _ _] 2 ?_
  refine zal [.int .i64 0, .int .i64 0] 2 ?_
  refine zn ?_
  refine zs ?_
  refine zR ?_
  refine zLP ?_
  refine zLI ?_
  refine zLP ?_
  refine zLI ?_
  refine zLI ?_
  refine zLP ?_
  refine zLI ?_
  refine zLP ?_
  refine zLI ?_
  refine zLI ?_
  refine zLG [.int _ _, .int _ _] ?_
  refine zst (.agg [.int _ _, .int _ _]) [_, _] [[_, _]] ?_
  refine zn ?_
  refine zt ?_
  refine ends (l := [.agg [.int _ _, .int _ _]]) (q := .agg [.int _ _, .int _ _]) (.inr rfl) rfl ⟨rfl, trivial⟩ rfl rfl ?_
  rfl
def askE (m : Model) (op ch : Int) (s : Span) : Int := if ofE m op ch 0 = 0 then if holdsF ⟨-128, 127⟩ s then 0 else 30 else ofE m op ch 0
def askB (m : Model) (op ch : Int) (s : Span) : Int := if askE m op ch s = 0 then biasF m op ch 0 else 0
theorem bound_ask (m : Model) (op ch : Int) (s : Span) : Ok Try.prog 70 [.agg (modelC m), .int .i64 op, .int .i64 ch, .agg (spanC s)] (.tup [.int .i64 (askB m op ch s), .int .i64 (askE m op ch s)]) := by
  have hO := terms_Of m op ch 0
  refine fn_ok Tb_ok (fn := Try.f70) Try.func70 rfl rfl (e := [(0, _), (1, _), (2, _), (3, _)]) rfl (by decide) rfl ?_
  refine zs ?_
  refine zR ?_
  refine zbx [.int _ _, .int _ _, .int _ _, .int _ _, .int _ _, _, .int _ _] 7 ?_
  refine zbx [.int _ _, .int _ _] 2 ?_
  refine zLI ?_
  refine zLI ?_
  refine zn ?_
  refine zs ?_
  refine zR ?_
  refine zLG [.int _ _, .int _ _, .int _ _, .int _ _, .int _ _, _, .int _ _] ?_
  refine zLI ?_
  refine zLI ?_
  refine zLc (hO) ?_
  refine zLT [_, _, _] ?_
  refine zLO ?_
  refine zLI ?_
  refine zLI ?_
  refine zLO ?_
  refine zLI ?_
  refine zLI ?_
  refine zn ?_
  refine zs ?_
  refine zs ?_
  refine zR ?_
  refine zLI ?_
  refine zLB ?_
  refine zLB ?_
  refine zgLG [.int _ _, .int _ _] ?_
  refine zgLG [.int _ _, .int _ _] ?_
  refine L_callg (hr := fun hg => span_Holds ⟨-128, 127⟩ s) rfl rfl rfl rfl rfl (fun hg => ⟨⟨(by exact hg), True.intro⟩, ⟨⟨(by exact hg), True.intro⟩, True.intro⟩⟩) rfl rfl ?_
  refine zgLB ?_
  refine zpLB ?_
  refine zn ?_
  refine W_cond (b := _) rfl (fun h28 => ?_) (fun h28 => ?_)
  · refine zs ?_
    refine zR ?_
    refine zLI ?_
    refine zLI ?_
    refine zn ?_
    refine zt ?_
    refine ends (l := [.int _ _, .int _ _]) (q := .tup [.int _ _, .int _ _]) (.inr rfl) rfl ⟨trivial, trivial, trivial⟩ rfl rfl ?_
    have h28' : (bif (ofE m op ch 0 == 0) then !holdsF ⟨-128, 127⟩ s else false) = true := h28
    by_cases z : ofE m op ch 0 = 0
    · have hh : holdsF ⟨-128, 127⟩ s = false := by simpa [z] using h28'
      simp [askB, askE, z, hh]
    · simp [z] at h28'
  · refine zk ?_
    refine zs ?_
    refine zR ?_
    refine zLI ?_
    refine zLI ?_
    refine zLI ?_
    refine zLI ?_
    refine zn ?_
    refine zt ?_
    refine ends (l := [.int _ _, .int _ _]) (q := .tup [.int _ _, .int _ _]) (.inr rfl) rfl ⟨trivial, trivial, trivial⟩ rfl rfl ?_
    have h28' : (bif (ofE m op ch 0 == 0) then !holdsF ⟨-128, 127⟩ s else false) = false := h28
    by_cases z : ofE m op ch 0 = 0
    · have hh : holdsF ⟨-128, 127⟩ s = true := by simpa [z] using h28'
      simp [askB, askE, z, hh]
    · simp [askB, askE, z, (ofE_bad z).2]
/-- a term's ends -/
def endF (pad : Int) (s : Span) (t : Term) : Span := tmS (if t.At < 0 then ⟨pad, pad⟩ else s) t.W
def rowF (m : Model) (op ch : Int) (s : Span) (at_ : Int) : List Span := (termsF m op ch at_).map (endF (findS m op).Op.Pad s)
def posN (m : Model) (op : Int) : Nat := ((findS m op).Out.H * (findS m op).Out.W).toNat
def rowsF (m : Model) (op ch : Int) (s : Span) : List (List Span) := (List.range (posN m op)).map fun (k : Nat) => rowF m op ch s k
/-- the rows as they are given, one by one -/
def rowsX (m : Model) (op ch : Int) (s : Span) : List (List AV) := (rowsF m op ch s).map fun r => [.ro (r.map spanC)]
theorem bound_rows (m : Model) (op ch : Int) (s : Span) (h : findE m op = 0) : Ok Try.prog 71 [.agg (modelC m), .int .i64 op, .int .i64 ch, .agg (spanC s)] (.fn 88 [] [.rptr [.int .i64 (posN m op : Int)], .rptr (modelC m), .rptr [.int .i64 op], .rptr [.int .i64 ch], .rptr (spanC s), .rptr [.int .i64 (findS m op).Op.Pad]]) := by
  obtain ⟨hS, ⟨o1, o2⟩, hop, he, hFS⟩ := site_ok h
  have hn := (whole_ok he).1
  have ow : IntKind.i64.wrap (op - 1) = op - 1 := w64_id (by omega)
  have i0 : 0 ≤ IntKind.i64.wrap (op - 1) := by rw [ow]; omega
  have i1 : IntKind.i64.wrap (op - 1) < (m.Ops.length : Int) := by rw [ow]; omega
  obtain ⟨p1, p2, p3⟩ := out_pos hS
  have hP := terms_Positions m op
  rw [h, p1] at hP
  have e1 : (findS m op).Out.H * (findS m op).Out.W = (posN m op : Int) := by unfold posN; omega
  rw [e1] at hP
  have e2 : (m.Ops.getD (IntKind.i64.wrap (op - 1)).toNat default).Pad = (findS m op).Op.Pad := by rw [ow, hop]
  --@@1
  skip
  refine fn_ok Tb_ok (fn := Try.f71) Try.func71 rfl rfl (e := [(0, _), (1, _), (2, _), (3, _)]) rfl (by decide) rfl ?_
  refine zs ?_
  refine zR ?_
  refine zbx [.int _ _, .int _ _, .int _ _, .int _ _, .int _ _, _, .int _ _] 7 ?_
  refine L_box1 Tb_ok (v := .int _ _) rfl rfl rfl trivial ?_
  refine L_box1 Tb_ok (v := .int _ _) rfl rfl rfl trivial ?_
  refine zbx [.int _ _, .int _ _] 2 ?_
  refine L_v Tb_ok (v := .nilf) (av rfl ⟨trivial, trivial⟩) rfl ?_
  refine zn ?_
  refine zs ?_
  refine zR ?_
  refine zLG [.int _ _, .int _ _, .int _ _, .int _ _, .int _ _, _, .int _ _] ?_
  refine zLI ?_
  refine zLc (hP) ?_
  refine zLT [_, _] ?_
  refine zLI ?_
  refine zLI ?_
  refine zal [.int .i64 0] 1 ?_
  refine zst (.int _ _) [_] [[_]] ?_
  refine zLI ?_
  refine zn ?_
  refine zs ?_
  refine zR ?_
  refine zLP ?_
  refine zLO ?_
  refine zLI ?_
  refine zLI ?_
  (refine L_v Tb_ok (v := _) (ave_index_ro rfl rfl rfl (fun _ => rfl) rfl (by first | exact i0 | exact i1 | (rw [List.length_map]; exact i1)) (by first | exact i0 | exact i1 | (rw [List.length_map]; exact i1)) trivial) rfl ?_)
  refine zLQ ?_
  refine zLI ?_
  refine zal [.int .i64 0] 1 ?_
  refine zst (.int _ _) [_] [[_]] ?_
  refine zn ?_
  refine zs ?_
  refine zR ?_
  refine L_freezeP (t := 9) (c' := _) rfl rfl rfl rfl ?_
  refine L_freezeP (t := 4) (c' := _) rfl rfl rfl rfl ?_
  refine L_freezeP (t := 5) (c' := _) rfl rfl rfl rfl ?_
  refine L_freezeP (t := 6) (c' := _) rfl rfl rfl rfl ?_
  refine L_freezeP (t := 7) (c' := _) rfl rfl rfl rfl ?_
  refine L_freezeP (t := 11) (c' := _) rfl rfl rfl rfl ?_
  refine zLF ?_
  refine zLF ?_
  refine zn ?_
  refine zt ?_
  refine ends (l := [.fn _ [] [_, _, _, _, _, _]]) (q := .fn _ [] [_, _, _, _, _, _]) (.inr rfl) rfl ⟨trivial, trivial⟩ rfl rfl ?_
  rw [e2]; rfl
end Go.AM
end
section
open Go Go.AM Go.Proofs
set_option maxRecDepth 10000
set_option linter.unusedVariables false
set_option linter.unusedSimpArgs false
namespace Go.AM
/-- a row of ends, i of them made -/
def endW (f : Term → Span) (T : List Term) (i : Nat) : List Span := (T.take i).map f ++ List.replicate (T.length - i) ⟨0, 0⟩
theorem endW_len (f : Term → Span) {T : List Term} {i : Nat} (h : i ≤ T.length) : (endW f T i).length = T.length := by simp [endW]; omega
theorem endW_set (f : Term → Span) {T : List Term} {i : Nat} (h : i < T.length) : (endW f T i).set i (f (T.getD i default)) = endW f T (i + 1) := by
  unfold endW
  have e : ((T.take i).map f).length = i := by simp; omega
  rw [List.set_append, if_neg (by rw [e]; omega), e, Nat.sub_self, show T.length - i = (T.length - (i + 1)) + 1 by omega, List.replicate_succ, List.set_cons_zero, List.take_add_one, List.map_append, List.append_assoc]
  simp [List.getElem?_eq_getElem h, List.getD_eq_getElem?_getD]
theorem endW_all (f : Term → Span) (T : List Term) : endW f T T.length = T.map f := by simp [endW]
theorem rowsX_get {m : Model} {op ch : Int} {s : Span} {k : Nat} (h : k < posN m op) : (rowsX m op ch s)[k]? = some [.ro ((rowF m op ch s k).map spanC)] := by simp [rowsX, rowsF, h]
theorem getD_in {T : List Term} {i : Nat} (h : i < T.length) : T.getD i default ∈ T := by rw [List.getD_eq_getElem?_getD, List.getElem?_eq_getElem h]; exact List.getElem_mem h
theorem bound_rows1 (m : Model) (hm : m.Wf) (op ch : Int) (s : Span) (z : ofE m op ch 0 = 0) (hs : -128 ≤ s.Lo ∧ s.Lo ≤ s.Hi ∧ s.Hi ≤ 127) : ItOk Try.prog 88 [.rptr [.int .i64 (posN m op : Int)], .rptr (modelC m), .rptr [.int .i64 op], .rptr [.int .i64 ch], .rptr (spanC s), .rptr [.int .i64 (findS m op).Op.Pad]] (rowsX m op ch s) := by
  obtain ⟨f0, fb, _⟩ := ofE_op z
  obtain ⟨hS, _⟩ := site_ok f0
  obtain ⟨hch, _⟩ := (ofBad_iff hS).1 fb
  have hp := (pad_bd hS).1
  have hE : ∀ k : Nat, k < posN m op → ofE m op ch k = 0 := fun k hk => by
    have hb : ofBad (findS m op) ch k = false := (ofBad_iff hS).2 ⟨hch, by omega, by unfold posN at hk; omega⟩
    unfold ofE; rw [if_pos f0, if_neg (by rw [hb]; simp)]
  have hN : posN m op ≤ 1048576 := by
    obtain ⟨_, _, p3⟩ := out_pos hS
    have O := shapeB_iff.1 hS.outB
    have : (findS m op).Out.H * (findS m op).Out.W ≤ 1024 * 1024 := Int.mul_le_mul O.1.2 O.2.1.2 (by omega) (by omega)
    unfold posN; omega
  --@@1
  skip
  refine it_ok (fn := Try.f88) Try.func88 rfl (n := 62) rfl rfl rfl rfl ?_
  intro ic cc hok hxs hpin
  simp only [pinEnv, Nat.reduceAdd]
  refine V_seq ?_
  refine V_of_W ?_
  refine zR ?_
  refine zLI ?_
  refine zLI ?_
  refine zn ?_
  refine V_block ?_
  refine V_for (posN m op) (fun k => ⟨[(0, .yl ic.l), (1, .pin (cc 0) (.rptr [.int .i64 (posN m op : Int)])), (2, .pin (cc 1) (.rptr (modelC m))), (3, .pin (cc 2) (.rptr [.int .i64 op])), (4, .pin (cc 3) (.rptr [.int .i64 ch])), (5, .pin (cc 4) (.rptr (spanC s))), (6, .pin (cc 5) (.rptr [.int .i64 (findS m op).Op.Pad])), (16, .int .i64 (posN m op : Int)), (17, .int .i64 (k : Int))], [], [], 100⟩) (le_env ⟨rfl, rfl, rfl, rfl, rfl, rfl, rfl, rfl, rfl, trivial⟩) ?_
  intro k hk
  refine V_seq ?_
  refine V_of_W ?_
  refine zR ?_
  refine zLB ?_
  refine zn ?_
  refine V_seq ?_
  refine V_cond (b := _) rfl (fun h18 => ?_) (fun h18 => ?_)
  · have hlt : k < posN m op := by have := of_decide_eq_true h18; omega
    obtain ⟨T, hTT⟩ : ∃ T, T = termsF m op ch k := ⟨_, rfl⟩
    have hT : T.length ≤ 512 := by rw [hTT]; exact termsF_len m op ch k
    have hW := termsF_W hm op ch k
    have hO := terms_Of m op ch k
    rw [hE k hlt] at hO
    have hrow : rowF m op ch s k = T.map (endF (findS m op).Op.Pad s) := by rw [hTT]; rfl
    rw [← hTT] at hO hW
    have mk1 : (0 : Int) ≤ ((T.map termC).length : Int) := by omega
    have mk3 : ((Tb.at 28).bytes : Int) * ((T.map termC).length : Int) ≤ 281474976710656 := by rw [show (Tb.at 28).bytes = 16 from rfl, List.length_map]; omega
    have mk4 : ((T.map termC).length : Int) ≤ 9223372036854775807 := by rw [List.length_map]; omega
    refine V_skip ?_
    refine V_seq ?_
    refine V_block ?_
    refine V_seq ?_
    refine V_of_W ?_
    refine zR ?_
    refine zLI ?_
    refine zLI ?_
    refine zn ?_
    refine V_seq ?_
    refine V_of_W ?_
    refine zR ?_
    refine zLG [.int _ _, .int _ _, .int _ _, .int _ _, .int _ _, _, .int _ _] ?_
    refine zLI ?_
    refine zLI ?_
    refine zLI ?_
    refine zLc (hO) ?_
    refine zLT [_, _, _] ?_
    refine zLO ?_
    refine zLI ?_
    refine zLI ?_
    refine zLO ?_
    refine zLI ?_
    refine zLI ?_
    refine zn ?_
    refine V_seq ?_
    refine V_of_W ?_
    refine zR ?_
    refine zLO ?_
    refine zLI ?_
    refine L_make Tb_ok (el := 28) (sz := 2) (z := [.int .i64 0, .int .i64 0]) rfl rfl rfl rfl rfl rfl rfl rfl ⟨trivial, trivial⟩ (by omega) (by omega) rfl ?_
    refine zLW ?_
    refine zn ?_
    refine V_seq ?_
    refine V_seq ?_
    refine V_of_W ?_
    refine zR ?_
    refine zLO ?_
    refine zLI ?_
    refine zLI ?_
    refine zn ?_
    refine V_of_W ?_
    refine W_block ?_
    refine W_for T.length (fun i => ⟨[(0, .yl ic.l), (1, .pin (cc 0) (.rptr [.int .i64 (posN m op : Int)])), (2, .pin (cc 1) (.rptr (modelC m))), (3, .pin (cc 2) (.rptr [.int .i64 op])), (4, .pin (cc 3) (.rptr [.int .i64 ch])), (5, .pin (cc 4) (.rptr (spanC s))), (6, .pin (cc 5) (.rptr [.int .i64 (findS m op).Op.Pad])), (12, .row 100 0 T.length), (16, .int .i64 (posN m op : Int)), (17, .int .i64 (k : Int)), (32, .ro (T.map termC)), (33, .int .i64 (T.length : Int)), (34, .int .i64 (i : Int))], [(100, some ⟨28, 2, 0, (endW (endF (findS m op).Op.Pad s) T i).map spanC⟩)], [], 101⟩) (le_fit ⟨rfl, rfl, rfl, rfl, rfl, rfl, rfl, congrArg (AV.row 100 0) (by rw [Int.toNat_natCast, List.length_map]), rfl, rfl, rfl, congrArg (fun z : Nat => AV.int .i64 (z : Int)) (List.length_map _), rfl, trivial⟩ ⟨.inr (by show some (Ob.mk _ _ _ (List.replicate (((T.map termC).length : Int)).toNat _)) = _; rw [Int.toNat_natCast, List.length_map]; simp [endW, spanC]), trivial⟩ trivial rfl rfl rfl (by simp [ltOB, spanC, AV.lt]) rfl) ?_
    intro i hi
    refine zs ?_
    refine zR ?_
    refine zLB ?_
    refine zn ?_
    refine zs ?_
    refine W_cond (b := _) rfl (fun h35 => ?_) (fun h35 => ?_)
    · have hit : i < T.length := by have := of_decide_eq_true h35; omega
      have hw := hW _ (getD_in hit)
      refine zk ?_
      refine zs ?_
      refine W_block ?_
      refine zs ?_
      refine zR ?_
      refine zLI ?_
      (refine L_v Tb_ok (v := _) (ave_index_ro rfl rfl rfl (fun _ => rfl) rfl (by first | omega | assumption | decide | (simp_all; done) | (simp_all; omega)) (by first | omega | assumption | decide | (simp_all; done) | (simp_all; omega)) trivial) rfl ?_)
      refine zLG [.int _ _, .int _ _] ?_
      refine zal [.int .i64 0, .int .i64 0] 2 ?_
      refine zLI ?_
      refine zst (.agg [.int _ _, .int _ _]) [_, _] [[_, _]] ?_
      refine zn ?_
      refine zs ?_
      refine zR ?_
      refine zLG [.int _ _, .int _ _] ?_
      refine zal [.int .i64 0, .int .i64 0] 2 ?_
      refine zst (.agg [.int _ _, .int _ _]) [_, _] [[_, _]] ?_
      refine zn ?_
      refine zs ?_
      refine zs ?_
      refine zR ?_
      refine zLP ?_
      refine zLI ?_
      refine zLB ?_
      refine zn ?_
      refine W_cond (b := _) rfl (fun h42 => ?_) (fun h42 => ?_)
      · have c : (T.getD i default).At < 0 := by simpa using h42
        have hTm : Ok Try.prog 84 [.agg [.int .i64 (findS m op).Op.Pad, .int .i64 (findS m op).Op.Pad], .int .i64 (T.getD i default).W] (.tup [.agg (spanC (endF (findS m op).Op.Pad s (T.getD i default))), .int .i64 0]) := by
          unfold endF; rw [if_pos c]; exact span_Times ⟨(findS m op).Op.Pad, (findS m op).Op.Pad⟩ _ (Int.le_refl _) (by dsimp only; omega) (by omega)
        refine zR ?_
        refine zLI ?_
        refine zLI ?_
        refine zLG [.int _ _, .int _ _] ?_
        refine zst (.agg [.int _ _, .int _ _]) [_, _] [[_, _]] ?_
        refine zn ?_
        refine zR ?_
        refine zLW ?_
        refine zLI ?_
        refine zLG [.int _ _, .int _ _] ?_
        refine zLP ?_
        refine zLI ?_
        refine zLc (hTm) ?_
        refine zLT [_, _] ?_
        refine zLG [.int _ _, .int _ _] ?_
        refine zLI ?_
        (refine L_v Tb_ok (v := _) (ave_index_row rfl rfl rfl rfl rfl rfl (by omega) (by omega) trivial) rfl ?_)
        refine L_store_row Tb_ok (f := spanC) (xs := endW (endF (findS m op).Op.Pad s) T i) (v' := (endF (findS m op).Op.Pad s) (T.getD i default)) rfl rfl rfl rfl rfl rfl rfl rfl (by rw [endW_len _ hi]; simp; omega) rfl ⟨trivial, trivial⟩ ?_
        refine zn ?_
        refine zR ?_
        refine zLI ?_
        refine zLI ?_
        refine zn ?_
        refine for_end hit (le_fit ⟨rfl, rfl, rfl, rfl, rfl, rfl, rfl, rfl, rfl, rfl, rfl, rfl, congrArg _ (w_succ hit (by omega)), trivial⟩ ⟨.inr ?_, trivial⟩ trivial rfl rfl rfl (by simp [ltOB, spanC, AV.lt]) rfl)
        show some (Ob.mk 28 2 0 (((endW (endF (findS m op).Op.Pad s) T i).set (0 + ((i : Nat) : Int).toNat) ((endF (findS m op).Op.Pad s) (T.getD i default))).map spanC)) = _
        rw [Nat.zero_add, Int.toNat_natCast, endW_set _ hit]
      · have c : ¬ (T.getD i default).At < 0 := by simpa using h42
        have hTm : Ok Try.prog 84 [.agg (spanC s), .int .i64 (T.getD i default).W] (.tup [.agg (spanC (endF (findS m op).Op.Pad s (T.getD i default))), .int .i64 0]) := by
          unfold endF; rw [if_neg c]; exact span_Times s _ hs.2.1 (by omega) (by omega)
        refine zk ?_
        refine zR ?_
        refine zLW ?_
        refine zLI ?_
        refine zLG [.int _ _, .int _ _] ?_
        refine zLP ?_
        refine zLI ?_
        refine zLc (hTm) ?_
        refine zLT [_, _] ?_
        refine zLG [.int _ _, .int _ _] ?_
        refine zLI ?_
        (refine L_v Tb_ok (v := _) (ave_index_row rfl rfl rfl rfl rfl rfl (by omega) (by omega) trivial) rfl ?_)
        refine L_store_row Tb_ok (f := spanC) (xs := endW (endF (findS m op).Op.Pad s) T i) (v' := (endF (findS m op).Op.Pad s) (T.getD i default)) rfl rfl rfl rfl rfl rfl rfl rfl (by rw [endW_len _ hi]; simp; omega) rfl ⟨trivial, trivial⟩ ?_
        refine zn ?_
        refine zR ?_
        refine zLI ?_
        refine zLI ?_
        refine zn ?_
        refine for_end hit (le_fit ⟨rfl, rfl, rfl, rfl, rfl, rfl, rfl, rfl, rfl, rfl, rfl, rfl, congrArg _ (w_succ hit (by omega)), trivial⟩ ⟨.inr ?_, trivial⟩ trivial rfl rfl rfl (by simp [ltOB, spanC, AV.lt]) rfl)
        show some (Ob.mk 28 2 0 (((endW (endF (findS m op).Op.Pad s) T i).set (0 + ((i : Nat) : Int).toNat) ((endF (findS m op).Op.Pad s) (T.getD i default))).map spanC)) = _
        rw [Nat.zero_add, Int.toNat_natCast, endW_set _ hit]
    · have hie : i = T.length := by have := of_decide_eq_false h35; omega
      refine W_exit ?_
      repeat (first | refine pass_then ?_ | refine pass_for ?_)
      refine blockQ_hit ?_
      refine V_seq ?_
      refine V_region rfl ?_
      refine VL_pre [_, _] _ rfl ?_
      refine zLY ?_
      refine L_freeze (t := 12) (id := 100) (l := (T.map (endF (findS m op).Op.Pad s)).map spanC) rfl rfl ?_ rfl rfl ?_ ?_ ?_
      · show T.length = ((endW (endF (findS m op).Op.Pad s) T i).map spanC).length
        rw [List.length_map, endW_len _ hi]
      · show ((endW (endF (findS m op).Op.Pad s) T i).map spanC).map (·.map demC) = _
        rw [hie, endW_all]; simp [spanC, demC]
      · simp [spanC, grC]
      refine zLO ?_
      refine zn ?_
      refine VL_yield hok rfl trivial rfl rfl trivial (by rw [hxs, rowsX_get hlt, hrow]; rfl) (by rw [hpin]; simp [pinsIn, pinsOf]) rfl ?_ ?_
      · refine VL_pre [_] [] rfl ?_
        refine zLB ?_
        refine zn ?_
        refine VL_nil ?_
        refine V_cond_f (b := _) rfl (by rfl) ?_
        refine V_skip ?_
        refine V_of_W ?_
        refine zR ?_
        refine zLI ?_
        refine zLI ?_
        refine zn ?_
        refine forV_end hlt (le_fit ⟨rfl, rfl, rfl, rfl, rfl, rfl, rfl, rfl, congrArg _ (w_succ hlt (by omega)), trivial⟩ trivial trivial rfl rfl rfl rfl rfl)
      · refine VL_pre [_] [] rfl ?_
        refine zLB ?_
        refine zn ?_
        refine VL_nil ?_
        refine V_cond_t (b := _) rfl (by rfl) ?_
        refine V_ret ?_
        exact ⟨by first | exact .inl rfl | exact .inr rfl, by first | exact .inl rfl | exact .inr (by rw [hke]; simp [rowsX, rowsF])⟩
  · have hke : k = posN m op := by have := of_decide_eq_false h18; omega
    refine V_exit ?_
    repeat (first | refine passV_then ?_ | refine passV_round ?_ | refine passV_for ?_ | refine blockV_miss rfl ?_)
    refine blockV_hit ?_
    exact ⟨by first | exact .inl rfl | exact .inr rfl, by first | exact .inl rfl | exact .inr (by rw [hke]; simp [rowsX, rowsF])⟩
end Go.AM
end
