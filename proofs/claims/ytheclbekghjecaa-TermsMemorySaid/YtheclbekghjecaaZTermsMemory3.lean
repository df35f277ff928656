/- The law TermsMemory answers true, whatever its arguments: part 4 of 4 of its proof. -/
import Derived.Test.YtheclbekghjecaaRows
import Derived.WalkKit
import Derived.Test.YtheclbekghjecaaZTermsMemory2
section
open Go Go.AM Go.Proofs
set_option maxRecDepth 10000
set_option linter.unusedVariables false
set_option linter.unusedSimpArgs false
namespace Go.AM
/-- what a tap gives, a channel after the other -/
def plRow (C first : Int) (cnt : Nat) (p : Int) : List Int := (List.range cnt).map fun (c : Nat) => bif decide (p < 0) then -1 else w64 (w64 (p * C) + (first + (c : Int)))
def plOut (s : Shape) (w : Window) (top left first : Int) (cnt k : Nat) : List Int := (List.range k).flatMap fun (i : Nat) => plRow s.C first cnt (tapPlace s w top left i)
theorem plRow_len (C first p : Int) (cnt : Nat) : (plRow C first cnt p).length = cnt := by simp [plRow]
theorem plOut_len (s : Shape) (w : Window) (top left first : Int) (cnt k : Nat) : (plOut s w top left first cnt k).length = k * cnt := by
  induction k with
  | zero => simp [plOut]
  | succ k ih =>
    have : plOut s w top left first cnt (k + 1) = plOut s w top left first cnt k ++ plRow s.C first cnt (tapPlace s w top left k) := by simp [plOut, List.range_succ]
    rw [this, List.length_append, ih, plRow_len, Nat.add_mul, Nat.one_mul]
theorem plOut_succ (s : Shape) (w : Window) (top left first : Int) (cnt k : Nat) : plOut s w top left first cnt (k + 1) = plOut s w top left first cnt k ++ plRow s.C first cnt (tapPlace s w top left k) := by simp [plOut, List.range_succ]
theorem plRow_take (C first p : Int) (cnt j : Nat) (L : List Int) (v : Int) (h : j < cnt) (hv : (bif decide (p < 0) then -1 else w64 (w64 (p * C) + (first + (j : Int)))) = v) : (L ++ (plRow C first cnt p).take j) ++ [v] = L ++ (plRow C first cnt p).take (j + 1) := by
  rw [List.append_assoc, List.take_add_one]
  congr 2
  simp [plRow, h, hv]
theorem tap_inv {s : Shape} {w : Window} {top left : Int} {k : Nat} {x : List AV} (h : (tapList s w top left)[k]? = some x) : k < tapN w ∧ x = [.int .i64 (k : Int), .int .i64 (tapPlace s w top left k)] := by
  simp only [tapList, List.getElem?_map] at h
  by_cases hk : k < tapN w
  · simp [hk] at h; exact ⟨hk, h.symm⟩
  · simp [hk] at h
def plFirst (o : MOp) (ch : Int) : Int × Int := bif o.Kind == 2 then (0, w64 (ch - 1)) else (w64 (ch - 1), w64 (ch - 1))
theorem terms_places_dense (S : Site) (ch at_ : Int) (hc17 : (S.Op.Kind == 1) = true) (hl0 : 0 ≤ S.Len) (hl : S.Len ≤ 16777216) :
    Ok Try.prog 32 [.agg (siteC S), .int .i64 ch, .int .i64 at_] (.ro (((List.range S.Len.toNat).map fun (k : Nat) => (k : Int)).map intC)) := by
  have hN : S.Len = ((S.Len.toNat : Nat) : Int) := by omega
  refine fn_ok Tb_ok (fn := Try.f32) Try.func32 rfl rfl (e := [(0, _), (1, _), (2, _)]) rfl (by decide) rfl ?_
  refine zs ?_
  refine zR ?_
  refine zbx [.int _ _, .int _ _, .int _ _, .int _ _, .int _ _, .int _ _, .int _ _, .int _ _, .int _ _, .int _ _, .int _ _, .int _ _, _, _, .int _ _, .int _ _, .int _ _, .int _ _, .int _ _, .int _ _, .int _ _, .int _ _, .int _ _, .int _ _, .int _ _, .int _ _, .int _ _, .int _ _, .int _ _] 29 ?_
  refine zLN ?_
  refine zn ?_
  refine zs ?_
  refine zR ?_
  refine zal [.nils] 1 ?_
  refine zn ?_
  refine zs ?_
  refine zs ?_
  refine zR ?_
  refine zLP ?_
  refine zLP ?_
  refine zLI ?_
  refine zLB ?_
  refine zn ?_
  refine W_cond_t (b := _) rfl (by exact hc17) ?_
  refine zs ?_
  refine zs ?_
  refine zR ?_
  refine zLP ?_
  refine zLI ?_
  refine zLI ?_
  refine zn ?_
  refine W_block ?_
  refine W_nilO (id := 1) (j := 0) (el := 3) (esz := 1) rfl rfl rfl rfl ?_
  refine W_for S.Len.toNat (fun k => ⟨[(3, .ptr 0 0 0), (7, .ptr 1 0 0), (19, .int .i64 S.Len), (20, .int .i64 (k : Int))], [(1, some ⟨56, 1, 0, [[.app 2 (((List.range k).map fun (k : Nat) => (k : Int)).map intC)]]⟩)], [(2, some (3, 1, ((List.range k).map fun (k : Nat) => (k : Int)).length))], 3⟩) (le_fit ⟨rfl, rfl, rfl, rfl, trivial⟩ ⟨.inr rfl, trivial⟩ ⟨.inr rfl, trivial⟩ rfl rfl rfl rfl rfl) ?_
  intro k hk
  have e1 : ((List.range k).map fun (k : Nat) => (k : Int)) ++ [(k : Int)] = (List.range (k + 1)).map fun (k : Nat) => (k : Int) := by simp [List.range_succ]
  refine zs ?_
  refine zR ?_
  refine zLB ?_
  refine zn ?_
  refine zs ?_
  refine W_cond (b := _) rfl (fun h21 => ?_) (fun h21 => ?_)
  · have hlt : k < S.Len.toNat := by have := of_decide_eq_true h21; omega
    refine zk ?_
    refine zs ?_
    refine W_block ?_
    refine zs ?_
    refine zR ?_
    refine zLI ?_
    refine zLI ?_
    refine zn ?_
    refine zR ?_
    refine zLA ?_
    refine zLI ?_
    refine L_build Tb_ok (t := 56) (len := 1) (el := 3) (sz := 1) (es := [[_]]) (z := [.int .i64 0]) rfl rfl rfl rfl rfl (by decide) trivial rfl rfl rfl rfl rfl ?_
    refine L_app1 Tb_ok (f := intC) (v := (k : Int)) (tok := 2) (el := 3) (sz := 1) rfl rfl rfl rfl rfl ⟨trivial, trivial⟩ (fun _ => ⟨rfl, rfl⟩) (by rw [show (Tb.at 3).bytes = 8 from rfl]; simp; omega) rfl ?_
    refine zst (.app _ _) [_] [[_]] ?_
    refine zn ?_
    refine zR ?_
    refine zLI ?_
    refine zLI ?_
    refine zn ?_
    refine for_end hlt (le_fit ⟨rfl, rfl, rfl, congrArg _ (w_succ hlt (by omega)), trivial⟩ ⟨.inr ?_, trivial⟩ ⟨.inr ?_, trivial⟩ rfl rfl rfl rfl rfl)
    · show some (Ob.mk 56 1 0 [[.app 2 ((((List.range k).map fun (k : Nat) => (k : Int)) ++ [(k : Int)]).map intC)]]) = _
      rw [e1]
    · show some (3, 1, (((List.range k).map fun (k : Nat) => (k : Int)) ++ [(k : Int)]).length) = _
      rw [e1]
  · have hke : k = S.Len.toNat := by have := of_decide_eq_false h21; omega
    refine W_exit ?_
    repeat (first | refine pass_then ?_ | refine pass_for ?_)
    refine blockQ_hit ?_
    refine zs ?_
    refine zR ?_
    refine zLA ?_
    refine zLA ?_
    refine zn ?_
    refine zt ?_
    (refine ends (l := [.app _ _]) (q := .ro _) (.inr rfl) rfl ⟨trivial, trivial⟩ rfl rfl ?_)
    rw [hke]
theorem terms_places_taps (S : Site) (ch at_ : Int) (hc17 : (S.Op.Kind == 1) = false) (hbad : tapsBad S.In S.Op.Win at_ = false) (hkw : S.Op.Win.KW ≠ 0) (hn : 0 ≤ w64 (S.Op.Win.KH * S.Op.Win.KW)) (hn2 : w64 (S.Op.Win.KH * S.Op.Win.KW) ≤ 4096) (cnt : Nat) (hcnt : cnt ≤ 4096) (f l : Int) (hf0 : 0 ≤ f) (hf1 : f ≤ 1000000) (hl : l = f + cnt - 1)
    (hX : (bif S.Op.Kind == 2 then ((0 : Int), w64 (S.In.C - 1)) else (w64 (ch - 1), w64 (ch - 1))) = (f, l)) :
    Ok Try.prog 32 [.agg (siteC S), .int .i64 ch, .int .i64 at_] (.ro ((plOut S.In S.Op.Win (tapsTop S.In S.Op.Win at_) (tapsLeft S.In S.Op.Win at_) f cnt (tapN S.Op.Win)).map intC)) := by
  have hT : tapN S.Op.Win ≤ 4096 := by simp only [tapN]; omega
  refine fn_ok Tb_ok (fn := Try.f32) Try.func32 rfl rfl (e := [(0, _), (1, _), (2, _)]) rfl (by decide) rfl ?_
  refine zs ?_
  refine zR ?_
  refine zbx [.int _ _, .int _ _, .int _ _, .int _ _, .int _ _, .int _ _, .int _ _, .int _ _, .int _ _, .int _ _, .int _ _, .int _ _, _, _, .int _ _, .int _ _, .int _ _, .int _ _, .int _ _, .int _ _, .int _ _, .int _ _, .int _ _, .int _ _, .int _ _, .int _ _, .int _ _, .int _ _, .int _ _] 29 ?_
  refine zLN ?_
  refine zn ?_
  refine zs ?_
  refine zR ?_
  refine zal [.nils] 1 ?_
  refine zn ?_
  refine zs ?_
  refine zs ?_
  refine zR ?_
  refine zLP ?_
  refine zLP ?_
  refine zLI ?_
  refine zLB ?_
  refine zn ?_
  refine W_cond_f (b := _) rfl (by exact hc17) ?_
  refine zk ?_
  refine zs ?_
  refine zR ?_
  refine zLI ?_
  refine zLI ?_
  refine zLI ?_
  refine zLI ?_
  refine zal [.int .i64 0] 1 ?_
  refine zal [.int .i64 0] 1 ?_
  refine zst (.int _ _) [_] [[_]] ?_
  refine zst (.int _ _) [_] [[_]] ?_
  refine zn ?_
  refine zs ?_
  refine zs ?_
  refine zR ?_
  refine zLP ?_
  refine zLP ?_
  refine zLI ?_
  refine zLB ?_
  refine zn ?_
  refine W_ift (b := _) (M := ⟨[(2, .int .i64 at_), (3, .ptr 0 0 0), (7, .ptr 1 0 0), (9, .ptr 2 0 0), (10, .ptr 3 0 0)], [(0, some ⟨81, 29, 0, [siteC S]⟩), (1, some ⟨56, 1, 0, [[.nils]]⟩), (2, some ⟨3, 1, 0, [[.int .i64 (bif S.Op.Kind == 2 then ((0 : Int), w64 (S.In.C - 1)) else (w64 (ch - 1), w64 (ch - 1))).1]]⟩), (3, some ⟨3, 1, 0, [[.int .i64 (bif S.Op.Kind == 2 then ((0 : Int), w64 (S.In.C - 1)) else (w64 (ch - 1), w64 (ch - 1))).2]]⟩)], [], 4⟩) (p := True) rfl (fun h36 => ?_) (fun h36 => ?_) (fun m36 => ?_)
  · refine W_drawF (fun e => [idOf (get e 9), idOf (get e 10)]) 4 [[4, 5]] Tb_mixed rfl (by decide) (by kernel_rfl) ?_
    refine zSP ?_
    refine zSP ?_
    refine zSI ?_
    refine zSI ?_
    refine S_nil ?_
    refine TT_one ?_
    refine TT_store Tb_ok (OSub_forget _ _) rfl (v := .int _ _) (cs := [_]) (es' := [[_]]) rfl rfl rfl rfl rfl rfl rfl rfl rfl rfl rfl ⟨trivial, trivial⟩ (fun ht1 => ?_)
    refine TT_store Tb_ok ht1 rfl (v := .int _ _) (cs := [_]) (es' := [[_]]) rfl rfl rfl rfl rfl rfl rfl rfl rfl rfl rfl ⟨trivial, trivial⟩ (fun ht2 => ?_)
    refine TT_nil ?_
    clear ht1 ht2
    exact ⟨trivial, le_t (F := fun X => ⟨[(2, .int .i64 at_), (3, .ptr 0 0 0), (7, .ptr 1 0 0), (9, .ptr 2 0 0), (10, .ptr 3 0 0)], [(0, some ⟨81, 29, 0, [siteC S]⟩), (1, some ⟨56, 1, 0, [[.nils]]⟩), (2, some ⟨3, 1, 0, [[.int .i64 X.1]]⟩), (3, some ⟨3, 1, 0, [[.int .i64 X.2]]⟩)], [], 4⟩) (x := ((0 : Int), w64 (S.In.C - 1))) (y := (w64 (ch - 1), w64 (ch - 1))) h36 (le_fit ⟨rfl, rfl, rfl, rfl, rfl, trivial⟩ ⟨.inr rfl, .inr rfl, .inr rfl, .inr rfl, trivial⟩ trivial rfl rfl rfl rfl rfl)⟩
  · refine zk ?_
    exact ⟨trivial, le_f (F := fun X => ⟨[(2, .int .i64 at_), (3, .ptr 0 0 0), (7, .ptr 1 0 0), (9, .ptr 2 0 0), (10, .ptr 3 0 0)], [(0, some ⟨81, 29, 0, [siteC S]⟩), (1, some ⟨56, 1, 0, [[.nils]]⟩), (2, some ⟨3, 1, 0, [[.int .i64 X.1]]⟩), (3, some ⟨3, 1, 0, [[.int .i64 X.2]]⟩)], [], 4⟩) (x := ((0 : Int), w64 (S.In.C - 1))) (y := (w64 (ch - 1), w64 (ch - 1))) h36 (le_fit ⟨rfl, rfl, rfl, rfl, rfl, trivial⟩ ⟨.inr rfl, .inr rfl, .inr rfl, .inr rfl, trivial⟩ trivial rfl rfl rfl rfl rfl)⟩
  refine zs ?_
  refine zs ?_
  refine zR ?_
  rw [hX]
  refine zLP ?_
  refine zLG [.int _ _, .int _ _, .int _ _] ?_
  refine zLP ?_
  refine zLP ?_
  refine zLG [.int _ _, .int _ _, .int _ _, .int _ _, .int _ _, .int _ _, .int _ _, .int _ _] ?_
  refine zLI ?_
  refine zLc (window_Taps_yes S.In S.Op.Win at_ hbad) ?_
  refine zn ?_
  refine W_block ?_
  refine W_nilO (id := 1) (j := 0) (el := 3) (esz := 1) rfl rfl rfl rfl ?_
  refine W_range (xs := tapList S.In S.Op.Win (tapsTop S.In S.Op.Win at_) (tapsLeft S.In S.Op.Win at_)) rfl trivial rfl rfl (window_Taps2 _ _ _ _ hkw hn (by omega)) rfl (fun x hx => by obtain ⟨k, hk⟩ := List.getElem?_of_mem hx; rw [(tap_inv hk).2]; rfl)
    (fun k => ([(0, some ⟨81, 29, 0, [siteC S]⟩), (1, some ⟨56, 1, 0, [[.app 4 ((plOut S.In S.Op.Win (tapsTop S.In S.Op.Win at_) (tapsLeft S.In S.Op.Win at_) f cnt k).map intC)]]⟩), (2, some ⟨3, 1, 0, [[.int .i64 f]]⟩), (3, some ⟨3, 1, 0, [[.int .i64 l]]⟩)], [(4, some (3, 1, (plOut S.In S.Op.Win (tapsTop S.In S.Op.Win at_) (tapsLeft S.In S.Op.Win at_) f cnt k).length))], 5))
    (le_fit trivial ⟨.inr rfl, .inr rfl, .inr rfl, .inr rfl, trivial⟩ ⟨.inr rfl, trivial⟩ rfl rfl rfl rfl rfl) ?_ ?_
  · intro k x hx
    obtain ⟨hk, rfl⟩ := tap_inv hx
    refine zR ?_
    refine zLI ?_
    refine zn ?_
    refine W_block ?_
    refine zs ?_
    refine zR ?_
    refine zLI ?_
    refine zLI ?_
    refine zn ?_
    refine W_block ?_
    refine W_for cnt (fun j => ⟨[(3, .ptr 0 0 0), (7, .ptr 1 0 0), (9, .ptr 2 0 0), (10, .ptr 3 0 0), (12, .int .i64 (tapPlace S.In S.Op.Win (tapsTop S.In S.Op.Win at_) (tapsLeft S.In S.Op.Win at_) (k : Int))), (13, .int .i64 (f + (j : Int)))], [(0, some ⟨81, 29, 0, [siteC S]⟩), (1, some ⟨56, 1, 0, [[.app 4 ((plOut S.In S.Op.Win (tapsTop S.In S.Op.Win at_) (tapsLeft S.In S.Op.Win at_) f cnt k ++ (plRow S.In.C f cnt (tapPlace S.In S.Op.Win (tapsTop S.In S.Op.Win at_) (tapsLeft S.In S.Op.Win at_) (k : Int))).take j).map intC)]]⟩), (2, some ⟨3, 1, 0, [[.int .i64 f]]⟩), (3, some ⟨3, 1, 0, [[.int .i64 l]]⟩)], [(4, some (3, 1, (plOut S.In S.Op.Win (tapsTop S.In S.Op.Win at_) (tapsLeft S.In S.Op.Win at_) f cnt k ++ (plRow S.In.C f cnt (tapPlace S.In S.Op.Win (tapsTop S.In S.Op.Win at_) (tapsLeft S.In S.Op.Win at_) (k : Int))).take j).length))], 5⟩)
      (le_fit ⟨rfl, rfl, rfl, rfl, rfl, congrArg _ (show f = f + ((0 : Nat) : Int) by simp), trivial⟩ ⟨.inr rfl, .inr (by simp; rfl), .inr rfl, .inr rfl, trivial⟩ ⟨.inr (by simp; rfl), trivial⟩ rfl rfl rfl rfl rfl) ?_
    intro j hj
    have hlen : (plOut S.In S.Op.Win (tapsTop S.In S.Op.Win at_) (tapsLeft S.In S.Op.Win at_) f cnt k ++ (plRow S.In.C f cnt (tapPlace S.In S.Op.Win (tapsTop S.In S.Op.Win at_) (tapsLeft S.In S.Op.Win at_) (k : Int))).take j).length ≤ 33554432 := by
      have h1 := plOut_len S.In S.Op.Win (tapsTop S.In S.Op.Win at_) (tapsLeft S.In S.Op.Win at_) f cnt k
      have h2 : k * cnt ≤ 4096 * 4096 := Nat.mul_le_mul (by omega) hcnt
      rw [List.length_append, h1, List.length_take]; omega
    refine zs ?_
    refine zs ?_
    refine zR ?_
    refine zLI ?_
    refine zLI ?_
    refine zLB ?_
    refine zn ?_
    refine W_cond (b := _) rfl (fun h53 => ?_) (fun h53 => ?_)
    · have hlt : j < cnt := by have := of_decide_eq_true h53; omega
      refine zk ?_
      refine zs ?_
      refine W_block ?_
      refine zs ?_
      refine zR ?_
      refine zLI ?_
      refine zLB ?_
      refine zn ?_
      refine W_cond (b := _) rfl (fun h57 => ?_) (fun h57 => ?_)
      · have hap := plRow_take S.In.C f (tapPlace S.In S.Op.Win (tapsTop S.In S.Op.Win at_) (tapsLeft S.In S.Op.Win at_) (k : Int)) cnt j (plOut S.In S.Op.Win (tapsTop S.In S.Op.Win at_) (tapsLeft S.In S.Op.Win at_) f cnt k) (-1) hlt (by rw [h57]; rfl)
        refine zR ?_
        refine zLA ?_
        refine L_build Tb_ok (t := 56) (len := 1) (el := 3) (sz := 1) (es := [[_]]) (z := [.int .i64 0]) rfl rfl rfl rfl rfl (by decide) trivial rfl rfl rfl rfl rfl ?_
        refine L_app1 Tb_ok (f := intC) (v := -1) (tok := 4) (el := 3) (sz := 1) rfl rfl rfl rfl rfl ⟨trivial, trivial⟩ (fun _ => ⟨rfl, rfl⟩) (by rw [show (Tb.at 3).bytes = 8 from rfl]; omega) rfl ?_
        refine zst (.app _ _) [_] [[_]] ?_
        refine zn ?_
        refine zR ?_
        refine zLI ?_
        refine zLI ?_
        refine zLI ?_
        refine zn ?_
        refine for_end hlt (le_fit ⟨rfl, rfl, rfl, rfl, rfl, congrArg (AV.int .i64) (show IntKind.i64.wrap (f + (j : Int) + 1) = f + ((j + 1 : Nat) : Int) by rw [w64_id (by omega)]; omega), trivial⟩ ⟨.inr rfl, .inr ?_, .inr rfl, .inr rfl, trivial⟩ ⟨.inr ?_, trivial⟩ rfl rfl rfl rfl rfl)
        · exact congrArg (fun z => some (Ob.mk 56 1 0 [[.app 4 (List.map intC z)]])) hap
        · exact congrArg (fun z => some (3, 1, List.length z)) hap
      · have hap := plRow_take S.In.C f (tapPlace S.In S.Op.Win (tapsTop S.In S.Op.Win at_) (tapsLeft S.In S.Op.Win at_) (k : Int)) cnt j (plOut S.In S.Op.Win (tapsTop S.In S.Op.Win at_) (tapsLeft S.In S.Op.Win at_) f cnt k) _ hlt (by rw [h57, cond_false])
        refine zR ?_
        refine zLA ?_
        refine zLI ?_
        refine zLP ?_
        refine zLP ?_
        refine zLI ?_
        refine zLI ?_
        refine zLI ?_
        refine zLI ?_
        refine L_build Tb_ok (t := 56) (len := 1) (el := 3) (sz := 1) (es := [[_]]) (z := [.int .i64 0]) rfl rfl rfl rfl rfl (by decide) trivial rfl rfl rfl rfl rfl ?_
        refine L_app1 Tb_ok (f := intC) (v := w64 (w64 (_ * _) + (f + (j : Int)))) (tok := 4) (el := 3) (sz := 1) rfl rfl rfl rfl rfl ⟨trivial, trivial⟩ (fun _ => ⟨rfl, rfl⟩) (by rw [show (Tb.at 3).bytes = 8 from rfl]; omega) rfl ?_
        refine zst (.app _ _) [_] [[_]] ?_
        refine zn ?_
        refine zR ?_
        refine zLI ?_
        refine zLI ?_
        refine zLI ?_
        refine zn ?_
        refine for_end hlt (le_fit ⟨rfl, rfl, rfl, rfl, rfl, congrArg (AV.int .i64) (show IntKind.i64.wrap (f + (j : Int) + 1) = f + ((j + 1 : Nat) : Int) by rw [w64_id (by omega)]; omega), trivial⟩ ⟨.inr rfl, .inr ?_, .inr rfl, .inr rfl, trivial⟩ ⟨.inr ?_, trivial⟩ rfl rfl rfl rfl rfl)
        · exact congrArg (fun z => some (Ob.mk 56 1 0 [[.app 4 (List.map intC z)]])) hap
        · exact congrArg (fun z => some (3, 1, List.length z)) hap
    · have hje : j = cnt := by have := of_decide_eq_false h53; omega
      refine W_exit ?_
      repeat (first | refine pass_then ?_ | refine pass_for ?_)
      refine blockQ_hit ?_
      refine le_fit trivial ⟨.inr rfl, .inr ?_, .inr rfl, .inr rfl, trivial⟩ ⟨.inr ?_, trivial⟩ rfl rfl rfl rfl rfl
      · rw [hje, List.take_of_length_le (Nat.le_of_eq (plRow_len _ _ _ _))]; exact congrArg (fun z => some (Ob.mk 56 1 0 [[.app 4 (List.map intC z)]])) (plOut_succ _ _ _ _ _ _ _).symm
      · rw [hje, List.take_of_length_le (Nat.le_of_eq (plRow_len _ _ _ _))]; exact congrArg (fun z => some (3, 1, List.length z)) (plOut_succ _ _ _ _ _ _ _).symm
  refine zs ?_
  refine zR ?_
  refine zLA ?_
  refine zLA ?_
  refine zn ?_
  refine zt ?_
  (refine ends (l := [.app _ _]) (q := .ro _) (.inr rfl) rfl ⟨trivial, trivial⟩ rfl rfl ?_)
  simp [tapList]
end Go.AM
end
section
open Go Go.AM Go.Proofs
set_option maxRecDepth 10000
set_option linter.unusedVariables false
set_option linter.unusedSimpArgs false
namespace Go.AM
/-- the places of a sum's terms -/
def plOf (S : Site) (ch at_ : Int) : List Int :=
  if S.Op.Kind = 1 then (List.range S.Len.toNat).map fun (k : Nat) => (k : Int)
  else plOut S.In S.Op.Win (tapsTop S.In S.Op.Win at_) (tapsLeft S.In S.Op.Win at_) (if S.Op.Kind = 2 then 0 else ch - 1) (if S.Op.Kind = 2 then S.In.C.toNat else 1) (tapN S.Op.Win)
theorem taps_win {S : Site} (hS : SiteOk S) (hk : S.Op.Kind ≠ 1) : w64 (S.Op.Win.KH * S.Op.Win.KW) = S.Op.Win.KH * S.Op.Win.KW ∧ 1 ≤ S.Op.Win.KH * S.Op.Win.KW ∧ S.Op.Win.KH * S.Op.Win.KW ≤ 1024 := by
  have W := windowB_iff (hS.win hk).1
  have a0 := Int.mul_le_mul W.1.1 W.2.1.1 (by omega) (by omega)
  have a2 : S.Op.Win.KH * S.Op.Win.KW ≤ 32 * 32 := Int.mul_le_mul W.1.2 W.2.1.2 (by omega) (by omega)
  exact ⟨w64_id (by omega), by omega, by omega⟩
theorem out_pos {S : Site} (hS : SiteOk S) : w64 (S.Out.H * S.Out.W) = S.Out.H * S.Out.W ∧ 1 ≤ S.Out.H * S.Out.W ∧ S.Out.H * S.Out.W ≤ 1048576 := by
  have B := shapeB_iff.1 hS.outB
  have a0 := Int.mul_le_mul B.1.1 B.2.1.1 (by omega) (by omega)
  have a2 : S.Out.H * S.Out.W ≤ 1024 * 1024 := Int.mul_le_mul B.1.2 B.2.1.2 (by omega) (by omega)
  exact ⟨w64_id (by omega), by omega, by omega⟩
theorem ofBad_iff {S : Site} {ch at_ : Int} (hS : SiteOk S) : ofBad S ch at_ = false ↔ (1 ≤ ch ∧ ch ≤ S.Out.C) ∧ 0 ≤ at_ ∧ at_ < S.Out.H * S.Out.W := by
  obtain ⟨h1, h2, h3⟩ := out_pos hS
  unfold ofBad; rw [h1]
  by_cases a : ch < 1 <;> by_cases b : ch > S.Out.C <;> by_cases c : at_ < 0 <;> by_cases d : at_ ≥ S.Out.H * S.Out.W <;> simp [a, b, c, d] <;> omega
theorem plOf_len {S : Site} (hS : SiteOk S) (ch at_ : Int) : (plOf S ch at_).length = S.Len.toNat := by
  unfold plOf
  split
  · simp
  · rename_i hk
    obtain ⟨h1, h2, h3⟩ := taps_win hS hk
    rw [plOut_len]
    unfold tapN
    rw [h1]
    split
    · rename_i k2
      have B := shapeB_iff.1 hS.inB
      rw [hS.len2 k2, ← Int.toNat_mul (by omega) (by omega)]
    · rw [hS.len3 (by have := hS.kind; omega)]; omega
theorem taps_good {S : Site} {at_ : Int} (hS : SiteOk S) (hk : S.Op.Kind ≠ 1) (h0 : 0 ≤ at_) (h1 : at_ < S.Out.H * S.Out.W) : tapsBad S.In S.Op.Win at_ = false := by
  obtain ⟨_, w2, w3, w4⟩ := hS.win hk
  obtain ⟨o1, o2, o3⟩ := out_pos hS
  unfold tapsBad
  rw [← w3, ← w4, o1, w2]
  have a : ¬ at_ < 0 := by omega
  have b : ¬ at_ ≥ S.Out.H * S.Out.W := by omega
  simp [a, b]
theorem terms_places {S : Site} {ch at_ : Int} (hS : SiteOk S) (hch : 1 ≤ ch ∧ ch ≤ S.Out.C) (hat : 0 ≤ at_ ∧ at_ < S.Out.H * S.Out.W) : Ok Try.prog 32 [.agg (siteC S), .int .i64 ch, .int .i64 at_] (.ro ((plOf S ch at_).map intC)) := by
  unfold plOf
  have B := shapeB_iff.1 hS.inB
  have O := shapeB_iff.1 hS.outB
  split
  · rename_i k1
    exact terms_places_dense S ch at_ (by simp [k1]) (by have := hS.len; omega) (by have := hS.len; omega)
  · rename_i k1
    obtain ⟨h1, h2, h3⟩ := taps_win hS k1
    have W := windowB_iff (hS.win k1).1
    have e1 : w64 (ch - 1) = ch - 1 := w64_id (by omega)
    have e2 : w64 (S.In.C - 1) = S.In.C - 1 := w64_id (by omega)
    have base := terms_places_taps S ch at_ (by simpa using k1) (taps_good hS k1 hat.1 hat.2) (by omega) (by omega) (by omega)
    by_cases k2 : S.Op.Kind = 2
    · rw [if_pos k2, if_pos k2]
      exact base S.In.C.toNat (by omega) 0 (S.In.C - 1) (by omega) (by omega) (by omega) (by rw [e1, e2, k2]; rfl)
    · rw [if_neg k2, if_neg k2]
      have hk : (S.Op.Kind == 2) = false := by simpa using k2
      exact base 1 (by omega) (ch - 1) (ch - 1) (by omega) (by omega) (by omega) (by rw [e1, e2, hk]; rfl)
/-- what Of answers -/
def termsF (m : Model) (op ch at_ : Int) : List Term :=
  if findE m op = 0 then if ofBad (findS m op) ch at_ then [] else if (findS m op).Op.Kind = 4 then ofP (plOf (findS m op) ch at_) (plOf (findS m op) ch at_).length else ofQ (plOf (findS m op) ch at_) ((ofWs (findS m op) ch).map w64) (plOf (findS m op) ch at_).length else []
def biasF (m : Model) (op ch at_ : Int) : Int :=
  if findE m op = 0 then if ofBad (findS m op) ch at_ then 0 else if (findS m op).Op.Kind = 4 then 0 else w64 ((findS m op).Op.Bias.getD (w64 (ch - 1)).toNat default) else 0
def ofE (m : Model) (op ch at_ : Int) : Int := if findE m op = 0 then if ofBad (findS m op) ch at_ then 3 else 0 else findE m op
theorem ofE_op {m : Model} {op ch at_ : Int} (h : ofE m op ch at_ = 0) : findE m op = 0 ∧ ofBad (findS m op) ch at_ = false ∧ w64 (op - 1) = op - 1 ∧ 0 ≤ op - 1 ∧ op - 1 < m.Ops.length ∧ m.Ops.length ≤ 64 := by
  unfold ofE at h
  split at h
  · rename_i h0
    split at h
    · omega
    · rename_i hb
      obtain ⟨_, ⟨h1, h2⟩, _, he, _⟩ := site_ok h0
      have := (whole_ok he).1
      exact ⟨h0, by simpa using hb, w64_id (by omega), by omega, by omega, this⟩
  · contradiction
theorem ofE_bad {m : Model} {op ch at_ : Int} (h : ofE m op ch at_ ≠ 0) : termsF m op ch at_ = [] ∧ biasF m op ch at_ = 0 := by
  unfold ofE at h
  unfold termsF biasF
  split at h
  · rename_i h0
    split at h
    · rename_i hb; rw [if_pos h0, if_pos h0, if_pos hb, if_pos hb]; exact ⟨rfl, rfl⟩
    · omega
  · rename_i h0; rw [if_neg h0, if_neg h0]; exact ⟨rfl, rfl⟩
theorem termsF_len (m : Model) (op ch at_ : Int) : (termsF m op ch at_).length ≤ 512 := by
  unfold termsF
  split
  · rename_i h0
    obtain ⟨hS, _⟩ := site_ok h0
    have hl := plOf_len hS ch at_
    have := hS.len
    split
    · simp
    · split
      · rw [ofP_len _ _ (Nat.le_refl _)]; omega
      · rw [ofQ_len]; omega
  · simp
theorem of_weights {S : Site} {ch : Int} (hS : SiteOk S) (hk : S.Op.Kind ≠ 4) (hch : 1 ≤ ch ∧ ch ≤ S.Out.C) : w64 (ch - 1) = ch - 1 ∧ w64 ((ch - 1) * S.Len) = (ch - 1) * S.Len ∧ w64 (ch * S.Len) = ch * S.Len ∧ 0 ≤ (ch - 1) * S.Len ∧ ch * S.Len - (ch - 1) * S.Len = S.Len ∧ ch * S.Len ≤ S.Op.Weights.length ∧ ch - 1 < S.Op.Bias.length := by
  have O := shapeB_iff.1 hS.outB
  have hl := hS.len
  have a0 : 0 ≤ (ch - 1) * S.Len := Int.mul_nonneg (by omega) (by omega)
  have a1 : (ch - 1) * S.Len ≤ 1024 * 512 := Int.mul_le_mul (by omega) hl.2 (by omega) (by omega)
  have b0 : 0 ≤ ch * S.Len := Int.mul_nonneg (by omega) (by omega)
  have b1 : ch * S.Len ≤ 1024 * 512 := Int.mul_le_mul (by omega) hl.2 (by omega) (by omega)
  refine ⟨w64_id (by omega), w64_id (by omega), w64_id (by omega), a0, by rw [Int.sub_mul]; omega, ?_, ?_⟩
  · rw [hS.wl hk]; exact Int.mul_le_mul_of_nonneg_right hch.2 (by omega)
  · rw [hS.bl hk]; omega
theorem terms_Of (m : Model) (op ch at_ : Int) : Ok Try.prog 11 [.agg (modelC m), .int .i64 op, .int .i64 ch, .int .i64 at_] (.tup [.ro ((termsF m op ch at_).map termC), .int .i64 (biasF m op ch at_), .int .i64 (ofE m op ch at_)]) := by
  by_cases h0 : findE m op = 0
  · obtain ⟨hS, _⟩ := site_ok h0
    have hf : (findE m op != 0) = false := by simp [h0]
    cases hb : ofBad (findS m op) ch at_ with
    | true =>
      have := terms_Of_bad m op ch at_ (.inr ⟨hf, hb⟩)
      simpa [termsF, biasF, ofE, h0, hb] using this
    | false =>
      obtain ⟨hch, hat⟩ := (ofBad_iff hS).1 hb
      have hl := plOf_len hS ch at_
      have hl2 := hS.len
      by_cases k4 : (findS m op).Op.Kind = 4
      · have := terms_Of_pl m op ch at_ hf hb (by simp [k4]) (plOf (findS m op) ch at_) (terms_places hS hch hat) (by omega) (by omega)
        simpa [termsF, biasF, ofE, h0, hb, k4] using this
      · obtain ⟨w1, w2, w3, w4, w5, w6, w7⟩ := of_weights hS k4 hch
        have := terms_Of_w m op ch at_ hf hb (by simp [k4]) (plOf (findS m op) ch at_) (terms_places hS hch hat) (by omega) (by omega) (by rw [w1]; omega) (by rw [w1]; exact w7) (by rw [w1, w2]; exact w4) (by rw [w3, w1, w2]; exact w5) (by rw [w3]; exact w6)
        simpa [termsF, biasF, ofE, h0, hb, k4] using this
  · have := terms_Of_bad m op ch at_ (.inl (by simp [h0]))
    simpa [termsF, biasF, ofE, h0] using this
end Go.AM
end
section
open Go Go.AM Go.Proofs
set_option maxRecDepth 10000
set_option linter.unusedVariables false
set_option linter.unusedSimpArgs false
namespace Go.AM
theorem terms_OfR_pl (m : Model) (op ch at_ : Int) (hc26 : (findE m op != 0) = false) (hc51 : ofBad (findS m op) ch at_ = false) (hc74 : ((findS m op).Op.Kind != 4) = false) (pl : List Int)
    (hpl : Ok Try.prog 32 [.agg (siteC (findS m op)), .int .i64 ch, .int .i64 at_] (.ro (pl.map intC))) (hpn : (findS m op).Len = (pl.length : Int)) (hps : pl.length ≤ 1048576) :
    OkR Try.prog 11 [.agg (modelC m), .int .i64 op, .int .i64 ch, .int .i64 at_] 52 2 ((ofP pl pl.length).map termC) [.int .i64 0, .int .i64 0] := by
  refine fn_okR Tb_ok (fn := Try.f11) Try.func11 rfl rfl (e := [(0, _), (1, _), (2, _), (3, _)]) rfl (by decide) rfl ?_
  refine zs ?_
  refine zR ?_
  refine zbx [.int _ _, .int _ _, .int _ _, .int _ _, .int _ _, _, .int _ _] 7 ?_
  refine zLN ?_
  refine zLI ?_
  refine zLI ?_
  refine zn ?_
  refine zs ?_
  refine zR ?_
  refine zLG [.int _ _, .int _ _, .int _ _, .int _ _, .int _ _, _, .int _ _] ?_
  refine zLI ?_
  refine zLc (terms_find m op) ?_
  refine zLT [_, _] ?_
  refine zLG [.int _ _, .int _ _, .int _ _, .int _ _, .int _ _, .int _ _, .int _ _, .int _ _, .int _ _, .int _ _, .int _ _, .int _ _, _, _, .int _ _, .int _ _, .int _ _, .int _ _, .int _ _, .int _ _, .int _ _, .int _ _, .int _ _, .int _ _, .int _ _, .int _ _, .int _ _, .int _ _, .int _ _] ?_
  refine zLI ?_
  refine zal [.int .i64 0, .int .i64 0, .int .i64 0, .int .i64 0, .int .i64 0, .int .i64 0, .int .i64 0, .int .i64 0, .int .i64 0, .int .i64 0, .int .i64 0, .int .i64 0, .nils, .nils, .int .i64 0, .int .i64 0, .int .i64 0, .int .i64 0, .int .i64 0, .int .i64 0, .int .i64 0, .int .i64 0, .int .i64 0, .int .i64 0, .int .i64 0, .int .i64 0, .int .i64 0, .int .i64 0, .int .i64 0] 29 ?_
  refine zst (.agg [.int _ _, .int _ _, .int _ _, .int _ _, .int _ _, .int _ _, .int _ _, .int _ _, .int _ _, .int _ _, .int _ _, .int _ _, _, _, .int _ _, .int _ _, .int _ _, .int _ _, .int _ _, .int _ _, .int _ _, .int _ _, .int _ _, .int _ _, .int _ _, .int _ _, .int _ _, .int _ _, .int _ _]) [_, _, _, _, _, _, _, _, _, _, _, _, _, _, _, _, _, _, _, _, _, _, _, _, _, _, _, _, _] [[_, _, _, _, _, _, _, _, _, _, _, _, _, _, _, _, _, _, _, _, _, _, _, _, _, _, _, _, _]] ?_
  refine zLI ?_
  refine zn ?_
  refine zs ?_
  refine zs ?_
  refine zR ?_
  refine zLI ?_
  refine zLB ?_
  refine zn ?_
  refine W_cond_f (b := _) rfl (by exact hc26) ?_
  refine zk ?_
  refine zs ?_
  refine zs ?_
  refine zR ?_
  refine zLI ?_
  refine zLB ?_
  refine zLB ?_
  refine zgLI ?_
  refine zgLP ?_
  refine zgLP ?_
  refine zgLI ?_
  refine zgLB ?_
  refine zpLB ?_
  refine zLB ?_
  refine zgLI ?_
  refine zgLB ?_
  refine zpLB ?_
  refine zLB ?_
  refine zgLI ?_
  refine zgLP ?_
  refine zgLP ?_
  refine zgLI ?_
  refine zgLP ?_
  refine zgLP ?_
  refine zgLI ?_
  refine zgLI ?_
  refine zgLB ?_
  refine zpLB ?_
  refine zn ?_
  refine W_cond_f (b := _) rfl (by exact hc51) ?_
  refine zk ?_
  refine zs ?_
  refine zR ?_
  refine zLI ?_
  refine zn ?_
  refine zs ?_
  refine zR ?_
  refine zLP ?_
  refine zLI ?_
  refine L_make Tb_ok (el := 52) (sz := 2) (z := [.int .i64 0, .int .i64 0]) rfl rfl rfl rfl rfl rfl rfl rfl ⟨trivial, trivial⟩ (by (rw [hpn]; omega)) (by (rw [hpn, show (Tb.at 52).bytes = 16 from rfl]; omega)) rfl ?_
  refine zLW ?_
  refine zn ?_
  refine zs ?_
  refine zs ?_
  refine zR ?_
  refine zLG [.int _ _, .int _ _, .int _ _, .int _ _, .int _ _, .int _ _, .int _ _, .int _ _, .int _ _, .int _ _, .int _ _, .int _ _, _, _, .int _ _, .int _ _, .int _ _, .int _ _, .int _ _, .int _ _, .int _ _, .int _ _, .int _ _, .int _ _, .int _ _, .int _ _, .int _ _, .int _ _, .int _ _] ?_
  refine zLI ?_
  refine zLI ?_
  refine zLc (hpl) ?_
  refine zLI ?_
  refine zLI ?_
  refine zn ?_
  refine W_block ?_
  refine W_inv (ι := {k : Nat // k ≤ pl.length}) (fun k => ⟨[(2, .int .i64 ch), (11, .ptr 1 0 0), (13, .int .i64 0), (14, .row 2 0 (findS m op).Len.toNat), (58, .ro (pl.map intC)), (59, .int .i64 ((pl.map intC).length : Int)), (60, .int .i64 (k.1 : Int))], [(1, some ⟨81, 29, 0, [siteC (findS m op)]⟩), (2, some ⟨52, 2, 0, (ofP pl k.1).map termC⟩)], [], 3⟩) (fun k => pl.length - k.1) ⟨0, Nat.zero_le _⟩ (le_fit ⟨rfl, rfl, rfl, rfl, rfl, rfl, rfl, trivial⟩ ⟨.inr rfl, .inr ?_, trivial⟩ trivial rfl rfl rfl ?_ rfl) ?_
  · show some (Ob.mk _ _ _ (List.replicate (findS m op).Len.toNat _)) = _
    simp [ofP, hpn, termC]
  · simp [ltOB, termC, siteC, opC, shapeC, AV.lt]
  rintro ⟨k, hk⟩
  refine zs ?_
  refine zR ?_
  refine zLB ?_
  refine zn ?_
  refine zs ?_
  refine W_cond (b := _) rfl (fun h61 => ?_) (fun h61 => ?_)
  · have hlt : k < pl.length := by simpa using h61
    refine zk ?_
    refine zs ?_
    refine W_block ?_
    refine zs ?_
    refine zR ?_
    refine zLI ?_
    (refine L_v Tb_ok (v := _) (ave_index_ro rfl rfl rfl (fun _ => rfl) rfl (by first | omega | assumption | decide | (simp_all; done) | (simp_all; omega)) (by first | omega | assumption | decide | (simp_all; done) | (simp_all; omega)) trivial) rfl ?_)
    refine zLI ?_
    refine zLI ?_
    refine zLI ?_
    refine zn ?_
    refine zR ?_
    refine zLW ?_
    refine zLI ?_
    refine zLI ?_
    refine zLG [.int _ _, .int _ _] ?_
    (refine L_v Tb_ok (v := _) (ave_index_row rfl rfl rfl rfl rfl rfl (by first | omega | assumption | decide | (simp_all; done) | (simp_all; omega)) (by first | omega | assumption | decide | (simp_all; done) | (simp_all; omega)) trivial) rfl ?_)
    refine L_store_row Tb_ok (f := termC) (xs := ofP pl k) (v' := ⟨1, pl.getD k 0⟩) rfl rfl rfl rfl rfl rfl rfl rfl (by rw [ofP_len _ _ hk]; simp; omega) rfl ⟨trivial, trivial⟩ ?_
    refine zn ?_
    refine zR ?_
    refine zLI ?_
    refine zLI ?_
    refine zn ?_
    refine round_end ⟨k + 1, hlt⟩ (by dsimp only; omega) (le_fit ⟨rfl, rfl, rfl, rfl, rfl, rfl, congrArg _ (w_succ hlt (by omega)), trivial⟩ ⟨.inr rfl, .inr ?_, trivial⟩ trivial rfl rfl rfl ?_ rfl)
    · show some (Ob.mk 52 2 0 (((ofP pl k).set (0 + ((k : Nat) : Int).toNat) ⟨1, pl.getD k 0⟩).map termC)) = _
      rw [Nat.zero_add, Int.toNat_natCast, ofP_set pl k hlt]
    · simp [ltOB, termC, siteC, opC, shapeC, AV.lt]
  · refine W_exit ?_
    repeat (first | refine pass_then ?_ | refine pass_round ?_)
    refine blockQ_hit ?_
    refine zs ?_
    refine zs ?_
    refine zR ?_
    refine zLP ?_
    refine zLP ?_
    refine zLI ?_
    refine zLB ?_
    refine zn ?_
    refine W_cond_f (b := _) rfl (by exact hc74) ?_
    refine zk ?_
    refine zs ?_
    refine zR ?_
    refine zLW ?_
    refine zLI ?_
    refine zLW ?_
    refine zLI ?_
    refine zLI ?_
    refine zn ?_
    refine zt ?_
    have hke : k = pl.length := by simp at h61; omega
    subst hke
    refine endsR (x := _) (l := [_]) 2 (.inr rfl) ?_ rfl ⟨trivial, trivial, trivial, trivial⟩ rfl rfl rfl ?_
    · rw [List.length_map, ofP_len _ _ (Nat.le_refl _), hpn]; rfl
    · simp [termC, grC]
theorem terms_OfR_w (m : Model) (op ch at_ : Int) (hc26 : (findE m op != 0) = false) (hc51 : ofBad (findS m op) ch at_ = false) (hc74 : ((findS m op).Op.Kind != 4) = true) (pl : List Int)
    (hpl : Ok Try.prog 32 [.agg (siteC (findS m op)), .int .i64 ch, .int .i64 at_] (.ro (pl.map intC))) (hpn : (findS m op).Len = (pl.length : Int)) (hps : pl.length ≤ 1048576)
    (hb0 : 0 ≤ w64 (ch - 1)) (hb1 : w64 (ch - 1) < (findS m op).Op.Bias.length) (hw0 : 0 ≤ w64 (w64 (ch - 1) * (findS m op).Len)) (hw1 : w64 (ch * (findS m op).Len) - w64 (w64 (ch - 1) * (findS m op).Len) = (findS m op).Len) (hw2 : w64 (ch * (findS m op).Len) ≤ (findS m op).Op.Weights.length) :
    OkR Try.prog 11 [.agg (modelC m), .int .i64 op, .int .i64 ch, .int .i64 at_] 52 2 ((ofQ pl ((ofWs (findS m op) ch).map w64) pl.length).map termC) [.int .i64 (w64 ((findS m op).Op.Bias.getD (w64 (ch - 1)).toNat default)), .int .i64 0] := by
  have hwl : (ofWs (findS m op) ch).length = pl.length := by simp [ofWs]; omega
  refine fn_okR Tb_ok (fn := Try.f11) Try.func11 rfl rfl (e := [(0, _), (1, _), (2, _), (3, _)]) rfl (by decide) rfl ?_
  refine zs ?_
  refine zR ?_
  refine zbx [.int _ _, .int _ _, .int _ _, .int _ _, .int _ _, _, .int _ _] 7 ?_
  refine zLN ?_
  refine zLI ?_
  refine zLI ?_
  refine zn ?_
  refine zs ?_
  refine zR ?_
  refine zLG [.int _ _, .int _ _, .int _ _, .int _ _, .int _ _, _, .int _ _] ?_
  refine zLI ?_
  refine zLc (terms_find m op) ?_
  refine zLT [_, _] ?_
  refine zLG [.int _ _, .int _ _, .int _ _, .int _ _, .int _ _, .int _ _, .int _ _, .int _ _, .int _ _, .int _ _, .int _ _, .int _ _, _, _, .int _ _, .int _ _, .int _ _, .int _ _, .int _ _, .int _ _, .int _ _, .int _ _, .int _ _, .int _ _, .int _ _, .int _ _, .int _ _, .int _ _, .int _ _] ?_
  refine zLI ?_
  refine zal [.int .i64 0, .int .i64 0, .int .i64 0, .int .i64 0, .int .i64 0, .int .i64 0, .int .i64 0, .int .i64 0, .int .i64 0, .int .i64 0, .int .i64 0, .int .i64 0, .nils, .nils, .int .i64 0, .int .i64 0, .int .i64 0, .int .i64 0, .int .i64 0, .int .i64 0, .int .i64 0, .int .i64 0, .int .i64 0, .int .i64 0, .int .i64 0, .int .i64 0, .int .i64 0, .int .i64 0, .int .i64 0] 29 ?_
  refine zst (.agg [.int _ _, .int _ _, .int _ _, .int _ _, .int _ _, .int _ _, .int _ _, .int _ _, .int _ _, .int _ _, .int _ _, .int _ _, _, _, .int _ _, .int _ _, .int _ _, .int _ _, .int _ _, .int _ _, .int _ _, .int _ _, .int _ _, .int _ _, .int _ _, .int _ _, .int _ _, .int _ _, .int _ _]) [_, _, _, _, _, _, _, _, _, _, _, _, _, _, _, _, _, _, _, _, _, _, _, _, _, _, _, _, _] [[_, _, _, _, _, _, _, _, _, _, _, _, _, _, _, _, _, _, _, _, _, _, _, _, _, _, _, _, _]] ?_
  refine zLI ?_
  refine zn ?_
  refine zs ?_
  refine zs ?_
  refine zR ?_
  refine zLI ?_
  refine zLB ?_
  refine zn ?_
  refine W_cond_f (b := _) rfl (by exact hc26) ?_
  refine zk ?_
  refine zs ?_
  refine zs ?_
  refine zR ?_
  refine zLI ?_
  refine zLB ?_
  refine zLB ?_
  refine zgLI ?_
  refine zgLP ?_
  refine zgLP ?_
  refine zgLI ?_
  refine zgLB ?_
  refine zpLB ?_
  refine zLB ?_
  refine zgLI ?_
  refine zgLB ?_
  refine zpLB ?_
  refine zLB ?_
  refine zgLI ?_
  refine zgLP ?_
  refine zgLP ?_
  refine zgLI ?_
  refine zgLP ?_
  refine zgLP ?_
  refine zgLI ?_
  refine zgLI ?_
  refine zgLB ?_
  refine zpLB ?_
  refine zn ?_
  refine W_cond_f (b := _) rfl (by exact hc51) ?_
  refine zk ?_
  refine zs ?_
  refine zR ?_
  refine zLI ?_
  refine zn ?_
  refine zs ?_
  refine zR ?_
  refine zLP ?_
  refine zLI ?_
  refine L_make Tb_ok (el := 52) (sz := 2) (z := [.int .i64 0, .int .i64 0]) rfl rfl rfl rfl rfl rfl rfl rfl ⟨trivial, trivial⟩ (by (rw [hpn]; omega)) (by (rw [hpn, show (Tb.at 52).bytes = 16 from rfl]; omega)) rfl ?_
  refine zLW ?_
  refine zn ?_
  refine zs ?_
  refine zs ?_
  refine zR ?_
  refine zLG [.int _ _, .int _ _, .int _ _, .int _ _, .int _ _, .int _ _, .int _ _, .int _ _, .int _ _, .int _ _, .int _ _, .int _ _, _, _, .int _ _, .int _ _, .int _ _, .int _ _, .int _ _, .int _ _, .int _ _, .int _ _, .int _ _, .int _ _, .int _ _, .int _ _, .int _ _, .int _ _, .int _ _] ?_
  refine zLI ?_
  refine zLI ?_
  refine zLc (hpl) ?_
  refine zLI ?_
  refine zLI ?_
  refine zn ?_
  refine W_block ?_
  refine W_inv (ι := {k : Nat // k ≤ pl.length}) (fun k => ⟨[(2, .int .i64 ch), (11, .ptr 1 0 0), (13, .int .i64 0), (14, .row 2 0 (findS m op).Len.toNat), (58, .ro (pl.map intC)), (59, .int .i64 ((pl.map intC).length : Int)), (60, .int .i64 (k.1 : Int))], [(1, some ⟨81, 29, 0, [siteC (findS m op)]⟩), (2, some ⟨52, 2, 0, (ofP pl k.1).map termC⟩)], [], 3⟩) (fun k => pl.length - k.1) ⟨0, Nat.zero_le _⟩ (le_fit ⟨rfl, rfl, rfl, rfl, rfl, rfl, rfl, trivial⟩ ⟨.inr rfl, .inr ?_, trivial⟩ trivial rfl rfl rfl ?_ rfl) ?_
  · show some (Ob.mk _ _ _ (List.replicate (findS m op).Len.toNat _)) = _
    simp [ofP, hpn, termC]
  · simp [ltOB, termC, siteC, opC, shapeC, AV.lt]
  rintro ⟨k, hk⟩
  refine zs ?_
  refine zR ?_
  refine zLB ?_
  refine zn ?_
  refine zs ?_
  refine W_cond (b := _) rfl (fun h61 => ?_) (fun h61 => ?_)
  · have hlt : k < pl.length := by simpa using h61
    refine zk ?_
    refine zs ?_
    refine W_block ?_
    refine zs ?_
    refine zR ?_
    refine zLI ?_
    (refine L_v Tb_ok (v := _) (ave_index_ro rfl rfl rfl (fun _ => rfl) rfl (by first | omega | assumption | decide | (simp_all; done) | (simp_all; omega)) (by first | omega | assumption | decide | (simp_all; done) | (simp_all; omega)) trivial) rfl ?_)
    refine zLI ?_
    refine zLI ?_
    refine zLI ?_
    refine zn ?_
    refine zR ?_
    refine zLW ?_
    refine zLI ?_
    refine zLI ?_
    refine zLG [.int _ _, .int _ _] ?_
    (refine L_v Tb_ok (v := _) (ave_index_row rfl rfl rfl rfl rfl rfl (by first | omega | assumption | decide | (simp_all; done) | (simp_all; omega)) (by first | omega | assumption | decide | (simp_all; done) | (simp_all; omega)) trivial) rfl ?_)
    refine L_store_row Tb_ok (f := termC) (xs := ofP pl k) (v' := ⟨1, pl.getD k 0⟩) rfl rfl rfl rfl rfl rfl rfl rfl (by rw [ofP_len _ _ hk]; simp; omega) rfl ⟨trivial, trivial⟩ ?_
    refine zn ?_
    refine zR ?_
    refine zLI ?_
    refine zLI ?_
    refine zn ?_
    refine round_end ⟨k + 1, hlt⟩ (by dsimp only; omega) (le_fit ⟨rfl, rfl, rfl, rfl, rfl, rfl, congrArg _ (w_succ hlt (by omega)), trivial⟩ ⟨.inr rfl, .inr ?_, trivial⟩ trivial rfl rfl rfl ?_ rfl)
    · show some (Ob.mk 52 2 0 (((ofP pl k).set (0 + ((k : Nat) : Int).toNat) ⟨1, pl.getD k 0⟩).map termC)) = _
      rw [Nat.zero_add, Int.toNat_natCast, ofP_set pl k hlt]
    · simp [ltOB, termC, siteC, opC, shapeC, AV.lt]
  · have hke : k = pl.length := by simp at h61; omega
    subst hke
    refine W_exit ?_
    repeat (first | refine pass_then ?_ | refine pass_round ?_)
    refine blockQ_hit ?_
    refine zs ?_
    refine zs ?_
    refine zR ?_
    refine zLP ?_
    refine zLP ?_
    refine zLI ?_
    refine zLB ?_
    refine zn ?_
    refine W_cond_t (b := _) rfl (by exact hc74) ?_
    refine zs ?_
    refine zR ?_
    refine zLP ?_
    refine zLP ?_
    refine zLO ?_
    refine zLI ?_
    refine zLI ?_
    (refine L_v Tb_ok (v := _) (ave_index_ro rfl rfl rfl (fun _ => rfl) rfl (by first | exact hb0 | exact hb1) (by first | exact hb0 | exact hb1) trivial) rfl ?_)
    refine zLI ?_
    refine zLI ?_
    refine zLI ?_
    refine zn ?_
    refine zs ?_
    refine zR ?_
    refine zLP ?_
    refine zLP ?_
    refine zLO ?_
    refine zLI ?_
    refine zLI ?_
    refine zLP ?_
    refine zLI ?_
    refine zLI ?_
    refine zLI ?_
    refine zLP ?_
    refine zLI ?_
    refine zLI ?_
    refine L_slice Tb_ok (el := 57) (sz := 1) rfl rfl rfl rfl rfl rfl (fun c hc => by obtain ⟨x, _, rfl⟩ := List.mem_map.1 hc; rfl) (by exact hw0) (by (show w64 (w64 (ch - 1) * (findS m op).Len) ≤ w64 (ch * (findS m op).Len); omega)) (by (show w64 (ch * (findS m op).Len) ≤ ((((findS m op).Op.Weights.map i16C).length : Nat) : Int); rw [List.length_map]; exact hw2)) ⟨trivial, trivial, trivial⟩ rfl ?_
    refine zLI ?_
    refine zLI ?_
    refine zn ?_
    refine W_block ?_
    refine W_inv (ι := {k : Nat // k ≤ pl.length}) (fun k => ⟨[(13, .int .i64 (w64 ((findS m op).Op.Bias.getD (w64 (ch - 1)).toNat default))), (14, .row 2 0 (findS m op).Len.toNat), (95, .ro ((ofWs (findS m op) ch).map i16C)), (96, .int .i64 (pl.length : Int)), (97, .int .i64 (k.1 : Int))], [(2, some ⟨52, 2, 0, (ofQ pl ((ofWs (findS m op) ch).map w64) k.1).map termC⟩)], [], 3⟩) (fun k => pl.length - k.1) ⟨0, Nat.zero_le _⟩ (le_fit ⟨rfl, rfl, congrArg AV.ro ?_, congrArg (AV.int .i64) ?_, rfl, trivial⟩ ⟨.inr ?_, trivial⟩ trivial rfl rfl rfl ?_ rfl) ?_
    · simp only [ofWs, List.map_take, List.map_drop]; rfl
    · rw [← hwl]; simp only [ofWs, List.length_take, List.length_drop, List.length_map]; rfl
    · rw [ofQ_zero]; rfl
    · simp [ltOB, termC, AV.lt]
    rintro ⟨j, hj⟩
    refine zs ?_
    refine zR ?_
    refine zLB ?_
    refine zn ?_
    refine zs ?_
    refine W_cond (b := _) rfl (fun h98 => ?_) (fun h98 => ?_)
    · have hlj : j < pl.length := by simpa using h98
      refine zk ?_
      refine zs ?_
      refine W_block ?_
      refine zs ?_
      refine zR ?_
      refine zLI ?_
      (refine L_v Tb_ok (v := _) (ave_index_ro rfl rfl rfl (fun _ => rfl) rfl (by first | omega | assumption | decide | (simp_all; done) | (simp_all; omega)) (by first | omega | assumption | decide | (simp_all; done) | (simp_all; omega)) trivial) rfl ?_)
      refine zLI ?_
      refine zLI ?_
      refine zLI ?_
      refine zn ?_
      refine zR ?_
      refine zLW ?_
      refine zLI ?_
      refine zLI ?_
      refine zLI ?_
      (refine L_v Tb_ok (v := _) (ave_index_row rfl rfl rfl rfl rfl rfl (by first | omega | assumption | decide | (simp_all; done) | (simp_all; omega)) (by first | omega | assumption | decide | (simp_all; done) | (simp_all; omega)) trivial) rfl ?_)
      refine zLP ?_
      refine L_store_row Tb_ok (f := termC) (xs := ofQ pl ((ofWs (findS m op) ch).map w64) j) (v := .int _ _) (cs := [_]) (v' := ⟨((ofWs (findS m op) ch).map w64).getD j 0, ((ofQ pl ((ofWs (findS m op) ch).map w64) j).getD j default).At⟩) rfl rfl rfl rfl rfl rfl ?_ rfl ?_ rfl ⟨trivial, trivial⟩ ?_
      · have hlw : j < (ofWs (findS m op) ch).length := by omega
        simp [termC, w64, List.getD_eq_getElem?_getD, hlw]
      · rw [ofQ_len]; simp; omega
      refine zn ?_
      refine zR ?_
      refine zLI ?_
      refine zLI ?_
      refine zn ?_
      refine round_end ⟨j + 1, hlj⟩ (by dsimp only; omega) (le_fit ⟨rfl, rfl, rfl, rfl, congrArg _ (w_succ hlj (by omega)), trivial⟩ ⟨.inr ?_, trivial⟩ trivial rfl rfl rfl ?_ rfl)
      · show some (Ob.mk 52 2 0 (((ofQ pl ((ofWs (findS m op) ch).map w64) j).set (0 + ((j : Nat) : Int).toNat) ⟨((ofWs (findS m op) ch).map w64).getD j 0, ((ofQ pl ((ofWs (findS m op) ch).map w64) j).getD j default).At⟩).map termC)) = _
        rw [Nat.zero_add, Int.toNat_natCast, ofQ_set pl _ j hlj]
      · simp [ltOB, termC, AV.lt]
    · refine W_exit ?_
      repeat (first | refine pass_then ?_ | refine pass_round ?_)
      refine blockQ_hit ?_
      refine zs ?_
      refine zR ?_
      refine zLW ?_
      refine zLI ?_
      refine zLW ?_
      refine zLI ?_
      refine zLI ?_
      refine zn ?_
      refine zt ?_
      have hke : j = pl.length := by simp at h98; omega
      subst hke
      refine endsR (x := _) (l := [_]) 2 (.inr rfl) ?_ rfl ⟨trivial, trivial, trivial, trivial⟩ rfl rfl rfl ?_
      · rw [List.length_map, ofQ_len, hpn]; rfl
      · simp [termC, grC]
theorem terms_OfR (m : Model) (op ch at_ : Int) (z : ofE m op ch at_ = 0) : OkR Try.prog 11 [.agg (modelC m), .int .i64 op, .int .i64 ch, .int .i64 at_] 52 2 ((termsF m op ch at_).map termC) [.int .i64 (biasF m op ch at_), .int .i64 0] := by
  obtain ⟨h0, hb, _⟩ := ofE_op z
  obtain ⟨hS, _⟩ := site_ok h0
  have hf : (findE m op != 0) = false := by simp [h0]
  obtain ⟨hch, hat⟩ := (ofBad_iff hS).1 hb
  have hl := plOf_len hS ch at_
  have hl2 := hS.len
  by_cases k4 : (findS m op).Op.Kind = 4
  · have := terms_OfR_pl m op ch at_ hf hb (by simp [k4]) (plOf (findS m op) ch at_) (terms_places hS hch hat) (by omega) (by omega)
    simpa [termsF, biasF, ofE, h0, hb, k4] using this
  · obtain ⟨w1, w2, w3, w4, w5, w6, w7⟩ := of_weights hS k4 hch
    have := terms_OfR_w m op ch at_ hf hb (by simp [k4]) (plOf (findS m op) ch at_) (terms_places hS hch hat) (by omega) (by omega) (by rw [w1]; omega) (by rw [w1]; exact w7) (by rw [w1, w2]; exact w4) (by rw [w3, w1, w2]; exact w5) (by rw [w3]; exact w6)
    simpa [termsF, biasF, ofE, h0, hb, k4] using this
end Go.AM
end
section
open Go Go.AM Go.Proofs
set_option maxRecDepth 10000
set_option linter.unusedVariables false
set_option linter.unusedSimpArgs false
namespace Go.AM
theorem law10_fixed : Ok Try.prog 14 [] (.bool true) := by
  have h1 := terms_Of mPlain 1 1 0
  have h2 := terms_Of mPlain 1 2 0
  have h3 := terms_Length mPlain 1
  have h4 := law10_same [⟨3, 0⟩, ⟨-2, 1⟩] [⟨3, 0⟩, ⟨-2, 1⟩] (by decide)
  rw [show termsF mPlain 1 1 0 = [⟨3, 0⟩, ⟨-2, 1⟩] by decide +kernel, show biasF mPlain 1 1 0 = 1 by decide +kernel, show ofE mPlain 1 1 0 = 0 by decide +kernel] at h1
  rw [show termsF mPlain 1 2 0 = [] by decide +kernel, show biasF mPlain 1 2 0 = 0 by decide +kernel, show ofE mPlain 1 2 0 = 3 by decide +kernel] at h2
  rw [show (findS mPlain 1).Len = 2 by decide +kernel, show findE mPlain 1 = 0 by decide +kernel] at h3
  rw [show decide (([⟨3, 0⟩, ⟨-2, 1⟩] : List Term) = [⟨3, 0⟩, ⟨-2, 1⟩]) = true by decide +kernel] at h4
  refine fn_ok Tb_ok (fn := Try.f14) Try.func14 rfl rfl (e := []) rfl (by decide) rfl ?_
  refine zs ?_
  refine zR ?_
  refine zLB ?_
  refine zn ?_
  refine zs ?_
  refine zR ?_
  refine zLc (law10_plain) ?_
  refine zLc (h1) ?_
  refine zLT [_, _, _] ?_
  refine zLO ?_
  refine zLI ?_
  refine zLI ?_
  refine zLO ?_
  refine zLI ?_
  refine zLI ?_
  refine zn ?_
  refine zs ?_
  refine zR ?_
  refine zLc (law10_plain) ?_
  refine zLc (h3) ?_
  refine zLT [_, _] ?_
  refine zLI ?_
  refine zLI ?_
  refine zLI ?_
  refine zLI ?_
  refine zn ?_
  refine zs ?_
  refine zR ?_
  refine zLc (law10_plain) ?_
  refine zLc (h2) ?_
  refine zLT [_, _, _] ?_
  refine zLO ?_
  refine zLI ?_
  refine zLI ?_
  refine zLO ?_
  refine zLI ?_
  refine zLI ?_
  refine zn ?_
  refine zs ?_
  refine zR ?_
  refine zLO ?_
  refine zLG [.int _ _, .int _ _] ?_
  refine zLG [.int _ _, .int _ _] ?_
  refine L_build Tb_ok (t := 29) (len := 2) (el := 52) (sz := 2) (es := [[_, _], [_, _]]) (z := [.int .i64 0, .int .i64 0]) rfl rfl rfl rfl rfl (by decide) trivial rfl rfl rfl rfl rfl ?_
  refine L_freeze (t := 29) (l := _) rfl rfl rfl rfl rfl rfl rfl ?_
  refine zLc (h4) ?_
  refine zLB ?_
  refine zgLI ?_
  refine zgLB ?_
  refine zpLB ?_
  refine zLB ?_
  refine zgLI ?_
  refine zgLB ?_
  refine zpLB ?_
  refine zLB ?_
  refine zgLI ?_
  refine zgLB ?_
  refine zpLB ?_
  refine zLB ?_
  refine zgLI ?_
  refine zgLB ?_
  refine zpLB ?_
  refine zLB ?_
  refine zgLI ?_
  refine zgLB ?_
  refine zpLB ?_
  refine zLB ?_
  refine zn ?_
  refine zt ?_
  refine ends (l := [.bool _]) (q := .bool _) (.inr rfl) rfl ⟨trivial, trivial⟩ rfl rfl ?_
  rfl
end Go.AM
end
section
open Go Go.AM Go.Proofs
set_option maxRecDepth 10000
set_option linter.unusedVariables false
set_option linter.unusedSimpArgs false
namespace Go.AM
/-- the list, i terms written anew -/
def ofW9 (T : List Term) (i : Nat) : List Term := List.replicate i ⟨9, 9⟩ ++ T.drop i
theorem ofW9_len {T : List Term} {i : Nat} (h : i ≤ T.length) : (ofW9 T i).length = T.length := by simp [ofW9]; omega
theorem ofW9_zero (T : List Term) : ofW9 T 0 = T := by simp [ofW9]
theorem ofW9_set {T : List Term} {i : Nat} (h : i < T.length) : (ofW9 T i).set i ⟨9, 9⟩ = ofW9 T (i + 1) := by
  unfold ofW9
  rw [List.set_append, if_neg (by simp), List.length_replicate, Nat.sub_self, List.drop_eq_getElem_cons h, List.set_cons_zero, List.replicate_succ', List.append_assoc]; rfl
theorem ofW9_all (T : List Term) : ofW9 T T.length = List.replicate T.length ⟨9, 9⟩ := by simp [ofW9]
def ofW8 (n j : Nat) : List Term := List.replicate n ⟨9, 9⟩ ++ List.replicate j ⟨8, 0⟩
theorem ofW8_succ (n j : Nat) : ofW8 n j ++ [⟨8, 0⟩] = ofW8 n (j + 1) := by unfold ofW8; rw [List.append_assoc, List.replicate_succ']
theorem ofW8_len (n j : Nat) : (ofW8 n j).length = n + j := by simp [ofW8]
theorem ofW8_get {n j : Nat} (h : 0 < j) : (ofW8 n j).getD n default = ⟨8, 0⟩ := by simp [ofW8, List.getD_eq_getElem?_getD, h]
theorem termsMemory_ok (a : Ask10) (T : List Term) (bi : Int) (hT : T.length ≤ 512) (hR : OkR Try.prog 11 [.agg (modelC a.M), .int .i64 a.Op, .int .i64 a.Ch, .int .i64 a.At] 52 2 (T.map termC) [.int .i64 bi, .int .i64 0])
    (hO : Ok Try.prog 11 [.agg (modelC a.M), .int .i64 a.Op, .int .i64 a.Ch, .int .i64 a.At] (.tup [.ro (T.map termC), .int .i64 bi, .int .i64 0])) : Ok Try.prog 4 [.agg (ask10C a)] (.bool true) := by
  have hs : Ok Try.prog 15 [.ro (T.map termC), .ro (T.map termC)] (.bool true) := by have := law10_same T T (by omega); rwa [decide_eq_true rfl] at this
  have hdem : (T.map termC).map (·.map demC) = T.map termC := by rw [List.map_map]; exact List.map_congr_left (fun t _ => rfl)
  have hbl : Nat.ble (T.map termC).length (T.map termC).length = true := Nat.ble_eq_true_of_le (Nat.le_refl _)
  --@@1
  skip
  refine fn_ok Tb_ok (fn := Try.f4) Try.func4 rfl rfl (e := [(0, _)]) rfl (by decide) rfl ?_
  refine zs ?_
  refine zR ?_
  refine zbx [.int _ _, .int _ _, .int _ _, .int _ _, .int _ _, _, .int _ _, .int _ _, .int _ _, .int _ _] 10 ?_
  refine zLB ?_
  refine zn ?_
  refine zs ?_
  refine zs ?_
  refine zR ?_
  refine zLc (law10_fixed) ?_
  refine zLB ?_
  refine zn ?_
  refine W_cond_f (b := _) rfl (by rfl) ?_
  refine zk ?_
  refine zs ?_
  refine zR ?_
  refine zLP ?_
  refine zLG [.int _ _, .int _ _, .int _ _, .int _ _, .int _ _, _, .int _ _] ?_
  refine zLP ?_
  refine zLI ?_
  refine zLP ?_
  refine zLI ?_
  refine zLP ?_
  refine zLI ?_
  refine L_callr (hr := hR) rfl rfl trivial rfl rfl ?_
  refine zLT [_, _, _] ?_
  refine zLW ?_
  refine zLI ?_
  refine zLI ?_
  refine zLW ?_
  refine zLI ?_
  refine zLI ?_
  refine zn ?_
  refine zs ?_
  refine zR ?_
  refine zLP ?_
  refine zLG [.int _ _, .int _ _, .int _ _, .int _ _, .int _ _, _, .int _ _] ?_
  refine zLP ?_
  refine zLI ?_
  refine zLP ?_
  refine zLI ?_
  refine zLP ?_
  refine zLI ?_
  refine zLc (hO) ?_
  refine zLT [_, _, _] ?_
  refine zLO ?_
  refine zLI ?_
  refine zLI ?_
  refine zLO ?_
  refine zLI ?_
  refine zLI ?_
  refine zn ?_
  refine zs ?_
  refine zs ?_
  refine zR ?_
  refine zLI ?_
  refine zLB ?_
  refine zn ?_
  refine W_cond_f (b := _) rfl (by rfl) ?_
  refine zk ?_
  refine zs ?_
  refine zR ?_
  refine L_build Tb_ok (t := 29) (len := 0) (el := 52) (sz := 2) (es := []) (z := [.int .i64 0, .int .i64 0]) rfl rfl rfl rfl rfl (by decide) trivial rfl rfl rfl rfl rfl ?_
  refine zLW ?_
  refine L_tok (t := 53) (id := 2) (ty := 52) (sz := 2) (fz := 0) (es := []) (l := []) rfl rfl rfl rfl rfl rfl rfl ?_
  refine L_app Tb_ok (tok := 3) (l := []) (m := T.map termC) (el := 52) (sz := 2) (n := 0) rfl rfl rfl rfl (by show (bif Nat.ble (0 + (T.map termC).length) (T.map termC).length then some ((((T.map termC).drop 0).take (T.map termC).length).map (·.map demC)) else none) = _; rw [Nat.zero_add, hbl, List.drop_zero, List.take_length, hdem]; rfl) rfl ⟨trivial, trivial⟩ (by intro c hc; cases hc) (allSz.map (f := termC) (fun _ => rfl) T) (by simp [termC, grC]) (by rw [List.length_map, show (Tb.at 52).bytes = 16 from rfl]; simp; omega) rfl ?_
  refine zLA ?_
  refine zn ?_
  refine zs ?_
  refine zs ?_
  refine zR ?_
  refine zLO ?_
  refine zLA ?_
  refine zLc (hs) ?_
  refine zLB ?_
  refine zn ?_
  refine W_cond_f (b := _) rfl (by rfl) ?_
  refine zk ?_
  refine zs ?_
  refine zs ?_
  refine zR ?_
  refine zLW ?_
  refine zLI ?_
  refine zLI ?_
  refine zn ?_
  refine W_block ?_
  refine W_for T.length (fun i => ⟨[(1, .ptr 0 0 0), (3, .row 1 0 (T.map termC).length), (6, .ro (T.map termC)), (9, .app 3 (T.map termC)), (61, .int .i64 ((T.map termC).length : Int)), (62, .int .i64 (i : Int))], [(0, some ⟨28, 10, 0, [ask10C a]⟩), (1, some ⟨52, 2, 0, (ofW9 T i).map termC⟩)], [(3, some (52, 2, (T.map termC).length))], 4⟩) (le_fit ⟨rfl, rfl, rfl, rfl, rfl, rfl, trivial⟩ ⟨.inr rfl, .inr (by rw [ofW9_zero]; rfl), trivial⟩ ⟨.inr rfl, trivial⟩ rfl rfl rfl (by simp [ltOB, termC, AV.lt, ask10C, modelC, shapeC]) rfl) ?_
  intro i hi
  refine zs ?_
  refine zR ?_
  refine zLB ?_
  refine zn ?_
  refine zs ?_
  refine W_cond (b := _) rfl (fun h63 => ?_) (fun h63 => ?_)
  · have hlt : i < T.length := by have := of_decide_eq_true h63; rw [List.length_map] at this; omega
    refine zk ?_
    refine zs ?_
    refine W_block ?_
    refine zs ?_
    refine zR ?_
    refine zLI ?_
    refine zLI ?_
    refine zn ?_
    refine zR ?_
    refine zLW ?_
    refine zLI ?_
    refine zLG [.int _ _, .int _ _] ?_
    (refine L_v Tb_ok (v := _) (ave_index_row rfl rfl rfl rfl rfl rfl (by first | omega | (rw [List.length_map]; omega)) (by first | omega | (rw [List.length_map]; omega)) trivial) rfl ?_)
    refine L_store_row Tb_ok (f := termC) (xs := ofW9 T i) (v' := ⟨9, 9⟩) rfl rfl rfl rfl rfl rfl rfl rfl (by rw [ofW9_len hi]; simp; omega) rfl ⟨trivial, trivial⟩ ?_
    refine zn ?_
    refine zR ?_
    refine zLI ?_
    refine zLI ?_
    refine zn ?_
    refine for_end hlt (le_fit ⟨rfl, rfl, rfl, rfl, rfl, congrArg _ (w_succ hlt (by omega)), trivial⟩ ⟨.inr rfl, .inr ?_, trivial⟩ ⟨.inr rfl, trivial⟩ rfl rfl rfl (by simp [ltOB, termC, AV.lt, ask10C, modelC, shapeC]) rfl)
    show some (Ob.mk 52 2 0 (((ofW9 T i).set (0 + ((i : Nat) : Int).toNat) ⟨9, 9⟩).map termC)) = _
    rw [Nat.zero_add, Int.toNat_natCast, ofW9_set hlt]
  · have hie : i = T.length := by have := of_decide_eq_false h63; rw [List.length_map] at this; omega
    refine W_exit ?_
    repeat (first | refine pass_then ?_ | refine pass_for ?_)
    refine blockQ_hit ?_
    refine zs ?_
    refine zs ?_
    refine zR ?_
    refine zLI ?_
    refine zn ?_
    refine W_block ?_
    refine W_tok (t := 3) (id := 1) (ty := 52) (sz := 2) (fz := 0) (es := (ofW9 T i).map termC) (l := (ofW8 T.length 0).map termC) rfl rfl (by rw [List.length_map, List.length_map, ofW9_len hi]) rfl rfl ?_ ?_ ?_
    · rw [hie, ofW9_all]; simp [ofW8, termC, demC]
    · simp [ofW8, termC, grC]
    refine W_for 40 (fun j => ⟨[(1, .ptr 0 0 0), (3, .app 4 ((ofW8 T.length j).map termC)), (6, .ro (T.map termC)), (9, .app 3 (T.map termC)), (11, .int .i64 (j : Int))], [(0, some ⟨28, 10, 0, [ask10C a]⟩)], [(3, some (52, 2, (T.map termC).length)), (4, some (52, 2, (ofW8 T.length j).length))], 5⟩) (le_fit ⟨rfl, rfl, rfl, rfl, rfl, trivial⟩ ⟨.inr rfl, trivial⟩ ⟨.inr rfl, .inr (by rw [ofW8_len, List.length_map]; rfl), trivial⟩ rfl rfl rfl rfl rfl) ?_
    intro j hj
    refine zs ?_
    refine zs ?_
    refine zR ?_
    refine zLI ?_
    refine zLB ?_
    refine zn ?_
    refine W_cond (b := _) rfl (fun h71 => ?_) (fun h71 => ?_)
    · have hjt : j < 40 := by have := of_decide_eq_true h71; omega
      refine zk ?_
      refine zs ?_
      refine W_block ?_
      refine zR ?_
      refine zLA ?_
      refine zLG [.int _ _, .int _ _] ?_
      refine L_build Tb_ok (t := 29) (len := 1) (el := 52) (sz := 2) (es := [[_, _]]) (z := [.int .i64 0, .int .i64 0]) rfl rfl rfl rfl rfl (by decide) trivial rfl rfl rfl rfl rfl ?_
      refine L_app1 Tb_ok (f := termC) (v := ⟨8, 0⟩) (tok := 4) (el := 52) (sz := 2) rfl rfl rfl rfl rfl ⟨trivial, trivial⟩ (fun _ => ⟨rfl, rfl⟩) (by rw [ofW8_len, show (Tb.at 52).bytes = 16 from rfl]; omega) rfl ?_
      refine zLA ?_
      refine zn ?_
      refine zR ?_
      refine zLI ?_
      refine zLI ?_
      refine zLI ?_
      refine zn ?_
      refine for_end hjt (le_fit ⟨rfl, congrArg (fun z => AV.app 4 (List.map termC z)) (ofW8_succ _ j), rfl, rfl, congrArg _ (w_succ hjt (by omega)), trivial⟩ ⟨.inr rfl, trivial⟩ ⟨.inr rfl, .inr (congrArg (fun z => some (52, 2, List.length z)) (ofW8_succ _ j)), trivial⟩ rfl rfl rfl rfl rfl)
    · have hje : j = 40 := by have := of_decide_eq_false h71; omega
      refine W_exit ?_
      repeat (first | refine pass_then ?_ | refine pass_for ?_)
      refine blockQ_hit ?_
      refine zs ?_
      refine zR ?_
      refine zLP ?_
      refine zLG [.int _ _, .int _ _, .int _ _, .int _ _, .int _ _, _, .int _ _] ?_
      refine zLP ?_
      refine zLI ?_
      refine zLP ?_
      refine zLI ?_
      refine zLP ?_
      refine zLI ?_
      refine zLc (hO) ?_
      refine zLT [_, _, _] ?_
      refine zLO ?_
      refine zLI ?_
      refine zLI ?_
      refine zLO ?_
      refine zLI ?_
      refine zLI ?_
      refine zn ?_
      refine zs ?_
      refine zR ?_
      refine zLO ?_
      refine zLA ?_
      refine zLc (hs) ?_
      refine zLB ?_
      refine zgLO ?_
      refine zgLA ?_
      refine L_callg (hr := fun hg => hs) rfl rfl rfl rfl rfl (fun hg => ⟨⟨(by exact hg), True.intro⟩, ⟨⟨(by exact hg), True.intro⟩, True.intro⟩⟩) rfl rfl ?_
      refine zpLB ?_
      refine zLB ?_
      refine zgLA ?_
      refine zgLA ?_
      refine zgLI ?_
      (refine L_g Tb_ok (v := _) rfl rfl ((fun hg => (ave_index_app rfl rfl rfl (fun _ => rfl) rfl (by first | omega | (simp only [List.length_map, ofW8_len]; omega)) (by first | omega | (simp only [List.length_map, ofW8_len]; omega)) ⟨⟨(by first | exact hg | (simp_all; done) | (simp at hg ⊢; simp [hg])), True.intro⟩, ⟨⟨(by first | exact hg | (simp_all; done) | (simp at hg ⊢; simp [hg])), True.intro⟩, True.intro⟩⟩))) rfl rfl ?_)
      refine zgLQ ?_
      refine zgLI ?_
      refine zgLB ?_
      refine zpLB ?_
      refine zLB ?_
      refine zn ?_
      refine zt ?_
      refine ends (l := [.bool _]) (q := .bool _) (.inr rfl) rfl ⟨trivial, trivial⟩ rfl rfl ?_
      rw [Int.toNat_natCast, List.length_map, ofW8_get (by omega)]; rfl
theorem termsMemory (a : Ask10) (ha : a.Wf) : Ok Try.prog 4 [.agg (ask10C a)] (.bool true) := by
  by_cases z : ofE a.M a.Op a.Ch a.At = 0
  · have hO := terms_Of a.M a.Op a.Ch a.At
    rw [z] at hO
    exact termsMemory_ok a _ _ (termsF_len _ _ _ _) (terms_OfR a.M a.Op a.Ch a.At z) hO
  · have hE := (ofE_bad z).1
    have hO := terms_Of a.M a.Op a.Ch a.At
    rw [hE] at hO
    have hc44 : (ofE a.M a.Op a.Ch a.At != 0) = true := by simp [z]
    --@@2
    skip
    refine fn_ok Tb_ok (fn := Try.f4) Try.func4 rfl rfl (e := [(0, _)]) rfl (by decide) rfl ?_
    refine zs ?_
    refine zR ?_
    refine zbx [.int _ _, .int _ _, .int _ _, .int _ _, .int _ _, _, .int _ _, .int _ _, .int _ _, .int _ _] 10 ?_
    refine zLB ?_
    refine zn ?_
    refine zs ?_
    refine zs ?_
    refine zR ?_
    refine zLc (law10_fixed) ?_
    refine zLB ?_
    refine zn ?_
    refine W_cond_f (b := _) rfl (by rfl) ?_
    refine zk ?_
    refine zs ?_
    refine zR ?_
    refine zLP ?_
    refine zLG [.int _ _, .int _ _, .int _ _, .int _ _, .int _ _, _, .int _ _] ?_
    refine zLP ?_
    refine zLI ?_
    refine zLP ?_
    refine zLI ?_
    refine zLP ?_
    refine zLI ?_
    refine zLc (hO) ?_
    refine zLT [_, _, _] ?_
    refine zLO ?_
    refine zLI ?_
    refine zLI ?_
    refine zLO ?_
    refine zLI ?_
    refine zLI ?_
    refine zn ?_
    refine zs ?_
    refine zR ?_
    refine zLP ?_
    refine zLG [.int _ _, .int _ _, .int _ _, .int _ _, .int _ _, _, .int _ _] ?_
    refine zLP ?_
    refine zLI ?_
    refine zLP ?_
    refine zLI ?_
    refine zLP ?_
    refine zLI ?_
    refine zLc (hO) ?_
    refine zLT [_, _, _] ?_
    refine zLO ?_
    refine zLI ?_
    refine zLI ?_
    refine zLO ?_
    refine zLI ?_
    refine zLI ?_
    refine zn ?_
    refine zs ?_
    refine zs ?_
    refine zR ?_
    refine zLI ?_
    refine zLB ?_
    refine zn ?_
    refine W_cond_t (b := _) rfl (by exact hc44) ?_
    refine zs ?_
    refine zR ?_
    refine zLO ?_
    refine zLI ?_
    refine zLB ?_
    refine zLB ?_
    refine zgLO ?_
    refine zgLI ?_
    refine zgLB ?_
    refine zpLB ?_
    refine zLB ?_
    refine zn ?_
    refine zt ?_
    refine ends (l := [.bool _]) (q := .bool _) (.inr rfl) rfl ⟨trivial, trivial⟩ rfl rfl ?_
    rfl
end Go.AM
end
section
namespace Go.Proofs.Ytheclbekghjecaa.termsMemory
open Go.ChangeShapes Go.WideShapes Go.ChangeAt Go.RowKit
open Go.ChangeMaps (open_string shut_string)
set_option linter.unusedVariables false
theorem own : ownKnob Try.prog.godebug = none := by kernel_rfl
theorem laidOut : laidOutB Try.prog = true := by kernel_rfl
set_option maxRecDepth 100000 in
theorem lifted (os : Os) (started : os.Started) (H : Type) (enc : TypeId × Value → H) :
    ReturnsInHanded {} Try.checked os 4 .any (Rows.termsMemorySpec.pre6 enc Try.prog Try.f4 Rows.termsMemoryRow.domain false) (Rows.termsMemorySpec.post enc Try.prog Try.f4 false true false false) := by
  refine returnsInHanded_of_change_sized (C := Try.checked) own started (by kernel_rfl) Try.func4
    (ChangeSpec.witness6 (enc := enc) (C := Try.checked) false ⟨#[], #[.agg #[.int .i64 0, .int .i64 0, .int .i64 0, .int .i64 0, .int .i64 0, .slice none 0 0, .int .i64 0, .int .i64 0, .int .i64 0, .int .i64 0]], []⟩ 8 (by kernel_rfl) (by kernel_rfl) (by kernel_rfl) (by kernel_rfl)) ?_
  intro W base args ds gs before hval0 hW hcnd hsz0 _
  have hsz : (DataW.weightsEach Try.prog (Try.f4.params.toList ++ Rows.termsMemorySpec.plain.varTypes Try.prog) (ds ++ gs)).all (· ≤ reachBytes) = true := hsz0
  have hval : ∀ (j : Nat) t v, Try.f4.params[j]? = some t → args[j]? = some v → Value.okWide Try.prog W .any base t v := hval0
  have hW' := hW
  obtain ⟨p, q, hA0, hV, rfl, hfz, hnd⟩ := hW
  have hA : DataW.TrodAll enc Try.prog W 0 (fun _ => true) true Try.f4.params.toList args.toList ds p := hA0
  rw [Try.params4] at hA hval hsz
  obtain ⟨v0, vs0, d0, ds0, p0, q0, hargs, rfl, rfl, h0, r0⟩ := trodAll_cons hA
  obtain ⟨rfl, rfl, rfl⟩ := trodAll_nil r0
  obtain rfl : args = #[v0] := by cases args; simp_all
  obtain ⟨rfl, rfl⟩ := trodVars_none hV
  have k0 := h0
  have lt0 : ∀ x ∈ p0, x.block < W.heap.size := by obtain ⟨m, hm⟩ := k0; exact DataW.trod_lt m _ _ _ hm
  obtain ⟨y0, K0, w0⟩ := Go.AM.Opn.arg Go.AM.arg0 h0 (j := 0) (t := 28) hsz rfl rfl
  have R0 := Go.AM.arg_agg Try.underlying28 (hval 0 28 v0 rfl rfl) K0
  clear hA0 hval0 hsz0 hsz
  refine (Go.AM.Ok.law (Go.AM.termsMemory y0 w0) (Go.AM.rel1 R0)).mono fun e W' ⟨he, bel⟩ => ?_
  subst he
  exact ⟨_, rfl, _, _, _, [], _, [], hW', trodAll_mk1 (shut_bool Try.underlying4 _), (trodAll_cons_mk (Below.trod laidOut (by kernel_rfl) (of_decide_eq_true (by kernel_rfl)) k0 bel lt0) trodAll_mk0), rfl, bel.frame _, fun h => by cases h⟩
theorem over : Rows.termsMemoryRow.holds Try.pinned (OpenSpec.ofChange Rows.termsMemorySpec) :=
  OpenClaim.holds_of_wide 4 Try.f4 rfl rfl rfl rfl rfl rfl rfl ⟨rfl, rfl, rfl, rfl, rfl⟩ rfl rfl rfl rfl rfl (by kernel_rfl) Try.func4 (by kernel_rfl)
    (of_decide_eq_true (by kernel_rfl)) (by unfold Func.isWrapper; first | (rw [if_pos (by decide +kernel)]; kernel_rfl) | (rw [if_neg (by decide +kernel)]; exact ⟨rfl, rfl⟩))
    (fun os started H enc _ => lifted os started H enc)
theorem proved : Rows.TermsMemorySaid := over
end Go.Proofs.Ytheclbekghjecaa.termsMemory
namespace Go.Proofs.Ytheclbekghjecaa
/-- The row, under a short name, for the claim. -/
theorem termsMemory_holds : Rows.TermsMemorySaid := termsMemory.proved
end Go.Proofs.Ytheclbekghjecaa
end
