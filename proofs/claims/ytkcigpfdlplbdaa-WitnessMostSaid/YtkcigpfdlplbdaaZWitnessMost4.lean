/- The law WitnessMost answers true, whatever its arguments: part 5 of 6 of its proof (the machine on trees, the functions' contracts). -/

import Derived.Test.YtkcigpfdlplbdaaZWitnessMost3
section
open Go Go.AM Go.Proofs
set_option maxRecDepth 10000
set_option linter.unusedVariables false
set_option linter.unusedSimpArgs false
namespace Go.AM
/-- a hull that grows -/
structure Hull where
  (Lo Hi : Int) (some : Bool)
def hullC (h : Hull) : List AV := [.int .i64 h.Lo, .int .i64 h.Hi, .bool h.some]
def joinS (h : Hull) (s : Span) : Span := bif h.some then ⟨mn h.Lo s.Lo, mx h.Hi s.Hi⟩ else s
def takeH (h : Hull) (s : Span) : Hull := ⟨(joinS h s).Lo, (joinS h s).Hi, true⟩
def sumS (b : Int) (r : List Span) : Span := r.foldl plusS ⟨b, b⟩
def totH (b : Int) (l : List (List Span)) : Hull := l.foldl (fun h r => takeH h (sumS b r)) ⟨0, 0, false⟩
def hullS (h : Hull) : Span := ⟨h.Lo, h.Hi⟩
def totS (m : Model) (op ch : Int) (s : Span) : Span := if askE m op ch s = 0 then hullS (totH (biasF m op ch 0) (rowsF m op ch s)) else ⟨0, 0⟩
theorem askE_zero {m : Model} {op ch : Int} {s : Span} (h : askE m op ch s = 0) : ofE m op ch 0 = 0 ∧ (-128 ≤ s.Lo ∧ s.Lo ≤ s.Hi ∧ s.Hi ≤ 127) ∧ findE m op = 0 := by
  unfold askE at h
  split at h
  · rename_i z
    split at h
    · rename_i q
      refine ⟨z, ?_, (ofE_op z).1⟩
      simp [holdsF] at q; omega
    · omega
  · omega
theorem rowsX_inv {m : Model} {op ch : Int} {s : Span} {k : Nat} {x : List AV} (h : (rowsX m op ch s)[k]? = some x) : k < (rowsF m op ch s).length ∧ x = [.ro (((rowsF m op ch s).getD k default).map spanC)] := by
  have hk : k < (rowsF m op ch s).length := by
    have := (List.getElem?_eq_some_iff.1 h).1; simpa [rowsX] using this
  refine ⟨hk, ?_⟩
  rw [rowsX, List.getElem?_map, List.getElem?_eq_getElem hk] at h
  simp only [Option.map_some, Option.some.injEq] at h
  rw [← h, List.getD_eq_getElem?_getD, List.getElem?_eq_getElem hk]; rfl
theorem rowsX_len (m : Model) (op ch : Int) (s : Span) : (rowsX m op ch s).length = (rowsF m op ch s).length := by simp [rowsX]
theorem rowsF_len512 {m : Model} {op ch : Int} {s : Span} {k : Nat} (h : k < (rowsF m op ch s).length) : ((rowsF m op ch s).getD k default).length ≤ 512 := by
  rw [List.getD_eq_getElem?_getD, List.getElem?_eq_getElem h]
  simp [rowsF, rowF]; exact termsF_len _ _ _ _
theorem take_fold {α β : Type} [Inhabited α] (f : β → α → β) (b : β) {l : List α} {k : Nat} (h : k < l.length) : (l.take (k + 1)).foldl f b = f ((l.take k).foldl f b) (l.getD k default) := by
  rw [List.take_add_one, List.foldl_append, List.getElem?_eq_getElem h, List.getD_eq_getElem?_getD, List.getElem?_eq_getElem h]; rfl
theorem bound_Total (m : Model) (hm : m.Wf) (op ch : Int) (s : Span) : Ok Try.prog 35 [.agg (modelC m), .int .i64 op, .int .i64 ch, .agg (spanC s)] (.tup [.agg (spanC (totS m op ch s)), .int .i64 (askE m op ch s)]) := by
  cases hc26 : askE m op ch s != 0 with
  | true =>
    have hz : ¬ askE m op ch s = 0 := by simpa using hc26
    --@@1
    skip
    refine fn_ok Tb_ok (fn := Try.f35) Try.func35 rfl rfl (e := [(0, _), (1, _), (2, _), (3, _)]) rfl (by decide) rfl ?_
    refine zs ?_
    refine zR ?_
    refine zbx [.int _ _, .int _ _, .int _ _, .int _ _, .int _ _, _, .int _ _] 7 ?_
    refine zbx [.int _ _, .int _ _] 2 ?_
    refine zal [.int .i64 0, .int .i64 0] 2 ?_
    refine zLI ?_
    refine zn ?_
    refine zs ?_
    refine zR ?_
    refine zLG [.int _ _, .int _ _, .int _ _, .int _ _, .int _ _, _, .int _ _] ?_
    refine zLI ?_
    refine zLI ?_
    refine zLG [.int _ _, .int _ _] ?_
    refine zLc (bound_ask m op ch s) ?_
    refine zLT [_, _] ?_
    refine zLI ?_
    refine zLI ?_
    refine zal [.int .i64 0] 1 ?_
    refine zst (.int _ _) [_] [[_]] ?_
    refine zLI ?_
    refine zn ?_
    refine zs ?_
    refine zs ?_
    refine zR ?_
    refine zLI ?_
    refine zLB ?_
    refine zn ?_
    refine W_cond_t (b := _) rfl (by exact hc26) ?_
    refine zs ?_
    refine zR ?_
    refine zLG [.int _ _, .int _ _] ?_
    refine zLI ?_
    refine zst (.agg [.int _ _, .int _ _]) [_, _] [[_, _]] ?_
    refine zLI ?_
    refine zn ?_
    refine zt ?_
    refine ends (l := [.agg [.int _ _, .int _ _], .int _ _]) (q := .tup [.agg [.int _ _, .int _ _], .int _ _]) (.inr rfl) rfl ⟨rfl, trivial, trivial⟩ rfl rfl ?_
    rw [totS, if_neg hz]; rfl
  | false =>
    have hz : askE m op ch s = 0 := by simpa using hc26
    obtain ⟨z, hs, f0⟩ := askE_zero hz
    have hb : askB m op ch s = biasF m op ch 0 := by rw [askB, if_pos hz]
    have hA := bound_ask m op ch s
    rw [hb] at hA
    have hR := bound_rows1 m hm op ch s z hs
    have hlen := fun k hk => @rowsF_len512 m op ch s k hk
    have hX := fun k x hx => @rowsX_inv m op ch s k x hx
    have hXl := rowsX_len m op ch s
    generalize hL : rowsF m op ch s = L at *
    generalize hBB : biasF m op ch 0 = b at *
    --@@2
    skip
    refine fn_ok Tb_ok (fn := Try.f35) Try.func35 rfl rfl (e := [(0, _), (1, _), (2, _), (3, _)]) rfl (by decide) rfl ?_
    refine zs ?_
    refine zR ?_
    refine zbx [.int _ _, .int _ _, .int _ _, .int _ _, .int _ _, _, .int _ _] 7 ?_
    refine zbx [.int _ _, .int _ _] 2 ?_
    refine zal [.int .i64 0, .int .i64 0] 2 ?_
    refine zLI ?_
    refine zn ?_
    refine zs ?_
    refine zR ?_
    refine zLG [.int _ _, .int _ _, .int _ _, .int _ _, .int _ _, _, .int _ _] ?_
    refine zLI ?_
    refine zLI ?_
    refine zLG [.int _ _, .int _ _] ?_
    refine zLc (hA) ?_
    refine zLT [_, _] ?_
    refine zLI ?_
    refine zLI ?_
    refine zal [.int .i64 0] 1 ?_
    refine zst (.int _ _) [_] [[_]] ?_
    refine zLI ?_
    refine zn ?_
    refine zs ?_
    refine zs ?_
    refine zR ?_
    refine zLI ?_
    refine zLB ?_
    refine zn ?_
    refine W_cond_f (b := _) rfl (by exact hc26) ?_
    refine zk ?_
    refine zs ?_
    refine zR ?_
    refine zal [.int .i64 0, .int .i64 0, .bool false] 3 ?_
    refine zn ?_
    refine zs ?_
    refine zs ?_
    refine zR ?_
    refine zLG [.int _ _, .int _ _, .int _ _, .int _ _, .int _ _, _, .int _ _] ?_
    refine zLI ?_
    refine zLI ?_
    refine zLG [.int _ _, .int _ _] ?_
    refine zLc (bound_rows m op ch s f0) ?_
    refine zn ?_
    refine W_block ?_
    refine W_range (xs := rowsX m op ch s) rfl trivial rfl rfl hR rfl (fun x hx => by obtain ⟨k, hk⟩ := List.getElem?_of_mem hx; rw [(hX k x hk).2]; rfl)
      (fun k => ([(0, some ⟨26, 7, 0, [modelC m]⟩), (1, some ⟨28, 2, 0, [spanC s]⟩), (2, some ⟨28, 2, 0, [[.int .i64 0, .int .i64 0]]⟩), (3, some ⟨2, 1, 0, [[.int .i64 b]]⟩), (4, some ⟨127, 3, 0, [hullC (totH b (L.take k))]⟩)], [], 5))
      (le_fit trivial ⟨.inr rfl, .inr rfl, .inr rfl, .inr rfl, .inr rfl, trivial⟩ trivial rfl rfl rfl rfl rfl) ?_ ?_
    · intro k x hx
      obtain ⟨hk, rfl⟩ := hX k x hx
      have hr := hlen k hk
      have hnx : totH b (L.take (k + 1)) = takeH (totH b (L.take k)) (sumS b (L.getD k default)) := take_fold _ _ hk
      generalize L.getD k default = r at *
      generalize totH b (L.take k) = H at *
      refine zR ?_
      refine zLO ?_
      refine zn ?_
      refine W_block ?_
      refine zs ?_
      refine zR ?_
      refine zLI ?_
      refine zLI ?_
      refine zLG [.int _ _, .int _ _] ?_
      refine zal [.int .i64 0, .int .i64 0] 2 ?_
      refine zst (.agg [.int _ _, .int _ _]) [_, _] [[_, _]] ?_
      refine zn ?_
      refine zs ?_
      refine zs ?_
      refine zR ?_
      refine zLO ?_
      refine zLI ?_
      refine zLI ?_
      refine zn ?_
      refine W_block ?_
      refine W_for r.length (fun j => ⟨[(12, .ptr 4 0 0), (14, .ptr 5 0 0), (38, .ro (r.map spanC)), (39, .int .i64 ((r.map spanC).length : Int)), (40, .int .i64 (j : Int))], [(0, some ⟨26, 7, 0, [modelC m]⟩), (1, some ⟨28, 2, 0, [spanC s]⟩), (2, some ⟨28, 2, 0, [[.int .i64 0, .int .i64 0]]⟩), (3, some ⟨2, 1, 0, [[.int .i64 b]]⟩), (4, some ⟨127, 3, 0, [hullC H]⟩), (5, some ⟨28, 2, 0, [spanC (sumS b (r.take j))]⟩)], [], 6⟩) (le_fit ⟨rfl, rfl, rfl, rfl, rfl, trivial⟩ ⟨.inr rfl, .inr rfl, .inr rfl, .inr rfl, .inr rfl, .inr rfl, trivial⟩ trivial rfl rfl rfl rfl rfl) ?_
      intro j hj
      refine zs ?_
      refine zR ?_
      refine zLB ?_
      refine zn ?_
      refine zs ?_
      refine W_cond (b := _) rfl (fun h41 => ?_) (fun h41 => ?_)
      · have hjt : j < r.length := by have := of_decide_eq_true h41; rw [List.length_map] at this; omega
        refine zk ?_
        refine zs ?_
        refine W_block ?_
        refine zs ?_
        refine zR ?_
        (refine L_v Tb_ok (v := _) (ave_index_ro rfl rfl rfl (fun _ => rfl) rfl (by first | omega | assumption | decide | (simp_all; done) | (simp_all; omega)) (by first | omega | assumption | decide | (simp_all; done) | (simp_all; omega)) trivial) rfl ?_)
        refine zLG [.int _ _, .int _ _] ?_
        refine zal [.int .i64 0, .int .i64 0] 2 ?_
        refine zst (.agg [.int _ _, .int _ _]) [_, _] [[_, _]] ?_
        refine zn ?_
        refine zR ?_
        refine zLG [.int _ _, .int _ _] ?_
        refine zLG [.int _ _, .int _ _] ?_
        refine zLc (bound_plus _ _) ?_
        refine zst (.agg [.int _ _, .int _ _]) [_, _] [[_, _]] ?_
        refine zn ?_
        refine zR ?_
        refine zLI ?_
        refine zLI ?_
        refine zn ?_
        refine for_end hjt (le_fit ⟨rfl, rfl, rfl, rfl, congrArg _ (w_succ hjt (by omega)), trivial⟩ ⟨.inr rfl, .inr rfl, .inr rfl, .inr rfl, .inr rfl, .inr (congrArg (fun z => some (Ob.mk 28 2 0 [spanC z])) (take_fold plusS _ hjt).symm), trivial⟩ trivial rfl rfl rfl rfl rfl)
      · have hje : j = r.length := by have := of_decide_eq_false h41; rw [List.length_map] at this; omega
        refine W_exit ?_
        repeat (first | refine pass_then ?_ | refine pass_for ?_)
        refine blockQ_hit ?_
        refine zR ?_
        refine zLG [.int _ _, .int _ _] ?_
        refine L_inl Tb_ok (fn := Try.f73) (e' := [(0, _), (1, _)]) Try.func73 rfl rfl rfl rfl rfl trivial (by decide) rfl ?_
        refine zs ?_
        refine zR ?_
        refine zbx [.int _ _, .int _ _] 2 ?_
        refine zn ?_
        refine zs ?_
        refine zs ?_
        refine zR ?_
        refine zLP ?_
        refine zLP ?_
        refine zLP ?_
        refine zLB ?_
        refine zn ?_
        refine W_ift (b := _) (M := ⟨[(0, .ptr 4 0 0), (3, .ptr 6 0 0)], [(0, some ⟨26, 7, 0, [modelC m]⟩), (1, some ⟨28, 2, 0, [spanC s]⟩), (2, some ⟨28, 2, 0, [[.int .i64 0, .int .i64 0]]⟩), (3, some ⟨2, 1, 0, [[.int .i64 b]]⟩), (4, some ⟨127, 3, 0, [hullC H]⟩), (6, some ⟨28, 2, 0, [spanC (bif H.some then ⟨mn H.Lo (sumS b (r.take j)).Lo, mx H.Hi (sumS b (r.take j)).Hi⟩ else sumS b (r.take j))]⟩)], [], 7⟩) (p := True) rfl (fun h7 => ?_) (fun h7 => ?_) (fun m7 => ?_)
        · refine W_draw 17 Tb_mixed rfl (by decide) (by kernel_rfl) (by kernel_rfl) ?_
          refine zEP ?_
          refine zEP ?_
          refine zEP ?_
          refine zEP ?_
          refine zEI ?_
          refine zEP ?_
          refine zEI ?_
          refine zEI ?_
          refine zEP ?_
          refine zEP ?_
          refine zEP ?_
          refine zEP ?_
          refine zEI ?_
          refine zEP ?_
          refine zEI ?_
          refine zEI ?_
          refine zEG [.int _ _, .int _ _] ?_
          refine LexE_nil ?_
          refine zst (.agg [.int _ _, .int _ _]) [_, _] [[_, _]] ?_
          refine zn ?_
          exact ⟨trivial, le_t (F := fun X => ⟨[(0, .ptr 4 0 0), (3, .ptr 6 0 0)], [(0, some ⟨26, 7, 0, [modelC m]⟩), (1, some ⟨28, 2, 0, [spanC s]⟩), (2, some ⟨28, 2, 0, [[.int .i64 0, .int .i64 0]]⟩), (3, some ⟨2, 1, 0, [[.int .i64 b]]⟩), (4, some ⟨127, 3, 0, [hullC H]⟩), (6, some ⟨28, 2, 0, [spanC X]⟩)], [], 7⟩) (x := ⟨mn H.Lo (sumS b (r.take j)).Lo, mx H.Hi (sumS b (r.take j)).Hi⟩) (y := sumS b (r.take j)) h7 (le_fit ⟨rfl, rfl, trivial⟩ ⟨.inr rfl, .inr rfl, .inr rfl, .inr rfl, .inr rfl, .inr rfl, trivial⟩ trivial rfl rfl rfl rfl rfl)⟩
        · refine zk ?_
          exact ⟨trivial, le_f (F := fun X => ⟨[(0, .ptr 4 0 0), (3, .ptr 6 0 0)], [(0, some ⟨26, 7, 0, [modelC m]⟩), (1, some ⟨28, 2, 0, [spanC s]⟩), (2, some ⟨28, 2, 0, [[.int .i64 0, .int .i64 0]]⟩), (3, some ⟨2, 1, 0, [[.int .i64 b]]⟩), (4, some ⟨127, 3, 0, [hullC H]⟩), (6, some ⟨28, 2, 0, [spanC X]⟩)], [], 7⟩) (x := ⟨mn H.Lo (sumS b (r.take j)).Lo, mx H.Hi (sumS b (r.take j)).Hi⟩) (y := sumS b (r.take j)) h7 (le_fit ⟨rfl, rfl, trivial⟩ ⟨.inr rfl, .inr rfl, .inr rfl, .inr rfl, .inr rfl, .inr rfl, trivial⟩ trivial rfl rfl rfl rfl rfl)⟩
        refine zR ?_
        refine zLP ?_
        refine zLP ?_
        refine zLG [.int _ _, .int _ _] ?_
        refine zLP ?_
        refine zLP ?_
        refine zst (.agg [.int _ _, .int _ _]) [_, _] _ ?_
        refine zLP ?_
        refine zLP ?_
        refine zst (.bool _) [_] _ ?_
        refine zn ?_
        refine endsW (by exact .inl rfl) rfl trivial rfl ?_
        refine zn ?_
        refine le_fit trivial ⟨.inr rfl, .inr rfl, .inr rfl, .inr rfl, .inr ?_, trivial⟩ trivial rfl rfl rfl rfl rfl
        show some (Ob.mk 127 3 0 [hullC (takeH H (sumS b (r.take j)))]) = _
        rw [hnx, hje, List.take_length]
    refine zs ?_
    refine zR ?_
    refine zLP ?_
    refine zLG [.int _ _, .int _ _] ?_
    refine zst (.agg [.int _ _, .int _ _]) [_, _] [[_, _]] ?_
    refine zLI ?_
    refine zn ?_
    refine zt ?_
    refine ends (l := [.agg [.int _ _, .int _ _], .int _ _]) (q := .tup [.agg [.int _ _, .int _ _], .int _ _]) (.inr rfl) rfl ⟨rfl, trivial, trivial⟩ rfl rfl ?_
    rw [totS, if_pos hz, hz, hL, hBB, hXl, List.take_length]; rfl
end Go.AM
end
section
open Go Go.AM Go.Proofs
set_option maxRecDepth 10000
set_option linter.unusedVariables false
set_option linter.unusedSimpArgs false
namespace Go.AM
def runR (p : Hull × Span) (x : Span) : Hull × Span := (takeH p.1 (plusS p.2 x), plusS p.2 x)
def runH (b : Int) (l : List (List Span)) : Hull := l.foldl (fun h r => (r.foldl runR (takeH h ⟨b, b⟩, ⟨b, b⟩)).1) ⟨0, 0, false⟩
def runS (m : Model) (op ch : Int) (s : Span) : Span := if askE m op ch s = 0 then hullS (runH (biasF m op ch 0) (rowsF m op ch s)) else ⟨0, 0⟩
theorem bound_Run (m : Model) (hm : m.Wf) (op ch : Int) (s : Span) : Ok Try.prog 64 [.agg (modelC m), .int .i64 op, .int .i64 ch, .agg (spanC s)] (.tup [.agg (spanC (runS m op ch s)), .int .i64 (askE m op ch s)]) := by
  cases hc26 : askE m op ch s != 0 with
  | true =>
    have hz : ¬ askE m op ch s = 0 := by simpa using hc26
    --@@1
    skip
    refine fn_ok Tb_ok (fn := Try.f64) Try.func64 rfl rfl (e := [(0, _), (1, _), (2, _), (3, _)]) rfl (by decide) rfl ?_
    refine zs ?_
    refine zR ?_
    refine zbx [.int _ _, .int _ _, .int _ _, .int _ _, .int _ _, _, .int _ _] 7 ?_
    refine zbx [.int _ _, .int _ _] 2 ?_
    refine zal [.int .i64 0, .int .i64 0] 2 ?_
    refine zLI ?_
    refine zn ?_
    refine zs ?_
    refine zR ?_
    refine zLG [.int _ _, .int _ _, .int _ _, .int _ _, .int _ _, _, .int _ _] ?_
    refine zLI ?_
    refine zLI ?_
    refine zLG [.int _ _, .int _ _] ?_
    refine zLc (bound_ask m op ch s) ?_
    refine zLT [_, _] ?_
    refine zLI ?_
    refine zLI ?_
    refine zal [.int .i64 0] 1 ?_
    refine zst (.int _ _) [_] [[_]] ?_
    refine zLI ?_
    refine zn ?_
    refine zs ?_
    refine zs ?_
    refine zR ?_
    refine zLI ?_
    refine zLB ?_
    refine zn ?_
    refine W_cond_t (b := _) rfl (by exact hc26) ?_
    refine zs ?_
    refine zR ?_
    refine zLG [.int _ _, .int _ _] ?_
    refine zLI ?_
    refine zst (.agg [.int _ _, .int _ _]) [_, _] [[_, _]] ?_
    refine zLI ?_
    refine zn ?_
    refine zt ?_
    refine ends (l := [.agg [.int _ _, .int _ _], .int _ _]) (q := .tup [.agg [.int _ _, .int _ _], .int _ _]) (.inr rfl) rfl ⟨rfl, trivial, trivial⟩ rfl rfl ?_
    rw [runS, if_neg hz]; rfl
  | false =>
    have hz : askE m op ch s = 0 := by simpa using hc26
    obtain ⟨z, hs, f0⟩ := askE_zero hz
    have hb : askB m op ch s = biasF m op ch 0 := by rw [askB, if_pos hz]
    have hA := bound_ask m op ch s
    rw [hb] at hA
    have hR := bound_rows1 m hm op ch s z hs
    have hlen := fun k hk => @rowsF_len512 m op ch s k hk
    have hX := fun k x hx => @rowsX_inv m op ch s k x hx
    have hXl := rowsX_len m op ch s
    generalize hL : rowsF m op ch s = L at *
    generalize hBB : biasF m op ch 0 = b at *
    --@@2
    skip
    refine fn_ok Tb_ok (fn := Try.f64) Try.func64 rfl rfl (e := [(0, _), (1, _), (2, _), (3, _)]) rfl (by decide) rfl ?_
    refine zs ?_
    refine zR ?_
    refine zbx [.int _ _, .int _ _, .int _ _, .int _ _, .int _ _, _, .int _ _] 7 ?_
    refine zbx [.int _ _, .int _ _] 2 ?_
    refine zal [.int .i64 0, .int .i64 0] 2 ?_
    refine zLI ?_
    refine zn ?_
    refine zs ?_
    refine zR ?_
    refine zLG [.int _ _, .int _ _, .int _ _, .int _ _, .int _ _, _, .int _ _] ?_
    refine zLI ?_
    refine zLI ?_
    refine zLG [.int _ _, .int _ _] ?_
    refine zLc (hA) ?_
    refine zLT [_, _] ?_
    refine zLI ?_
    refine zLI ?_
    refine zal [.int .i64 0] 1 ?_
    refine zst (.int _ _) [_] [[_]] ?_
    refine zLI ?_
    refine zn ?_
    refine zs ?_
    refine zs ?_
    refine zR ?_
    refine zLI ?_
    refine zLB ?_
    refine zn ?_
    refine W_cond_f (b := _) rfl (by exact hc26) ?_
    refine zk ?_
    refine zs ?_
    refine zR ?_
    refine zal [.int .i64 0, .int .i64 0, .bool false] 3 ?_
    refine zn ?_
    refine zs ?_
    refine zs ?_
    refine zR ?_
    refine zLG [.int _ _, .int _ _, .int _ _, .int _ _, .int _ _, _, .int _ _] ?_
    refine zLI ?_
    refine zLI ?_
    refine zLG [.int _ _, .int _ _] ?_
    refine zLc (bound_rows m op ch s f0) ?_
    refine zn ?_
    refine W_block ?_
    refine W_range (xs := rowsX m op ch s) rfl trivial rfl rfl hR rfl (fun x hx => by obtain ⟨k, hk⟩ := List.getElem?_of_mem hx; rw [(hX k x hk).2]; rfl)
      (fun k => ([(0, some ⟨26, 7, 0, [modelC m]⟩), (1, some ⟨28, 2, 0, [spanC s]⟩), (2, some ⟨28, 2, 0, [[.int .i64 0, .int .i64 0]]⟩), (3, some ⟨2, 1, 0, [[.int .i64 b]]⟩), (4, some ⟨127, 3, 0, [hullC (runH b (L.take k))]⟩)], [], 5))
      (le_fit trivial ⟨.inr rfl, .inr rfl, .inr rfl, .inr rfl, .inr rfl, trivial⟩ trivial rfl rfl rfl rfl rfl) ?_ ?_
    · intro k x hx
      obtain ⟨hk, rfl⟩ := hX k x hx
      have hr := hlen k hk
      have hnx : runH b (L.take (k + 1)) = ((L.getD k default).foldl runR (takeH (runH b (L.take k)) ⟨b, b⟩, ⟨b, b⟩)).1 := take_fold _ _ hk
      generalize L.getD k default = r at *
      generalize runH b (L.take k) = H at *
      have hst := fun (j : Nat) (hj : j < r.length) => take_fold runR (takeH H ⟨b, b⟩, ⟨b, b⟩) hj
      obtain ⟨G, hG⟩ : ∃ G : Nat → Hull × Span, G = fun j => (r.take j).foldl runR (takeH H ⟨b, b⟩, ⟨b, b⟩) := ⟨_, rfl⟩
      have hG0 : G 0 = (takeH H ⟨b, b⟩, ⟨b, b⟩) := by rw [hG]; rfl
      have hGs : ∀ j, j < r.length → G (j + 1) = runR (G j) (r.getD j default) := fun j hj => by rw [hG]; exact hst j hj
      have hGn : (G r.length).1 = runH b (L.take (k + 1)) := by rw [hG, hnx]; simp only [List.take_length]
      clear hst
      refine zR ?_
      refine zLO ?_
      refine zn ?_
      refine W_block ?_
      refine zs ?_
      refine zR ?_
      refine zLI ?_
      refine zLI ?_
      refine zLG [.int _ _, .int _ _] ?_
      refine zal [.int .i64 0, .int .i64 0] 2 ?_
      refine zst (.agg [.int _ _, .int _ _]) [_, _] [[_, _]] ?_
      refine zn ?_
      refine zs ?_
      refine zR ?_
      refine zLG [.int _ _, .int _ _] ?_
      refine L_inl Tb_ok (fn := Try.f73) (e' := [(0, _), (1, _)]) Try.func73 rfl rfl rfl rfl rfl trivial (by decide) rfl ?_
      refine zs ?_
      refine zR ?_
      refine zbx [.int _ _, .int _ _] 2 ?_
      refine zn ?_
      refine zs ?_
      refine zs ?_
      refine zR ?_
      refine zLP ?_
      refine zLP ?_
      refine zLP ?_
      refine zLB ?_
      refine zn ?_
      refine W_ift (b := _) (M := ⟨[(0, .ptr 4 0 0), (3, .ptr 6 0 0)], [(0, some ⟨26, 7, 0, [modelC m]⟩), (1, some ⟨28, 2, 0, [spanC s]⟩), (2, some ⟨28, 2, 0, [[.int .i64 0, .int .i64 0]]⟩), (3, some ⟨2, 1, 0, [[.int .i64 b]]⟩), (4, some ⟨127, 3, 0, [hullC H]⟩), (5, some ⟨28, 2, 0, [[.int .i64 b, .int .i64 b]]⟩), (6, some ⟨28, 2, 0, [spanC (bif H.some then ⟨mn H.Lo b, mx H.Hi b⟩ else (⟨b, b⟩ : Span))]⟩)], [], 7⟩) (p := True) rfl (fun h7 => ?_) (fun h7 => ?_) (fun m7 => ?_)
      · refine W_draw 17 Tb_mixed rfl (by decide) (by kernel_rfl) (by kernel_rfl) ?_
        refine zEP ?_
        refine zEP ?_
        refine zEP ?_
        refine zEP ?_
        refine zEI ?_
        refine zEP ?_
        refine zEI ?_
        refine zEI ?_
        refine zEP ?_
        refine zEP ?_
        refine zEP ?_
        refine zEP ?_
        refine zEI ?_
        refine zEP ?_
        refine zEI ?_
        refine zEI ?_
        refine zEG [.int _ _, .int _ _] ?_
        refine LexE_nil ?_
        refine zst (.agg [.int _ _, .int _ _]) [_, _] [[_, _]] ?_
        refine zn ?_
        exact ⟨trivial, le_t (F := fun X => ⟨[(0, .ptr 4 0 0), (3, .ptr 6 0 0)], [(0, some ⟨26, 7, 0, [modelC m]⟩), (1, some ⟨28, 2, 0, [spanC s]⟩), (2, some ⟨28, 2, 0, [[.int .i64 0, .int .i64 0]]⟩), (3, some ⟨2, 1, 0, [[.int .i64 b]]⟩), (4, some ⟨127, 3, 0, [hullC H]⟩), (5, some ⟨28, 2, 0, [[.int .i64 b, .int .i64 b]]⟩), (6, some ⟨28, 2, 0, [spanC X]⟩)], [], 7⟩) (x := ⟨mn H.Lo b, mx H.Hi b⟩) (y := (⟨b, b⟩ : Span)) h7 (le_fit ⟨rfl, rfl, trivial⟩ ⟨.inr rfl, .inr rfl, .inr rfl, .inr rfl, .inr rfl, .inr rfl, .inr rfl, trivial⟩ trivial rfl rfl rfl rfl rfl)⟩
      · refine zk ?_
        exact ⟨trivial, le_f (F := fun X => ⟨[(0, .ptr 4 0 0), (3, .ptr 6 0 0)], [(0, some ⟨26, 7, 0, [modelC m]⟩), (1, some ⟨28, 2, 0, [spanC s]⟩), (2, some ⟨28, 2, 0, [[.int .i64 0, .int .i64 0]]⟩), (3, some ⟨2, 1, 0, [[.int .i64 b]]⟩), (4, some ⟨127, 3, 0, [hullC H]⟩), (5, some ⟨28, 2, 0, [[.int .i64 b, .int .i64 b]]⟩), (6, some ⟨28, 2, 0, [spanC X]⟩)], [], 7⟩) (x := ⟨mn H.Lo b, mx H.Hi b⟩) (y := (⟨b, b⟩ : Span)) h7 (le_fit ⟨rfl, rfl, trivial⟩ ⟨.inr rfl, .inr rfl, .inr rfl, .inr rfl, .inr rfl, .inr rfl, .inr rfl, trivial⟩ trivial rfl rfl rfl rfl rfl)⟩
      refine zR ?_
      refine zLP ?_
      refine zLP ?_
      refine zLG [.int _ _, .int _ _] ?_
      refine zLP ?_
      refine zLP ?_
      refine zst (.agg [.int _ _, .int _ _]) [_, _] _ ?_
      refine zLP ?_
      refine zLP ?_
      refine zst (.bool _) [_] _ ?_
      refine zn ?_
      refine endsW (by exact .inl rfl) rfl trivial rfl ?_
      refine zn ?_
      refine zs ?_
      refine zR ?_
      refine zLO ?_
      refine zLI ?_
      refine zLI ?_
      refine zn ?_
      refine W_block ?_
      refine W_for r.length (fun j => ⟨[(12, .ptr 4 0 0), (14, .ptr 5 0 0), (40, .ro (r.map spanC)), (41, .int .i64 ((r.map spanC).length : Int)), (42, .int .i64 (j : Int))], [(0, some ⟨26, 7, 0, [modelC m]⟩), (1, some ⟨28, 2, 0, [spanC s]⟩), (2, some ⟨28, 2, 0, [[.int .i64 0, .int .i64 0]]⟩), (3, some ⟨2, 1, 0, [[.int .i64 b]]⟩), (4, some ⟨127, 3, 0, [hullC (G j).1]⟩), (5, some ⟨28, 2, 0, [spanC (G j).2]⟩)], [], 6⟩) (le_fit ⟨rfl, rfl, rfl, rfl, rfl, trivial⟩ ⟨.inr rfl, .inr rfl, .inr rfl, .inr rfl, .inr (by rw [hG0]; rfl), .inr (by rw [hG0]; rfl), trivial⟩ trivial rfl rfl rfl rfl rfl) ?_
      intro j hj
      refine zs ?_
      refine zR ?_
      refine zLB ?_
      refine zn ?_
      refine zs ?_
      refine W_cond (b := _) rfl (fun h43 => ?_) (fun h43 => ?_)
      · have hjt : j < r.length := by have := of_decide_eq_true h43; rw [List.length_map] at this; omega
        refine zk ?_
        refine zs ?_
        refine W_block ?_
        refine zs ?_
        refine zR ?_
        (refine L_v Tb_ok (v := _) (ave_index_ro rfl rfl rfl (fun _ => rfl) rfl (by first | omega | assumption | decide | (simp_all; done) | (simp_all; omega)) (by first | omega | assumption | decide | (simp_all; done) | (simp_all; omega)) trivial) rfl ?_)
        refine zLG [.int _ _, .int _ _] ?_
        refine zal [.int .i64 0, .int .i64 0] 2 ?_
        refine zst (.agg [.int _ _, .int _ _]) [_, _] [[_, _]] ?_
        refine zn ?_
        refine zs ?_
        refine zR ?_
        refine zLG [.int _ _, .int _ _] ?_
        refine zLG [.int _ _, .int _ _] ?_
        refine zLc (bound_plus _ _) ?_
        refine zst (.agg [.int _ _, .int _ _]) [_, _] [[_, _]] ?_
        refine zn ?_
        refine zR ?_
        refine zLG [.int _ _, .int _ _] ?_
        refine L_inl Tb_ok (fn := Try.f73) (e' := [(0, _), (1, _)]) Try.func73 rfl rfl rfl rfl rfl trivial (by decide) rfl ?_
        refine zs ?_
        refine zR ?_
        refine zbx [.int _ _, .int _ _] 2 ?_
        refine zn ?_
        refine zs ?_
        refine zs ?_
        refine zR ?_
        refine zLP ?_
        refine zLP ?_
        refine zLP ?_
        refine zLB ?_
        refine zn ?_
        refine W_ift (b := _) (M := ⟨[(0, .ptr 4 0 0), (3, .ptr 7 0 0)], [(0, some ⟨26, 7, 0, [modelC m]⟩), (1, some ⟨28, 2, 0, [spanC s]⟩), (2, some ⟨28, 2, 0, [[.int .i64 0, .int .i64 0]]⟩), (3, some ⟨2, 1, 0, [[.int .i64 b]]⟩), (4, some ⟨127, 3, 0, [hullC (G j).1]⟩), (5, some ⟨28, 2, 0, [spanC (plusS (G j).2 (r.getD j default))]⟩), (7, some ⟨28, 2, 0, [spanC (bif (G j).1.some then ⟨mn (G j).1.Lo (plusS (G j).2 (r.getD j default)).Lo, mx (G j).1.Hi (plusS (G j).2 (r.getD j default)).Hi⟩ else plusS (G j).2 (r.getD j default))]⟩)], [], 8⟩) (p := True) rfl (fun h7_1 => ?_) (fun h7_1 => ?_) (fun m7 => ?_)
        · refine W_draw 17 Tb_mixed rfl (by decide) (by kernel_rfl) (by kernel_rfl) ?_
          refine zEP ?_
          refine zEP ?_
          refine zEP ?_
          refine zEP ?_
          refine zEI ?_
          refine zEP ?_
          refine zEI ?_
          refine zEI ?_
          refine zEP ?_
          refine zEP ?_
          refine zEP ?_
          refine zEP ?_
          refine zEI ?_
          refine zEP ?_
          refine zEI ?_
          refine zEI ?_
          refine zEG [.int _ _, .int _ _] ?_
          refine LexE_nil ?_
          refine zst (.agg [.int _ _, .int _ _]) [_, _] [[_, _]] ?_
          refine zn ?_
          exact ⟨trivial, le_t (F := fun X => ⟨[(0, .ptr 4 0 0), (3, .ptr 7 0 0)], [(0, some ⟨26, 7, 0, [modelC m]⟩), (1, some ⟨28, 2, 0, [spanC s]⟩), (2, some ⟨28, 2, 0, [[.int .i64 0, .int .i64 0]]⟩), (3, some ⟨2, 1, 0, [[.int .i64 b]]⟩), (4, some ⟨127, 3, 0, [hullC (G j).1]⟩), (5, some ⟨28, 2, 0, [spanC (plusS (G j).2 (r.getD j default))]⟩), (7, some ⟨28, 2, 0, [spanC X]⟩)], [], 8⟩) (x := ⟨mn (G j).1.Lo (plusS (G j).2 (r.getD j default)).Lo, mx (G j).1.Hi (plusS (G j).2 (r.getD j default)).Hi⟩) (y := plusS (G j).2 (r.getD j default)) h7_1 (le_fit ⟨rfl, rfl, trivial⟩ ⟨.inr rfl, .inr rfl, .inr rfl, .inr rfl, .inr rfl, .inr rfl, .inr rfl, trivial⟩ trivial rfl rfl rfl rfl rfl)⟩
        · refine zk ?_
          exact ⟨trivial, le_f (F := fun X => ⟨[(0, .ptr 4 0 0), (3, .ptr 7 0 0)], [(0, some ⟨26, 7, 0, [modelC m]⟩), (1, some ⟨28, 2, 0, [spanC s]⟩), (2, some ⟨28, 2, 0, [[.int .i64 0, .int .i64 0]]⟩), (3, some ⟨2, 1, 0, [[.int .i64 b]]⟩), (4, some ⟨127, 3, 0, [hullC (G j).1]⟩), (5, some ⟨28, 2, 0, [spanC (plusS (G j).2 (r.getD j default))]⟩), (7, some ⟨28, 2, 0, [spanC X]⟩)], [], 8⟩) (x := ⟨mn (G j).1.Lo (plusS (G j).2 (r.getD j default)).Lo, mx (G j).1.Hi (plusS (G j).2 (r.getD j default)).Hi⟩) (y := plusS (G j).2 (r.getD j default)) h7_1 (le_fit ⟨rfl, rfl, trivial⟩ ⟨.inr rfl, .inr rfl, .inr rfl, .inr rfl, .inr rfl, .inr rfl, .inr rfl, trivial⟩ trivial rfl rfl rfl rfl rfl)⟩
        refine zR ?_
        refine zLP ?_
        refine zLP ?_
        refine zLG [.int _ _, .int _ _] ?_
        refine zLP ?_
        refine zLP ?_
        refine zst (.agg [.int _ _, .int _ _]) [_, _] _ ?_
        refine zLP ?_
        refine zLP ?_
        refine zst (.bool _) [_] _ ?_
        refine zn ?_
        refine endsW (by exact .inl rfl) rfl trivial rfl ?_
        refine zn ?_
        refine zR ?_
        refine zLI ?_
        refine zLI ?_
        refine zn ?_
        refine for_end hjt (le_fit ⟨rfl, rfl, rfl, rfl, congrArg _ (w_succ hjt (by omega)), trivial⟩ ⟨.inr rfl, .inr rfl, .inr rfl, .inr rfl, .inr ?_, .inr ?_, trivial⟩ trivial rfl rfl rfl rfl rfl)
        · rw [hGs j hjt]; rfl
        · rw [hGs j hjt]; rfl
      · have hje : j = r.length := by have := of_decide_eq_false h43; rw [List.length_map] at this; omega
        refine W_exit ?_
        repeat (first | refine pass_then ?_ | refine pass_for ?_)
        refine blockQ_hit ?_
        refine le_fit trivial ⟨.inr rfl, .inr rfl, .inr rfl, .inr rfl, .inr ?_, trivial⟩ trivial rfl rfl rfl rfl rfl
        show some (Ob.mk 127 3 0 [hullC (G j).1]) = _
        rw [hje, hGn]
    refine zs ?_
    refine zR ?_
    refine zLP ?_
    refine zLG [.int _ _, .int _ _] ?_
    refine zst (.agg [.int _ _, .int _ _]) [_, _] [[_, _]] ?_
    refine zLI ?_
    refine zn ?_
    refine zt ?_
    refine ends (l := [.agg [.int _ _, .int _ _], .int _ _]) (q := .tup [.agg [.int _ _, .int _ _], .int _ _]) (.inr rfl) rfl ⟨rfl, trivial, trivial⟩ rfl rfl ?_
    rw [runS, if_pos hz, hz, hL, hBB, hXl, List.take_length]; rfl
end Go.AM
end
section
open Go Go.AM Go.Proofs
set_option maxRecDepth 10000
set_option linter.unusedVariables false
set_option linter.unusedSimpArgs false
namespace Go.AM
/-- the hull and the block's sum, k terms told -/
def partG (D : Nat) (h : Hull) (r : List Span) : Nat → Hull × Span
  | 0 => (h, ⟨0, 0⟩)
  | k + 1 => (takeH (takeH (partG D h r k).1 (plusS (if k % D = 0 then ⟨0, 0⟩ else (partG D h r k).2) (r.getD k default))) (r.getD k default), plusS (if k % D = 0 then ⟨0, 0⟩ else (partG D h r k).2) (r.getD k default))
def partH (D : Nat) (l : List (List Span)) : Hull := l.foldl (fun h r => (partG D h r r.length).1) ⟨0, 0, false⟩
def partE (m : Model) (op ch : Int) (s : Span) (d : Int) : Int := if askE m op ch s = 0 then if d < 1 ∨ d > (findS m op).Len then 151 else 0 else askE m op ch s
def partS (m : Model) (op ch : Int) (s : Span) (d : Int) : Span := if partE m op ch s d = 0 then hullS (partH d.toNat (rowsF m op ch s)) else ⟨0, 0⟩
/-- a block -/
theorem part_block (D : Nat) (h : Hull) (r : List Span) {p n : Nat} (hD : 0 < D) (hp : p % D = 0) (hn : n ≤ D) (hl : p + n ≤ r.length) : ∃ (G : Nat → Hull) (Q : Nat → Span), G 0 = (partG D h r p).1 ∧ Q 0 = ⟨0, 0⟩ ∧
    (∀ j, j < n → G (j + 1) = takeH (takeH (G j) (plusS (Q j) (((r.drop p).take n).getD j default))) (((r.drop p).take n).getD j default) ∧ Q (j + 1) = plusS (Q j) (((r.drop p).take n).getD j default)) ∧ G n = (partG D h r (p + n)).1 := by
  refine ⟨fun j => (partG D h r (p + j)).1, fun j => if j = 0 then ⟨0, 0⟩ else (partG D h r (p + j)).2, rfl, rfl, fun j hj => ?_, rfl⟩
  have hx : ((r.drop p).take n).getD j default = r.getD (p + j) default := by
    simp [List.getD_eq_getElem?_getD, List.getElem?_take, hj]
  have hm : (p + j) % D = 0 ↔ j = 0 := by
    rw [Nat.add_mod, hp, Nat.zero_add, Nat.mod_mod, Nat.mod_eq_of_lt (by omega)]
  have e : (if (p + j) % D = 0 then (⟨0, 0⟩ : Span) else (partG D h r (p + j)).2) = if j = 0 then ⟨0, 0⟩ else (partG D h r (p + j)).2 := by
    by_cases c : j = 0
    · rw [if_pos (hm.2 c), if_pos c]
    · rw [if_neg (fun q => c (hm.1 q)), if_neg c]
  rw [hx]
  refine ⟨?_, ?_⟩
  · dsimp only; rw [← e]; rfl
  · dsimp only; rw [if_neg (Nat.succ_ne_zero j), ← e]; rfl
theorem bound_Part (m : Model) (hm : m.Wf) (op ch : Int) (s : Span) (d : Int) : Ok Try.prog 34 [.agg (modelC m), .int .i64 op, .int .i64 ch, .agg (spanC s), .int .i64 d] (.tup [.agg (spanC (partS m op ch s d)), .int .i64 (partE m op ch s d)]) := by
  cases hc31 : askE m op ch s != 0 with
  | true =>
    have hz : ¬ askE m op ch s = 0 := by simpa using hc31
    --@@1
    skip
    refine fn_ok Tb_ok (fn := Try.f34) Try.func34 rfl rfl (e := [(0, _), (1, _), (2, _), (3, _), (4, _)]) rfl (by decide) rfl ?_
    refine zs ?_
    refine zR ?_
    refine zbx [.int _ _, .int _ _, .int _ _, .int _ _, .int _ _, _, .int _ _] 7 ?_
    refine zbx [.int _ _, .int _ _] 2 ?_
    refine L_box1 Tb_ok (v := .int _ _) rfl rfl rfl trivial ?_
    refine zal [.int .i64 0, .int .i64 0] 2 ?_
    refine zLI ?_
    refine zn ?_
    refine zs ?_
    refine zs ?_
    refine zR ?_
    refine zLG [.int _ _, .int _ _, .int _ _, .int _ _, .int _ _, _, .int _ _] ?_
    refine zLI ?_
    refine zLI ?_
    refine zLG [.int _ _, .int _ _] ?_
    refine zLc (bound_ask m op ch s) ?_
    refine zLT [_, _] ?_
    refine zLI ?_
    refine zLI ?_
    refine zLI ?_
    refine zLI ?_
    refine zn ?_
    refine zs ?_
    refine zR ?_
    refine zLI ?_
    refine zLB ?_
    refine zn ?_
    refine W_cond_t (b := _) rfl (by exact hc31) ?_
    refine zs ?_
    refine zR ?_
    refine zLG [.int _ _, .int _ _] ?_
    refine zLI ?_
    refine zst (.agg [.int _ _, .int _ _]) [_, _] [[_, _]] ?_
    refine zLI ?_
    refine zn ?_
    refine zt ?_
    refine ends (l := [.agg [.int _ _, .int _ _], .int _ _]) (q := .tup [.agg [.int _ _, .int _ _], .int _ _]) (.inr rfl) rfl ⟨rfl, trivial, trivial⟩ rfl rfl ?_
    have he : partE m op ch s d = askE m op ch s := by rw [partE, if_neg hz]
    rw [partS, if_neg (by rw [he]; exact hz), he]; rfl
  | false =>
  have hz : askE m op ch s = 0 := by simpa using hc31
  obtain ⟨z, hs, f0⟩ := askE_zero hz
  have hLn := terms_Length m op
  cases hc46 : (bif decide (d < 1) then true else decide (d > (findS m op).Len)) with
  | true =>
    have he : partE m op ch s d = 151 := by
      rw [partE, if_pos hz, if_pos]
      by_cases c : d < 1
      · exact .inl c
      · right; simpa [c] using hc46
    --@@2
    skip
    refine fn_ok Tb_ok (fn := Try.f34) Try.func34 rfl rfl (e := [(0, _), (1, _), (2, _), (3, _), (4, _)]) rfl (by decide) rfl ?_
    refine zs ?_
    refine zR ?_
    refine zbx [.int _ _, .int _ _, .int _ _, .int _ _, .int _ _, _, .int _ _] 7 ?_
    refine zbx [.int _ _, .int _ _] 2 ?_
    refine L_box1 Tb_ok (v := .int _ _) rfl rfl rfl trivial ?_
    refine zal [.int .i64 0, .int .i64 0] 2 ?_
    refine zLI ?_
    refine zn ?_
    refine zs ?_
    refine zs ?_
    refine zR ?_
    refine zLG [.int _ _, .int _ _, .int _ _, .int _ _, .int _ _, _, .int _ _] ?_
    refine zLI ?_
    refine zLI ?_
    refine zLG [.int _ _, .int _ _] ?_
    refine zLc (bound_ask m op ch s) ?_
    refine zLT [_, _] ?_
    refine zLI ?_
    refine zLI ?_
    refine zLI ?_
    refine zLI ?_
    refine zn ?_
    refine zs ?_
    refine zR ?_
    refine zLI ?_
    refine zLB ?_
    refine zn ?_
    refine W_cond_f (b := _) rfl (by exact hc31) ?_
    refine zk ?_
    refine zs ?_
    refine zs ?_
    refine zR ?_
    refine zLG [.int _ _, .int _ _, .int _ _, .int _ _, .int _ _, _, .int _ _] ?_
    refine zLI ?_
    refine zLc (hLn) ?_
    refine zLT [_, _] ?_
    refine zLI ?_
    refine zLI ?_
    refine zLI ?_
    refine zLI ?_
    refine zn ?_
    refine zs ?_
    refine zR ?_
    refine zLI ?_
    refine zLB ?_
    refine zLB ?_
    refine zgLI ?_
    refine zgLI ?_
    refine zgLB ?_
    refine zpLB ?_
    refine zn ?_
    refine W_cond_t (b := _) rfl (by exact hc46) ?_
    refine zs ?_
    refine zR ?_
    refine zLG [.int _ _, .int _ _] ?_
    refine zst (.agg [.int _ _, .int _ _]) [_, _] [[_, _]] ?_
    refine zLI ?_
    refine zn ?_
    refine zt ?_
    refine ends (l := [.agg [.int _ _, .int _ _], .int _ _]) (q := .tup [.agg [.int _ _, .int _ _], .int _ _]) (.inr rfl) rfl ⟨rfl, trivial, trivial⟩ rfl rfl ?_
    rw [partS, if_neg (by rw [he]; decide), he]; rfl
  | false =>
    have hdd : 1 ≤ d ∧ d ≤ (findS m op).Len := by
      by_cases c : d < 1
      · simp [c] at hc46
      · simp [c] at hc46; omega
    have he : partE m op ch s d = 0 := by rw [partE, if_pos hz, if_neg (by omega)]
    have hLb := (site_ok f0).1.len
    have hA := bound_ask m op ch s
    have hR := bound_rows1 m hm op ch s z hs
    have hlen := fun k hk => @rowsF_len512 m op ch s k hk
    have hX := fun k x hx => @rowsX_inv m op ch s k x hx
    have hXl := rowsX_len m op ch s
    generalize hL : rowsF m op ch s = L at *
    obtain ⟨D, hD⟩ : ∃ D, D = d.toNat := ⟨_, rfl⟩
    have hD0 : 0 < D := by omega
    have hDd : d = (D : Int) := by omega
    --@@3
    skip
    refine fn_ok Tb_ok (fn := Try.f34) Try.func34 rfl rfl (e := [(0, _), (1, _), (2, _), (3, _), (4, _)]) rfl (by decide) rfl ?_
    refine zs ?_
    refine zR ?_
    refine zbx [.int _ _, .int _ _, .int _ _, .int _ _, .int _ _, _, .int _ _] 7 ?_
    refine zbx [.int _ _, .int _ _] 2 ?_
    refine L_box1 Tb_ok (v := .int _ _) rfl rfl rfl trivial ?_
    refine zal [.int .i64 0, .int .i64 0] 2 ?_
    refine zLI ?_
    refine zn ?_
    refine zs ?_
    refine zs ?_
    refine zR ?_
    refine zLG [.int _ _, .int _ _, .int _ _, .int _ _, .int _ _, _, .int _ _] ?_
    refine zLI ?_
    refine zLI ?_
    refine zLG [.int _ _, .int _ _] ?_
    refine zLc (hA) ?_
    refine zLT [_, _] ?_
    refine zLI ?_
    refine zLI ?_
    refine zLI ?_
    refine zLI ?_
    refine zn ?_
    refine zs ?_
    refine zR ?_
    refine zLI ?_
    refine zLB ?_
    refine zn ?_
    refine W_cond_f (b := _) rfl (by exact hc31) ?_
    refine zk ?_
    refine zs ?_
    refine zs ?_
    refine zR ?_
    refine zLG [.int _ _, .int _ _, .int _ _, .int _ _, .int _ _, _, .int _ _] ?_
    refine zLI ?_
    refine zLc (hLn) ?_
    refine zLT [_, _] ?_
    refine zLI ?_
    refine zLI ?_
    refine zLI ?_
    refine zLI ?_
    refine zn ?_
    refine zs ?_
    refine zR ?_
    refine zLI ?_
    refine zLB ?_
    refine zLB ?_
    refine zgLI ?_
    refine zgLI ?_
    refine zgLB ?_
    refine zpLB ?_
    refine zn ?_
    refine W_cond_f (b := _) rfl (by exact hc46) ?_
    refine zk ?_
    refine zs ?_
    refine zR ?_
    refine zal [.int .i64 0, .int .i64 0, .bool false] 3 ?_
    refine zn ?_
    refine zs ?_
    refine zs ?_
    refine zR ?_
    refine zLG [.int _ _, .int _ _, .int _ _, .int _ _, .int _ _, _, .int _ _] ?_
    refine zLI ?_
    refine zLI ?_
    refine zLG [.int _ _, .int _ _] ?_
    refine zLc (bound_rows m op ch s f0) ?_
    refine zn ?_
    refine W_block ?_
    refine W_range (xs := rowsX m op ch s) rfl trivial rfl rfl hR rfl (fun x hx => by obtain ⟨k, hk⟩ := List.getElem?_of_mem hx; rw [(hX k x hk).2]; rfl)
      (fun k => ([(0, some ⟨26, 7, 0, [modelC m]⟩), (1, some ⟨28, 2, 0, [spanC s]⟩), (2, some ⟨3, 1, 0, [[.int .i64 d]]⟩), (3, some ⟨28, 2, 0, [[.int .i64 0, .int .i64 0]]⟩), (4, some ⟨127, 3, 0, [hullC (partH D (L.take k))]⟩)], [], 5))
      (le_fit trivial ⟨.inr rfl, .inr rfl, .inr rfl, .inr rfl, .inr rfl, trivial⟩ trivial rfl rfl rfl rfl rfl) ?_ ?_
    · intro k x hx
      obtain ⟨hk, rfl⟩ := hX k x hx
      have hr := hlen k hk
      have hnx : partH D (L.take (k + 1)) = (partG D (partH D (L.take k)) (L.getD k default) (L.getD k default).length).1 := take_fold _ _ hk
      generalize L.getD k default = r at *
      generalize partH D (L.take k) = H at *
      refine zR ?_
      refine zLO ?_
      refine zn ?_
      refine W_block ?_
      refine W_block ?_
      refine W_inv (ι := {p : Nat // p ≤ r.length ∧ (p % D = 0 ∨ p = r.length)}) (fun p => ⟨[(9, .ptr 2 0 0), (16, .ptr 4 0 0), (17, .ro ((r.drop p.1).map spanC))], [(0, some ⟨26, 7, 0, [modelC m]⟩), (1, some ⟨28, 2, 0, [spanC s]⟩), (2, some ⟨3, 1, 0, [[.int .i64 d]]⟩), (3, some ⟨28, 2, 0, [[.int .i64 0, .int .i64 0]]⟩), (4, some ⟨127, 3, 0, [hullC (partG D H r p.1).1]⟩)], [], 5⟩) (fun p => r.length - p.1) ⟨0, Nat.zero_le _, .inl (Nat.zero_mod _)⟩ (le_fit ⟨rfl, rfl, rfl, trivial⟩ ⟨.inr rfl, .inr rfl, .inr rfl, .inr rfl, .inr rfl, trivial⟩ trivial rfl rfl rfl rfl rfl) ?_
      rintro ⟨p, hp, hpm⟩
      dsimp only
      refine zs ?_
      refine zs ?_
      refine zR ?_
      refine zLO ?_
      refine zLI ?_
      refine zLB ?_
      refine zn ?_
      refine W_cond (b := _) rfl (fun h56 => ?_) (fun h56 => ?_)
      · have hlt : p < r.length := by have := of_decide_eq_true h56; rw [List.length_map, List.length_drop] at this; omega
        have hpm0 : p % D = 0 := by rcases hpm with h | h; exact h; omega
        obtain ⟨n, hn⟩ : ∃ n, n = min D (r.length - p) := ⟨_, rfl⟩
        have hn1 : 0 < n ∧ n ≤ D ∧ p + n ≤ r.length := by omega
        obtain ⟨G, Q, hG0, hQ0, hGs, hGn⟩ := part_block D H r hD0 hpm0 hn1.2.1 hn1.2.2
        have hmin : (if ((List.map spanC (List.drop p r)).length : Int) < d then ((List.map spanC (List.drop p r)).length : Int) else d) = (n : Int) := by rw [List.length_map, List.length_drop, hDd]; split <;> omega
        refine zk ?_
        refine W_block ?_
        refine zs ?_
        refine zR ?_
        refine zLI ?_
        refine zLO ?_
        refine zLI ?_
        refine zLI ?_
        refine zLI ?_
        refine zn ?_
        refine zs ?_
        refine zR ?_
        simp only [hmin]
        refine zLG [.int _ _, .int _ _] ?_
        refine zal [.int .i64 0, .int .i64 0] 2 ?_
        refine zst (.agg [.int _ _, .int _ _]) [_, _] [[_, _]] ?_
        refine zn ?_
        refine zs ?_
        refine zs ?_
        refine zR ?_
        refine zLO ?_
        refine zLI ?_
        refine L_slice_to Tb_ok (el := 28) (sz := 2) rfl rfl rfl rfl rfl (fun c hc => by obtain ⟨x, _, rfl⟩ := List.mem_map.1 hc; rfl) (by omega) (by omega) ⟨trivial, trivial⟩ rfl ?_
        simp only [Int.toNat_natCast, ← List.map_take]
        have hRl : ((r.drop p).take n).length = n := by rw [List.length_take, List.length_drop]; omega
        generalize (r.drop p).take n = R at *
        refine zLI ?_
        refine zLI ?_
        refine zn ?_
        refine W_block ?_
        refine W_for n (fun j => ⟨[(9, .ptr 2 0 0), (16, .ptr 4 0 0), (17, .ro ((r.drop p).map spanC)), (18, .int .i64 (n : Int)), (19, .ptr 5 0 0), (64, .ro (R.map spanC)), (65, .int .i64 ((R.map spanC).length : Int)), (66, .int .i64 (j : Int))], [(0, some ⟨26, 7, 0, [modelC m]⟩), (1, some ⟨28, 2, 0, [spanC s]⟩), (2, some ⟨3, 1, 0, [[.int .i64 d]]⟩), (3, some ⟨28, 2, 0, [[.int .i64 0, .int .i64 0]]⟩), (4, some ⟨127, 3, 0, [hullC (G j)]⟩), (5, some ⟨28, 2, 0, [spanC (Q j)]⟩)], [], 6⟩) (le_fit ⟨rfl, rfl, rfl, rfl, rfl, rfl, rfl, rfl, trivial⟩ ⟨.inr rfl, .inr rfl, .inr rfl, .inr rfl, .inr (by rw [hG0]; rfl), .inr (by rw [hQ0]; rfl), trivial⟩ trivial rfl rfl rfl rfl rfl) ?_
        intro j hj
        refine zs ?_
        refine zR ?_
        refine zLB ?_
        refine zn ?_
        refine zs ?_
        refine W_cond (b := _) rfl (fun h67 => ?_) (fun h67 => ?_)
        · have hjt : j < n := by have := of_decide_eq_true h67; rw [List.length_map, hRl] at this; omega
          refine zk ?_
          refine zs ?_
          refine W_block ?_
          refine zs ?_
          refine zR ?_
          (refine L_v Tb_ok (v := _) (ave_index_ro rfl rfl rfl (fun _ => rfl) rfl (by first | omega | (rw [hRl]; omega) | (rw [List.length_map, hRl]; omega)) (by first | omega | (rw [hRl]; omega) | (rw [List.length_map, hRl]; omega)) trivial) rfl ?_)
          refine zLG [.int _ _, .int _ _] ?_
          refine zal [.int .i64 0, .int .i64 0] 2 ?_
          refine zst (.agg [.int _ _, .int _ _]) [_, _] [[_, _]] ?_
          refine zn ?_
          refine zs ?_
          refine zR ?_
          refine zLG [.int _ _, .int _ _] ?_
          refine zLG [.int _ _, .int _ _] ?_
          refine zLc (bound_plus _ _) ?_
          refine zst (.agg [.int _ _, .int _ _]) [_, _] [[_, _]] ?_
          refine zn ?_
          refine zs ?_
          refine zR ?_
          refine zLG [.int _ _, .int _ _] ?_
          refine L_inl Tb_ok (fn := Try.f73) (e' := [(0, _), (1, _)]) Try.func73 rfl rfl rfl rfl rfl trivial (by decide) rfl ?_
          refine zs ?_
          refine zR ?_
          refine zbx [.int _ _, .int _ _] 2 ?_
          refine zn ?_
          refine zs ?_
          refine zs ?_
          refine zR ?_
          refine zLP ?_
          refine zLP ?_
          refine zLP ?_
          refine zLB ?_
          refine zn ?_
          refine W_ift (b := _) (M := ⟨[(0, .ptr 4 0 0), (3, .ptr 7 0 0)], [(0, some ⟨26, 7, 0, [modelC m]⟩), (1, some ⟨28, 2, 0, [spanC s]⟩), (2, some ⟨3, 1, 0, [[.int .i64 d]]⟩), (3, some ⟨28, 2, 0, [[.int .i64 0, .int .i64 0]]⟩), (4, some ⟨127, 3, 0, [hullC (G j)]⟩), (5, some ⟨28, 2, 0, [spanC (plusS (Q j) (R.getD j default))]⟩), (6, some ⟨28, 2, 0, [spanC (R.getD j default)]⟩), (7, some ⟨28, 2, 0, [spanC (bif (G j).some then ⟨mn (G j).Lo (plusS (Q j) (R.getD j default)).Lo, mx (G j).Hi (plusS (Q j) (R.getD j default)).Hi⟩ else plusS (Q j) (R.getD j default))]⟩)], [], 8⟩) (p := True) rfl (fun h7 => ?_) (fun h7 => ?_) (fun m7 => ?_)
          · refine W_draw 17 Tb_mixed rfl (by decide) (by kernel_rfl) (by kernel_rfl) ?_
            refine zEP ?_
            refine zEP ?_
            refine zEP ?_
            refine zEP ?_
            refine zEI ?_
            refine zEP ?_
            refine zEI ?_
            refine zEI ?_
            refine zEP ?_
            refine zEP ?_
            refine zEP ?_
            refine zEP ?_
            refine zEI ?_
            refine zEP ?_
            refine zEI ?_
            refine zEI ?_
            refine zEG [.int _ _, .int _ _] ?_
            refine LexE_nil ?_
            refine zst (.agg [.int _ _, .int _ _]) [_, _] [[_, _]] ?_
            refine zn ?_
            exact ⟨trivial, le_t (F := fun X => ⟨[(0, .ptr 4 0 0), (3, .ptr 7 0 0)], [(0, some ⟨26, 7, 0, [modelC m]⟩), (1, some ⟨28, 2, 0, [spanC s]⟩), (2, some ⟨3, 1, 0, [[.int .i64 d]]⟩), (3, some ⟨28, 2, 0, [[.int .i64 0, .int .i64 0]]⟩), (4, some ⟨127, 3, 0, [hullC (G j)]⟩), (5, some ⟨28, 2, 0, [spanC (plusS (Q j) (R.getD j default))]⟩), (6, some ⟨28, 2, 0, [spanC (R.getD j default)]⟩), (7, some ⟨28, 2, 0, [spanC X]⟩)], [], 8⟩) (x := ⟨mn (G j).Lo (plusS (Q j) (R.getD j default)).Lo, mx (G j).Hi (plusS (Q j) (R.getD j default)).Hi⟩) (y := plusS (Q j) (R.getD j default)) h7 (le_fit ⟨rfl, rfl, trivial⟩ ⟨.inr rfl, .inr rfl, .inr rfl, .inr rfl, .inr rfl, .inr rfl, .inr rfl, .inr rfl, trivial⟩ trivial rfl rfl rfl rfl rfl)⟩
          · refine zk ?_
            exact ⟨trivial, le_f (F := fun X => ⟨[(0, .ptr 4 0 0), (3, .ptr 7 0 0)], [(0, some ⟨26, 7, 0, [modelC m]⟩), (1, some ⟨28, 2, 0, [spanC s]⟩), (2, some ⟨3, 1, 0, [[.int .i64 d]]⟩), (3, some ⟨28, 2, 0, [[.int .i64 0, .int .i64 0]]⟩), (4, some ⟨127, 3, 0, [hullC (G j)]⟩), (5, some ⟨28, 2, 0, [spanC (plusS (Q j) (R.getD j default))]⟩), (6, some ⟨28, 2, 0, [spanC (R.getD j default)]⟩), (7, some ⟨28, 2, 0, [spanC X]⟩)], [], 8⟩) (x := ⟨mn (G j).Lo (plusS (Q j) (R.getD j default)).Lo, mx (G j).Hi (plusS (Q j) (R.getD j default)).Hi⟩) (y := plusS (Q j) (R.getD j default)) h7 (le_fit ⟨rfl, rfl, trivial⟩ ⟨.inr rfl, .inr rfl, .inr rfl, .inr rfl, .inr rfl, .inr rfl, .inr rfl, .inr rfl, trivial⟩ trivial rfl rfl rfl rfl rfl)⟩
          refine zR ?_
          refine zLP ?_
          refine zLP ?_
          refine zLG [.int _ _, .int _ _] ?_
          refine zLP ?_
          refine zLP ?_
          refine zst (.agg [.int _ _, .int _ _]) [_, _] _ ?_
          refine zLP ?_
          refine zLP ?_
          refine zst (.bool _) [_] _ ?_
          refine zn ?_
          refine endsW (by exact .inl rfl) rfl trivial rfl ?_
          refine zn ?_
          refine zR ?_
          refine zLG [.int _ _, .int _ _] ?_
          refine L_inl Tb_ok (fn := Try.f73) (e' := [(0, _), (1, _)]) Try.func73 rfl rfl rfl rfl rfl trivial (by decide) rfl ?_
          refine zs ?_
          refine zR ?_
          refine zbx [.int _ _, .int _ _] 2 ?_
          refine zn ?_
          refine zs ?_
          refine zs ?_
          refine zR ?_
          refine zLP ?_
          refine zLP ?_
          refine zLP ?_
          refine zLB ?_
          refine zn ?_
          refine W_ift (b := _) (M := ⟨[(0, .ptr 4 0 0), (3, .ptr 8 0 0)], [(0, some ⟨26, 7, 0, [modelC m]⟩), (1, some ⟨28, 2, 0, [spanC s]⟩), (2, some ⟨3, 1, 0, [[.int .i64 d]]⟩), (3, some ⟨28, 2, 0, [[.int .i64 0, .int .i64 0]]⟩), (4, some ⟨127, 3, 0, [hullC (takeH (G j) (plusS (Q j) (R.getD j default)))]⟩), (5, some ⟨28, 2, 0, [spanC (plusS (Q j) (R.getD j default))]⟩), (6, some ⟨28, 2, 0, [spanC (R.getD j default)]⟩), (8, some ⟨28, 2, 0, [spanC (bif (takeH (G j) (plusS (Q j) (R.getD j default))).some then ⟨mn (takeH (G j) (plusS (Q j) (R.getD j default))).Lo (R.getD j default).Lo, mx (takeH (G j) (plusS (Q j) (R.getD j default))).Hi (R.getD j default).Hi⟩ else R.getD j default)]⟩)], [], 9⟩) (p := True) rfl (fun h7_1 => ?_) (fun h7_1 => ?_) (fun m7 => ?_)
          · refine W_draw 17 Tb_mixed rfl (by decide) (by kernel_rfl) (by kernel_rfl) ?_
            refine zEP ?_
            refine zEP ?_
            refine zEP ?_
            refine zEP ?_
            refine zEI ?_
            refine zEP ?_
            refine zEI ?_
            refine zEI ?_
            refine zEP ?_
            refine zEP ?_
            refine zEP ?_
            refine zEP ?_
            refine zEI ?_
            refine zEP ?_
            refine zEI ?_
            refine zEI ?_
            refine zEG [.int _ _, .int _ _] ?_
            refine LexE_nil ?_
            refine zst (.agg [.int _ _, .int _ _]) [_, _] [[_, _]] ?_
            refine zn ?_
            exact ⟨trivial, le_t (F := fun X => ⟨[(0, .ptr 4 0 0), (3, .ptr 8 0 0)], [(0, some ⟨26, 7, 0, [modelC m]⟩), (1, some ⟨28, 2, 0, [spanC s]⟩), (2, some ⟨3, 1, 0, [[.int .i64 d]]⟩), (3, some ⟨28, 2, 0, [[.int .i64 0, .int .i64 0]]⟩), (4, some ⟨127, 3, 0, [hullC (takeH (G j) (plusS (Q j) (R.getD j default)))]⟩), (5, some ⟨28, 2, 0, [spanC (plusS (Q j) (R.getD j default))]⟩), (6, some ⟨28, 2, 0, [spanC (R.getD j default)]⟩), (8, some ⟨28, 2, 0, [spanC X]⟩)], [], 9⟩) (x := ⟨mn (takeH (G j) (plusS (Q j) (R.getD j default))).Lo (R.getD j default).Lo, mx (takeH (G j) (plusS (Q j) (R.getD j default))).Hi (R.getD j default).Hi⟩) (y := R.getD j default) h7_1 (le_fit ⟨rfl, rfl, trivial⟩ ⟨.inr rfl, .inr rfl, .inr rfl, .inr rfl, .inr rfl, .inr rfl, .inr rfl, .inr rfl, trivial⟩ trivial rfl rfl rfl rfl rfl)⟩
          · refine zk ?_
            exact ⟨trivial, le_f (F := fun X => ⟨[(0, .ptr 4 0 0), (3, .ptr 8 0 0)], [(0, some ⟨26, 7, 0, [modelC m]⟩), (1, some ⟨28, 2, 0, [spanC s]⟩), (2, some ⟨3, 1, 0, [[.int .i64 d]]⟩), (3, some ⟨28, 2, 0, [[.int .i64 0, .int .i64 0]]⟩), (4, some ⟨127, 3, 0, [hullC (takeH (G j) (plusS (Q j) (R.getD j default)))]⟩), (5, some ⟨28, 2, 0, [spanC (plusS (Q j) (R.getD j default))]⟩), (6, some ⟨28, 2, 0, [spanC (R.getD j default)]⟩), (8, some ⟨28, 2, 0, [spanC X]⟩)], [], 9⟩) (x := ⟨mn (takeH (G j) (plusS (Q j) (R.getD j default))).Lo (R.getD j default).Lo, mx (takeH (G j) (plusS (Q j) (R.getD j default))).Hi (R.getD j default).Hi⟩) (y := R.getD j default) h7_1 (le_fit ⟨rfl, rfl, trivial⟩ ⟨.inr rfl, .inr rfl, .inr rfl, .inr rfl, .inr rfl, .inr rfl, .inr rfl, .inr rfl, trivial⟩ trivial rfl rfl rfl rfl rfl)⟩
          refine zR ?_
          refine zLP ?_
          refine zLP ?_
          refine zLG [.int _ _, .int _ _] ?_
          refine zLP ?_
          refine zLP ?_
          refine zst (.agg [.int _ _, .int _ _]) [_, _] _ ?_
          refine zLP ?_
          refine zLP ?_
          refine zst (.bool _) [_] _ ?_
          refine zn ?_
          refine endsW (by exact .inl rfl) rfl trivial rfl ?_
          refine zn ?_
          refine zR ?_
          refine zLI ?_
          refine zLI ?_
          refine zn ?_
          refine for_end hjt (le_fit ⟨rfl, rfl, rfl, rfl, rfl, rfl, rfl, congrArg _ (w_succ hjt (by omega)), trivial⟩ ⟨.inr rfl, .inr rfl, .inr rfl, .inr rfl, .inr ?_, .inr ?_, trivial⟩ trivial rfl rfl rfl rfl rfl)
          · rw [(hGs j hjt).1]; rfl
          · rw [(hGs j hjt).2]; rfl
        · have hje : j = n := by have := of_decide_eq_false h67; rw [List.length_map, hRl] at this; omega
          refine W_exit ?_
          repeat (first | refine pass_then ?_ | refine pass_for ?_)
          refine blockQ_hit ?_
          refine zR ?_
          refine zLO ?_
          refine zLI ?_
          refine L_slice_from Tb_ok (el := 28) (sz := 2) rfl rfl rfl rfl rfl (fun c hc => by obtain ⟨x, _, rfl⟩ := List.mem_map.1 hc; rfl) (by omega) (by omega) ⟨trivial, trivial⟩ rfl ?_
          refine zLO ?_
          refine zn ?_
          refine round_end (Q := fun _ _ => True) ⟨p + n, hn1.2.2, ?_⟩ (by dsimp only; omega) (le_fit ⟨rfl, rfl, congrArg AV.ro ?_, trivial⟩ ⟨.inr rfl, .inr rfl, .inr rfl, .inr rfl, .inr ?_, trivial⟩ trivial rfl rfl rfl rfl rfl)
          · by_cases c : D ≤ r.length - p
            · left; rw [show n = D by omega, Nat.add_mod_right]; exact hpm0
            · right; omega
          · rw [Int.toNat_natCast, ← List.map_drop, List.drop_drop]
          · show some (Ob.mk 127 3 0 [hullC (G j)]) = some (Ob.mk 127 3 0 [hullC (partG D H r (p + n)).1])
            rw [hje, hGn]
      · have hpe : p = r.length := by have := of_decide_eq_false h56; rw [List.length_map, List.length_drop] at this; omega
        refine W_exit ?_
        repeat (first | refine pass_then ?_ | refine pass_round ?_)
        refine blockQ_hit ?_
        refine le_fit trivial ⟨.inr rfl, .inr rfl, .inr rfl, .inr rfl, .inr ?_, trivial⟩ trivial rfl rfl rfl rfl rfl
        show some (Ob.mk 127 3 0 [hullC (partG D H r p).1]) = _
        rw [hpe, hnx]
    refine zs ?_
    refine zR ?_
    refine zLP ?_
    refine zLG [.int _ _, .int _ _] ?_
    refine zst (.agg [.int _ _, .int _ _]) [_, _] [[_, _]] ?_
    refine zLI ?_
    refine zn ?_
    refine zt ?_
    refine ends (l := [.agg [.int _ _, .int _ _], .int _ _]) (q := .tup [.agg [.int _ _, .int _ _], .int _ _]) (.inr rfl) rfl ⟨rfl, trivial, trivial⟩ rfl rfl ?_
    rw [partS, if_pos he, he, hL, hXl, List.take_length, ← hD]; rfl
theorem bound_Product (m : Model) (hm : m.Wf) (op ch : Int) (s : Span) : Ok Try.prog 32 [.agg (modelC m), .int .i64 op, .int .i64 ch, .agg (spanC s)] (.tup [.agg (spanC (partS m op ch s 1)), .int .i64 (partE m op ch s 1)]) := by
  refine fn_ok Tb_ok (fn := Try.f32) Try.func32 rfl rfl (e := [(0, _), (1, _), (2, _), (3, _)]) rfl (by decide) rfl ?_
  refine zs ?_
  refine zR ?_
  refine zbx [.int _ _, .int _ _, .int _ _, .int _ _, .int _ _, _, .int _ _] 7 ?_
  refine zbx [.int _ _, .int _ _] 2 ?_
  refine zal [.int .i64 0, .int .i64 0] 2 ?_
  refine zLI ?_
  refine zn ?_
  refine zs ?_
  refine zR ?_
  refine zLG [.int _ _, .int _ _, .int _ _, .int _ _, .int _ _, _, .int _ _] ?_
  refine zLI ?_
  refine zLI ?_
  refine zLG [.int _ _, .int _ _] ?_
  refine zLc (bound_Part m hm op ch s 1) ?_
  refine zLG [.int _ _, .int _ _] ?_
  refine zLI ?_
  refine zst (.agg [.int _ _, .int _ _]) [_, _] [[_, _]] ?_
  refine zLI ?_
  refine zn ?_
  refine zt ?_
  refine ends (l := [.agg [.int _ _, .int _ _], .int _ _]) (q := .tup [.agg [.int _ _, .int _ _], .int _ _]) (.inr rfl) rfl ⟨rfl, trivial, trivial⟩ rfl rfl ?_
  rfl
end Go.AM
end
section
open Go Go.AM Go.Proofs
set_option maxRecDepth 10000
set_option linter.unusedVariables false
set_option linter.unusedSimpArgs false
namespace Go.AM
theorem mp_terms : termsF mPlain 1 1 0 = [⟨3, 0⟩, ⟨-2, 1⟩] := by decide +kernel
theorem mp_ofE : ofE mPlain 1 1 0 = 0 := by decide +kernel
theorem mp_bias : biasF mPlain 1 1 0 = 1 := by decide +kernel
end Go.AM
end
section
open Go Go.AM Go.Proofs
set_option maxRecDepth 10000
set_option linter.unusedVariables false
set_option linter.unusedSimpArgs false
namespace Go.AM
theorem ref03_Values (s : Span) : Ok Try.prog 41 [.agg (spanC s)] (.bool (!qBad s)) := by
  refine fn_ok Tb_ok (fn := Try.f41) Try.func41 rfl rfl (e := [(0, _)]) rfl (by decide) rfl ?_
  refine zs ?_
  refine zR ?_
  refine zbx [.int _ _, .int _ _] 2 ?_
  refine zLB ?_
  refine zn ?_
  refine zs ?_
  refine zR ?_
  refine zLP ?_
  refine zLI ?_
  refine zLB ?_
  refine zLB ?_
  refine zgLP ?_
  refine zgLI ?_
  refine zgLP ?_
  refine zgLI ?_
  refine zgLB ?_
  refine zpLB ?_
  refine zLB ?_
  refine zgLP ?_
  refine zgLI ?_
  refine zgLB ?_
  refine zpLB ?_
  refine zLB ?_
  refine zn ?_
  refine zt ?_
  refine ends (l := [.bool _]) (q := .bool _) (.inr rfl) rfl ⟨trivial, trivial⟩ rfl rfl ?_
  unfold qBad
  have d1 : decide (s.Lo ≥ -128) = !decide (s.Lo < -128) := by by_cases h : s.Lo < -128 <;> simp [h] <;> omega
  have d2 : decide (s.Lo ≤ s.Hi) = !decide (s.Lo > s.Hi) := by by_cases h : s.Lo > s.Hi <;> simp [h] <;> omega
  have d3 : decide (s.Hi ≤ 127) = !decide (s.Hi > 127) := by by_cases h : s.Hi > 127 <;> simp [h] <;> omega
  rw [d1, d2, d3]
  cases decide (s.Lo < -128) <;> cases decide (s.Lo > s.Hi) <;> cases decide (s.Hi > 127) <;> rfl
def rReach (o : MOp) (s : Span) : Int := bif decide (w64 (w64 (w64 (o.Win.Top + o.Win.Left) + o.Win.Bottom) + o.Win.Right) > 0) then mx (mx (mx s.Lo (w64 (0 - s.Lo))) (mx s.Hi (w64 (0 - s.Hi)))) (mx o.Pad (w64 (0 - o.Pad))) else mx (mx s.Lo (w64 (0 - s.Lo))) (mx s.Hi (w64 (0 - s.Hi)))
def rUp (l : List Term) : Int := l.foldl (fun s t => if t.W > 0 then w64 (s + t.W) else s) 0
def rDown (l : List Term) : Int := l.foldl (fun s t => if t.W > 0 then s else w64 (s + t.W)) 0
/-- the sums are the same -/
theorem rUp_eq (l : List Term) (h : ∀ t ∈ l, -32768 ≤ t.W ∧ t.W ≤ 32767) (hl : l.length ≤ 512) : rUp l = upF l ∧ rDown l = downF l := by
  have up : ∀ (l : List Term), (∀ t ∈ l, -32768 ≤ t.W ∧ t.W ≤ 32767) → ∀ s : Int, 0 ≤ s → s + 32767 * l.length ≤ 4611686018427387904 → l.foldl (fun s t => if t.W > 0 then w64 (s + t.W) else s) s = l.foldl (fun s t => w64 (s + mx t.W 0)) s := by
    intro l
    induction l with
    | nil => intro _ s _ _; rfl
    | cons t r ih =>
      intro h s h0 h1
      have ht := h t (by simp)
      have hlen : ((t :: r).length : Int) = r.length + 1 := by simp
      rw [hlen] at h1
      rw [List.foldl_cons, List.foldl_cons]
      have e : (if t.W > 0 then w64 (s + t.W) else s) = w64 (s + mx t.W 0) := by
        rw [mx_eq]
        split
        · rw [Int.max_eq_left (by omega)]
        · rw [Int.max_eq_right (by omega), Int.add_zero]; exact (w64_id (by omega)).symm
      rw [e]
      have hm : 0 ≤ mx t.W 0 ∧ mx t.W 0 ≤ 32767 := by rw [mx_eq]; omega
      exact ih (fun u hu => h u (by simp [hu])) _ (by rw [show w64 _ = _ from w64_id (by omega)]; omega) (by rw [show w64 _ = _ from w64_id (by omega)]; omega)
  have down : ∀ (l : List Term), (∀ t ∈ l, -32768 ≤ t.W ∧ t.W ≤ 32767) → ∀ s : Int, s ≤ 0 → -4611686018427387904 ≤ s - 32768 * l.length → l.foldl (fun s t => if t.W > 0 then s else w64 (s + t.W)) s = l.foldl (fun s t => w64 (s + mn t.W 0)) s := by
    intro l
    induction l with
    | nil => intro _ s _ _; rfl
    | cons t r ih =>
      intro h s h0 h1
      have ht := h t (by simp)
      have hlen : ((t :: r).length : Int) = r.length + 1 := by simp
      rw [hlen] at h1
      rw [List.foldl_cons, List.foldl_cons]
      have e : (if t.W > 0 then s else w64 (s + t.W)) = w64 (s + mn t.W 0) := by
        rw [mn_eq]
        split
        · rw [Int.min_eq_right (by omega), Int.add_zero]; exact (w64_id (by omega)).symm
        · rw [Int.min_eq_left (by omega)]
      rw [e]
      have hm : mn t.W 0 ≤ 0 ∧ -32768 ≤ mn t.W 0 := by rw [mn_eq]; omega
      exact ih (fun u hu => h u (by simp [hu])) _ (by rw [show w64 _ = _ from w64_id (by omega)]; omega) (by rw [show w64 _ = _ from w64_id (by omega)]; omega)
  exact ⟨up l h 0 (by omega) (by omega), down l h 0 (by omega) (by omega)⟩
theorem rReach_eq {S : Site} (hS : SiteOk S) {s : Span} (hs : -128 ≤ s.Lo ∧ s.Lo ≤ s.Hi ∧ s.Hi ≤ 127) : rReach S.Op s = reachV S.Op s := by
  have hp := (pad_bd hS).1
  have e1 : w64 (0 - s.Lo) = -s.Lo := by rw [show w64 _ = _ from w64_id (by omega)]; omega
  have e2 : w64 (0 - s.Hi) = -s.Hi := by rw [show w64 _ = _ from w64_id (by omega)]; omega
  have e3 : w64 (0 - S.Op.Pad) = -S.Op.Pad := by rw [show w64 _ = _ from w64_id (by omega)]; omega
  have hW : (0 ≤ S.Op.Win.Top ∧ S.Op.Win.Top ≤ 32) ∧ (0 ≤ S.Op.Win.Left ∧ S.Op.Win.Left ≤ 32) ∧ (0 ≤ S.Op.Win.Bottom ∧ S.Op.Win.Bottom ≤ 32) ∧ (0 ≤ S.Op.Win.Right ∧ S.Op.Win.Right ≤ 32) := by
    by_cases k1 : S.Op.Kind = 1
    · have he := hS.emp
      unfold op3 at he
      simp only [k1, ofU, bareF, bare8, bare7, bare6, bare5, bare4, bare3, bare2, bare1, emptyB, winEq] at he
      simp at he
      omega
    · have W := windowB_iff (hS.win k1).1; omega
  have eP : qPads S.Op.Win = decide (w64 (w64 (w64 (S.Op.Win.Top + S.Op.Win.Left) + S.Op.Win.Bottom) + S.Op.Win.Right) > 0) := by
    rw [show w64 (S.Op.Win.Top + S.Op.Win.Left) = _ from w64_id (by omega), show w64 (S.Op.Win.Top + S.Op.Win.Left + S.Op.Win.Bottom) = _ from w64_id (by omega), show w64 _ = _ from w64_id (by omega)]
    unfold qPads
    simp only [mx_eq]
    exact decide_eq_decide.2 (by omega)
  unfold rReach reachV
  rw [← eP, e1, e2, e3]
  simp only [mx_eq]
  cases qPads S.Op.Win <;> simp <;> omega
end Go.AM
end
section
open Go Go.AM Go.Proofs
set_option maxRecDepth 10000
set_option linter.unusedVariables false
set_option linter.unusedSimpArgs false
namespace Go.AM
theorem mul_small {a b : Int} (ha : -32768 ≤ a ∧ a ≤ 32767) (hb : -128 ≤ b ∧ b ≤ 127) : -4194304 ≤ a * b ∧ a * b ≤ 4194304 := by
  have h := Nat.mul_le_mul (show a.natAbs ≤ 32768 by omega) (show b.natAbs ≤ 128 by omega)
  rw [← Int.natAbs_mul] at h; omega
theorem ends_eq {w a b : Int} (hw : -32768 ≤ w ∧ w ≤ 32767) (h : a ≤ b) (ha : -128 ≤ a ∧ a ≤ 127) (hb : -128 ≤ b ∧ b ≤ 127) : mn (w64 (w * a)) (w64 (w * b)) = (tmS ⟨a, b⟩ w).Lo ∧ mx (w64 (w * a)) (w64 (w * b)) = (tmS ⟨a, b⟩ w).Hi := by
  have h1 := mul_small hw ha
  have h2 := mul_small hw hb
  rw [show w64 (w * a) = w * a from w64_id (by omega), show w64 (w * b) = w * b from w64_id (by omega), mn_eq, mx_eq]
  unfold tmS
  by_cases c : w < 0
  · have : w * b ≤ w * a := Int.mul_le_mul_of_nonpos_left (by omega) h
    rw [if_pos c]; dsimp only; rw [Int.mul_comm b w, Int.mul_comm a w]; omega
  · have : w * a ≤ w * b := Int.mul_le_mul_of_nonneg_left h (by omega)
    rw [if_neg c]; dsimp only; rw [Int.mul_comm b w, Int.mul_comm a w]; omega
theorem ref13_Ends (S : Site) (t : Term) (s : Span) (hs : -128 ≤ s.Lo ∧ s.Lo ≤ s.Hi ∧ s.Hi ≤ 127) (hw : -32768 ≤ t.W ∧ t.W ≤ 32767) (hp : -128 ≤ S.Op.Pad ∧ S.Op.Pad ≤ 127) : Ok Try.prog 79 [.agg (rsiteC S), .agg (termC t), .agg (spanC s)] (.agg (spanC (endF S.Op.Pad s t))) := by
  obtain ⟨a1, a2⟩ := ends_eq hw hs.2.1 (by omega) (by omega)
  obtain ⟨b1, b2⟩ := ends_eq hw (Int.le_refl S.Op.Pad) hp hp
  refine fn_ok Tb_ok (fn := Try.f79) Try.func79 rfl rfl (e := [(0, _), (1, _), (2, _)]) rfl (by decide) rfl ?_
  refine zs ?_
  refine zR ?_
  refine zbx [.int _ _, .int _ _, .int _ _, .int _ _, .int _ _, .int _ _, .int _ _, .int _ _, .int _ _, .int _ _, .int _ _, .int _ _, _, _, .int _ _, .int _ _, .int _ _, .int _ _, .int _ _, .int _ _, .int _ _, .int _ _, .int _ _, .int _ _, .int _ _, .int _ _, .int _ _, .int _ _] 28 ?_
  refine zbx [.int _ _, .int _ _] 2 ?_
  refine zbx [.int _ _, .int _ _] 2 ?_
  refine zal [.int .i64 0, .int .i64 0] 2 ?_
  refine zn ?_
  refine zs ?_
  refine W_draw 12 Tb_mixed rfl (by decide) (by kernel_rfl) (by kernel_rfl) ?_
  refine zEP ?_
  refine zEI ?_
  refine zEP ?_
  refine zEI ?_
  refine zEI ?_
  refine zEP ?_
  refine zEI ?_
  refine zEP ?_
  refine zEI ?_
  refine zEI ?_
  refine zEI ?_
  refine zEI ?_
  refine LexE_nil ?_
  refine zn ?_
  refine zs ?_
  refine zs ?_
  refine zR ?_
  refine zLP ?_
  refine zLI ?_
  refine zLB ?_
  refine zn ?_
  refine W_cond (b := _) rfl (fun h21 => ?_) (fun h21 => ?_)
  · refine zs ?_
    refine zR ?_
    refine zLP ?_
    refine zLI ?_
    refine zLP ?_
    refine zLP ?_
    refine zLI ?_
    refine zLI ?_
    refine zLI ?_
    refine zn ?_
    refine zR ?_
    refine zLI ?_
    refine zLI ?_
    refine zn ?_
    refine zs ?_
    refine zR ?_
    refine zLI ?_
    refine zLI ?_
    refine zLI ?_
    refine zLI ?_
    refine zLI ?_
    refine zLI ?_
    refine zLG [.int _ _, .int _ _] ?_
    refine zst (.agg [.int _ _, .int _ _]) [_, _] [[_, _]] ?_
    refine zn ?_
    refine zt ?_
    refine ends (l := [.agg [.int _ _, .int _ _]]) (q := .agg [.int _ _, .int _ _]) (.inr rfl) rfl ⟨rfl, trivial⟩ rfl rfl ?_
    have c : t.At < 0 := by simpa using h21
    have e : endF S.Op.Pad s t = ⟨mn (w64 (t.W * S.Op.Pad)) (w64 (t.W * S.Op.Pad)), mx (w64 (t.W * S.Op.Pad)) (w64 (t.W * S.Op.Pad))⟩ := by unfold endF; rw [if_pos c, b1, b2]
    rw [e]; rfl
  · refine zk ?_
    refine zs ?_
    refine zR ?_
    refine zLI ?_
    refine zLI ?_
    refine zLI ?_
    refine zLI ?_
    refine zLI ?_
    refine zLI ?_
    refine zLG [.int _ _, .int _ _] ?_
    refine zst (.agg [.int _ _, .int _ _]) [_, _] [[_, _]] ?_
    refine zn ?_
    refine zt ?_
    refine ends (l := [.agg [.int _ _, .int _ _]]) (q := .agg [.int _ _, .int _ _]) (.inr rfl) rfl ⟨rfl, trivial⟩ rfl rfl ?_
    have c : ¬ t.At < 0 := by simpa using h21
    have e : endF S.Op.Pad s t = ⟨mn (w64 (t.W * s.Lo)) (w64 (t.W * s.Hi)), mx (w64 (t.W * s.Lo)) (w64 (t.W * s.Hi))⟩ := by unfold endF; rw [if_neg c, a1, a2]
    rw [e]; rfl
theorem ref13_plus (a b : Span) : Ok Try.prog 45 [.agg (spanC a), .agg (spanC b)] (.agg (spanC (plusS a b))) := by
  refine fn_ok Tb_ok (fn := Try.f45) Try.func45 rfl rfl (e := [(0, _), (1, _)]) rfl (by decide) rfl ?_
  refine zs ?_
  refine zR ?_
  refine zbx [.int _ _, .int _ _] 2 ?_
  refine zbx [.int _ _, .int _ _] 2 ?_
  refine zal [.int .i64 0, .int .i64 0] 2 ?_
  refine zn ?_
  refine zs ?_
  refine zR ?_
  refine zLP ?_
  refine zLI ?_
  refine zLP ?_
  refine zLI ?_
  refine zLI ?_
  refine zLP ?_
  refine zLI ?_
  refine zLP ?_
  refine zLI ?_
  refine zLI ?_
  refine zLG [.int _ _, .int _ _] ?_
  refine zst (.agg [.int _ _, .int _ _]) [_, _] [[_, _]] ?_
  refine zn ?_
  refine zt ?_
  refine ends (l := [.agg [.int _ _, .int _ _]]) (q := .agg [.int _ _, .int _ _]) (.inr rfl) rfl ⟨rfl, trivial⟩ rfl rfl ?_
  rfl
theorem ref13_begin (S : Site) (ch b : Int) (hB : Ok Try.prog 80 [.agg (rsiteC S), .int .i64 ch] (.int .i64 b)) : Ok Try.prog 44 [.agg (rsiteC S), .int .i64 ch] (.agg (spanC ⟨b, b⟩)) := by
  refine fn_ok Tb_ok (fn := Try.f44) Try.func44 rfl rfl (e := [(0, _), (1, _)]) rfl (by decide) rfl ?_
  refine zs ?_
  refine zR ?_
  refine zbx [.int _ _, .int _ _, .int _ _, .int _ _, .int _ _, .int _ _, .int _ _, .int _ _, .int _ _, .int _ _, .int _ _, .int _ _, _, _, .int _ _, .int _ _, .int _ _, .int _ _, .int _ _, .int _ _, .int _ _, .int _ _, .int _ _, .int _ _, .int _ _, .int _ _, .int _ _, .int _ _] 28 ?_
  refine zal [.int .i64 0, .int .i64 0] 2 ?_
  refine zn ?_
  refine zs ?_
  refine W_draw 7 Tb_mixed rfl (by decide) (by kernel_rfl) (by kernel_rfl) ?_
  refine zEG [.int _ _, .int _ _, .int _ _, .int _ _, .int _ _, .int _ _, .int _ _, .int _ _, .int _ _, .int _ _, .int _ _, .int _ _, _, _, .int _ _, .int _ _, .int _ _, .int _ _, .int _ _, .int _ _, .int _ _, .int _ _, .int _ _, .int _ _, .int _ _, .int _ _, .int _ _, .int _ _] ?_
  refine zEI ?_
  refine zEc (hB) ?_
  refine zEG [.int _ _, .int _ _, .int _ _, .int _ _, .int _ _, .int _ _, .int _ _, .int _ _, .int _ _, .int _ _, .int _ _, .int _ _, _, _, .int _ _, .int _ _, .int _ _, .int _ _, .int _ _, .int _ _, .int _ _, .int _ _, .int _ _, .int _ _, .int _ _, .int _ _, .int _ _, .int _ _] ?_
  refine zEI ?_
  refine zEc (hB) ?_
  refine zEG [.int _ _, .int _ _] ?_
  refine LexE_nil ?_
  refine zst (.agg [.int _ _, .int _ _]) [_, _] [[_, _]] ?_
  refine zn ?_
  refine zt ?_
  refine ends (l := [.agg [.int _ _, .int _ _]]) (q := .agg [.int _ _, .int _ _]) (.inr rfl) rfl ⟨rfl, trivial⟩ rfl rfl ?_
  rfl
theorem holds_q (s : Span) : holdsF ⟨-128, 127⟩ s = !qBad s := by
  unfold holdsF qBad
  by_cases a : s.Lo < -128 <;> by_cases b : s.Lo > s.Hi <;> by_cases c : s.Hi > 127 <;> simp [a, b, c] <;> omega
theorem ref13_Find (m : Model) (hm : m.Wf) (op ch : Int) (s : Span) : Ok Try.prog 16 [.agg (modelC m), .int .i64 op, .int .i64 ch, .agg (spanC s)] (.tup [.agg (rsiteC (rcS m op ch)), .int .i64 (askE m op ch s)]) := by
  have hE := ofE_rc0 (m := m) (op := op) (ch := ch)
  refine fn_ok Tb_ok (fn := Try.f16) Try.func16 rfl rfl (e := [(0, _), (1, _), (2, _), (3, _)]) rfl (by decide) rfl ?_
  refine zs ?_
  refine zR ?_
  refine zbx [.int _ _, .int _ _, .int _ _, .int _ _, .int _ _, _, .int _ _] 7 ?_
  refine zbx [.int _ _, .int _ _] 2 ?_
  refine zal [.int .i64 0, .int .i64 0, .int .i64 0, .int .i64 0, .int .i64 0, .int .i64 0, .int .i64 0, .int .i64 0, .int .i64 0, .int .i64 0, .int .i64 0, .int .i64 0, .nils, .nils, .int .i64 0, .int .i64 0, .int .i64 0, .int .i64 0, .int .i64 0, .int .i64 0, .int .i64 0, .int .i64 0, .int .i64 0, .int .i64 0, .int .i64 0, .int .i64 0, .int .i64 0, .int .i64 0] 28 ?_
  refine zLI ?_
  refine zn ?_
  refine zs ?_
  refine zR ?_
  refine zLG [.int _ _, .int _ _, .int _ _, .int _ _, .int _ _, _, .int _ _] ?_
  refine zLI ?_
  refine zLI ?_
  refine zLc (ref10_FindChan m hm op ch) ?_
  refine zLT [_, _] ?_
  refine zLG [.int _ _, .int _ _, .int _ _, .int _ _, .int _ _, .int _ _, .int _ _, .int _ _, .int _ _, .int _ _, .int _ _, .int _ _, _, _, .int _ _, .int _ _, .int _ _, .int _ _, .int _ _, .int _ _, .int _ _, .int _ _, .int _ _, .int _ _, .int _ _, .int _ _, .int _ _, .int _ _] ?_
  refine zLI ?_
  refine zal [.int .i64 0, .int .i64 0, .int .i64 0, .int .i64 0, .int .i64 0, .int .i64 0, .int .i64 0, .int .i64 0, .int .i64 0, .int .i64 0, .int .i64 0, .int .i64 0, .nils, .nils, .int .i64 0, .int .i64 0, .int .i64 0, .int .i64 0, .int .i64 0, .int .i64 0, .int .i64 0, .int .i64 0, .int .i64 0, .int .i64 0, .int .i64 0, .int .i64 0, .int .i64 0, .int .i64 0] 28 ?_
  refine zst (.agg [.int _ _, .int _ _, .int _ _, .int _ _, .int _ _, .int _ _, .int _ _, .int _ _, .int _ _, .int _ _, .int _ _, .int _ _, _, _, .int _ _, .int _ _, .int _ _, .int _ _, .int _ _, .int _ _, .int _ _, .int _ _, .int _ _, .int _ _, .int _ _, .int _ _, .int _ _, .int _ _]) [_, _, _, _, _, _, _, _, _, _, _, _, _, _, _, _, _, _, _, _, _, _, _, _, _, _, _, _] [[_, _, _, _, _, _, _, _, _, _, _, _, _, _, _, _, _, _, _, _, _, _, _, _, _, _, _, _]] ?_
  refine zLI ?_
  refine zn ?_
  refine zs ?_
  refine zs ?_
  refine zR ?_
  refine zLI ?_
  refine zLB ?_
  refine zLB ?_
  refine zgLG [.int _ _, .int _ _] ?_
  refine L_callg (hr := fun hg => ref03_Values s) rfl rfl rfl rfl rfl (fun hg => ⟨⟨(by exact hg), True.intro⟩, True.intro⟩) rfl rfl ?_
  refine zgLB ?_
  refine zpLB ?_
  refine zn ?_
  refine W_cond (b := _) rfl (fun h25 => ?_) (fun h25 => ?_)
  · refine zR ?_
    refine zLI ?_
    refine zn ?_
    refine zs ?_
    refine zR ?_
    refine zLG [.int _ _, .int _ _, .int _ _, .int _ _, .int _ _, .int _ _, .int _ _, .int _ _, .int _ _, .int _ _, .int _ _, .int _ _, _, _, .int _ _, .int _ _, .int _ _, .int _ _, .int _ _, .int _ _, .int _ _, .int _ _, .int _ _, .int _ _, .int _ _, .int _ _, .int _ _, .int _ _] ?_
    refine zLI ?_
    refine zst (.agg [.int _ _, .int _ _, .int _ _, .int _ _, .int _ _, .int _ _, .int _ _, .int _ _, .int _ _, .int _ _, .int _ _, .int _ _, _, _, .int _ _, .int _ _, .int _ _, .int _ _, .int _ _, .int _ _, .int _ _, .int _ _, .int _ _, .int _ _, .int _ _, .int _ _, .int _ _, .int _ _]) [_, _, _, _, _, _, _, _, _, _, _, _, _, _, _, _, _, _, _, _, _, _, _, _, _, _, _, _] [[_, _, _, _, _, _, _, _, _, _, _, _, _, _, _, _, _, _, _, _, _, _, _, _, _, _, _, _]] ?_
    refine zLI ?_
    refine zn ?_
    refine zt ?_
    refine ends (l := [.agg [.int _ _, .int _ _, .int _ _, .int _ _, .int _ _, .int _ _, .int _ _, .int _ _, .int _ _, .int _ _, .int _ _, .int _ _, _, _, .int _ _, .int _ _, .int _ _, .int _ _, .int _ _, .int _ _, .int _ _, .int _ _, .int _ _, .int _ _, .int _ _, .int _ _, .int _ _, .int _ _], .int _ _]) (q := .tup [.agg [.int _ _, .int _ _, .int _ _, .int _ _, .int _ _, .int _ _, .int _ _, .int _ _, .int _ _, .int _ _, .int _ _, .int _ _, _, _, .int _ _, .int _ _, .int _ _, .int _ _, .int _ _, .int _ _, .int _ _, .int _ _, .int _ _, .int _ _, .int _ _, .int _ _, .int _ _, .int _ _], .int _ _]) (.inr rfl) rfl ⟨rfl, trivial, trivial⟩ rfl rfl ?_
    have h' : (bif rcE m op ch == 0 then !!qBad s else false) = true := h25
    by_cases z : rcE m op ch = 0
    · have hq : qBad s = true := by simpa [z] using h'
      rw [show askE m op ch s = 30 by simp [askE, hE, z, holds_q, hq]]; rfl
    · simp [z] at h'
  · refine zk ?_
    refine zs ?_
    refine zR ?_
    refine zLG [.int _ _, .int _ _, .int _ _, .int _ _, .int _ _, .int _ _, .int _ _, .int _ _, .int _ _, .int _ _, .int _ _, .int _ _, _, _, .int _ _, .int _ _, .int _ _, .int _ _, .int _ _, .int _ _, .int _ _, .int _ _, .int _ _, .int _ _, .int _ _, .int _ _, .int _ _, .int _ _] ?_
    refine zLI ?_
    refine zst (.agg [.int _ _, .int _ _, .int _ _, .int _ _, .int _ _, .int _ _, .int _ _, .int _ _, .int _ _, .int _ _, .int _ _, .int _ _, _, _, .int _ _, .int _ _, .int _ _, .int _ _, .int _ _, .int _ _, .int _ _, .int _ _, .int _ _, .int _ _, .int _ _, .int _ _, .int _ _, .int _ _]) [_, _, _, _, _, _, _, _, _, _, _, _, _, _, _, _, _, _, _, _, _, _, _, _, _, _, _, _] [[_, _, _, _, _, _, _, _, _, _, _, _, _, _, _, _, _, _, _, _, _, _, _, _, _, _, _, _]] ?_
    refine zLI ?_
    refine zn ?_
    refine zt ?_
    refine ends (l := [.agg [.int _ _, .int _ _, .int _ _, .int _ _, .int _ _, .int _ _, .int _ _, .int _ _, .int _ _, .int _ _, .int _ _, .int _ _, _, _, .int _ _, .int _ _, .int _ _, .int _ _, .int _ _, .int _ _, .int _ _, .int _ _, .int _ _, .int _ _, .int _ _, .int _ _, .int _ _, .int _ _], .int _ _]) (q := .tup [.agg [.int _ _, .int _ _, .int _ _, .int _ _, .int _ _, .int _ _, .int _ _, .int _ _, .int _ _, .int _ _, .int _ _, .int _ _, _, _, .int _ _, .int _ _, .int _ _, .int _ _, .int _ _, .int _ _, .int _ _, .int _ _, .int _ _, .int _ _, .int _ _, .int _ _, .int _ _, .int _ _], .int _ _]) (.inr rfl) rfl ⟨rfl, trivial, trivial⟩ rfl rfl ?_
    have h' : (bif rcE m op ch == 0 then !!qBad s else false) = false := h25
    by_cases z : rcE m op ch = 0
    · have hq : qBad s = false := by simpa [z] using h'
      rw [show askE m op ch s = 0 by simp [askE, hE, z, holds_q, hq], z]; rfl
    · rw [show askE m op ch s = rcE m op ch by simp [askE, hE, z]]; rfl
end Go.AM
end
section
open Go Go.AM Go.Proofs
set_option maxRecDepth 10000
set_option linter.unusedVariables false
set_option linter.unusedSimpArgs false
namespace Go.AM
def rowC (r : List Span) : List AV := [.ro (r.map spanC)]
theorem ref13_Rows {m : Model} (hm : m.Wf) {op ch : Int} {s : Span} (z : ofE m op ch 0 = 0) (hs : -128 ≤ s.Lo ∧ s.Lo ≤ s.Hi ∧ s.Hi ≤ 127) : Ok Try.prog 43 [.agg (rsiteC (findS m op)), .int .i64 ch, .agg (spanC s)] (.ro ((rowsF m op ch s).map rowC)) := by
  obtain ⟨f0, fb, _⟩ := ofE_op z
  obtain ⟨hS, _⟩ := site_ok f0
  obtain ⟨hch, _⟩ := (ofBad_iff hS).1 fb
  have hpd := (pad_bd hS).1
  have hln := lenF_site f0
  obtain ⟨p1, p2, p3⟩ := out_pos hS
  have hP := ref10_Positions (findS m op)
  rw [p1, show (findS m op).Out.H * (findS m op).Out.W = (posN m op : Int) by unfold posN; omega] at hP
  have hN : posN m op ≤ 1048576 := by
    have O := shapeB_iff.1 hS.outB
    have : (findS m op).Out.H * (findS m op).Out.W ≤ 1024 * 1024 := Int.mul_le_mul O.1.2 O.2.1.2 (by omega) (by omega)
    unfold posN; omega
  have hT : ∀ k : Nat, k < posN m op → Ok Try.prog 57 [.agg (rsiteC (findS m op)), .int .i64 ch, .int .i64 (k : Int)] (.ro ((termsF m op ch k).map termC)) := fun k hk => by
    have hb : ofBad (findS m op) ch k = false := (ofBad_iff hS).2 ⟨hch, by omega, by unfold posN at hk; omega⟩
    rw [termsF_eq f0 hb]; exact ref10_Terms hS hln hch ⟨by omega, by unfold posN at hk; omega⟩
  have hget : ∀ k, k < posN m op → (rowsF m op ch s).getD k default = (termsF m op ch k).map (endF (findS m op).Op.Pad s) := fun k hk => by simp [rowsF, rowF, List.getD_eq_getElem?_getD, hk]
  have hLl : (rowsF m op ch s).length = posN m op := by simp [rowsF]
  generalize rowsF m op ch s = L at *
  --@@1
  skip
  refine fn_ok Tb_ok (fn := Try.f43) Try.func43 rfl rfl (e := [(0, _), (1, _), (2, _)]) rfl (by decide) rfl ?_
  refine zs ?_
  refine zR ?_
  refine zbx [.int _ _, .int _ _, .int _ _, .int _ _, .int _ _, .int _ _, .int _ _, .int _ _, .int _ _, .int _ _, .int _ _, .int _ _, _, _, .int _ _, .int _ _, .int _ _, .int _ _, .int _ _, .int _ _, .int _ _, .int _ _, .int _ _, .int _ _, .int _ _, .int _ _, .int _ _, .int _ _] 28 ?_
  refine zbx [.int _ _, .int _ _] 2 ?_
  refine zLN ?_
  refine zn ?_
  refine zs ?_
  refine zR ?_
  refine zLN ?_
  refine zn ?_
  refine zs ?_
  refine zs ?_
  refine zR ?_
  refine zLI ?_
  refine zn ?_
  refine W_block ?_
  refine W_nils (t := 7) 93 1 rfl rfl ?_
  refine W_for (posN m op) (fun k => ⟨[(1, .int .i64 ch), (3, .ptr 0 0 0), (5, .ptr 1 0 0), (7, .app 2 ((L.take k).map rowC)), (8, .int .i64 (k : Int))], [(0, some ⟨46, 28, 0, [rsiteC (findS m op)]⟩), (1, some ⟨28, 2, 0, [spanC s]⟩)], [(2, some (93, 1, (L.take k).length))], 3⟩) (le_fit ⟨rfl, rfl, rfl, rfl, rfl, trivial⟩ ⟨.inr rfl, .inr rfl, trivial⟩ ⟨.inr rfl, trivial⟩ rfl rfl rfl rfl rfl) ?_
  intro k hk
  have hkl : (L.take k).length ≤ 1048576 := by rw [List.length_take]; omega
  refine zs ?_
  refine zs ?_
  refine zR ?_
  refine zLI ?_
  refine zLG [.int _ _, .int _ _, .int _ _, .int _ _, .int _ _, .int _ _, .int _ _, .int _ _, .int _ _, .int _ _, .int _ _, .int _ _, _, _, .int _ _, .int _ _, .int _ _, .int _ _, .int _ _, .int _ _, .int _ _, .int _ _, .int _ _, .int _ _, .int _ _, .int _ _, .int _ _, .int _ _] ?_
  refine zLc (hP) ?_
  refine zLB ?_
  refine zn ?_
  refine W_cond (b := _) rfl (fun h15 => ?_) (fun h15 => ?_)
  · have hkt : k < posN m op := by have := of_decide_eq_true h15; omega
    have hTk := hT k hkt
    have hg := hget k hkt
    have hW := termsF_W hm op ch k
    have hTl := termsF_len m op ch k
    generalize termsF m op ch k = T at *
    have hap := take_snoc' (by omega) hg
    refine zk ?_
    refine zs ?_
    refine W_block ?_
    refine zs ?_
    refine zR ?_
    refine zLN ?_
    refine zn ?_
    refine zs ?_
    refine zs ?_
    refine zR ?_
    refine zLG [.int _ _, .int _ _, .int _ _, .int _ _, .int _ _, .int _ _, .int _ _, .int _ _, .int _ _, .int _ _, .int _ _, .int _ _, _, _, .int _ _, .int _ _, .int _ _, .int _ _, .int _ _, .int _ _, .int _ _, .int _ _, .int _ _, .int _ _, .int _ _, .int _ _, .int _ _, .int _ _] ?_
    refine zLI ?_
    refine zLI ?_
    refine zLc (hTk) ?_
    refine zLI ?_
    refine zLI ?_
    refine zn ?_
    refine W_block ?_
    refine W_nils (t := 9) 28 2 rfl rfl ?_
    refine W_for T.length (fun j => ⟨[(1, .int .i64 ch), (3, .ptr 0 0 0), (5, .ptr 1 0 0), (7, .app 2 ((L.take k).map rowC)), (8, .int .i64 (k : Int)), (9, .app 3 (((T.map (endF (findS m op).Op.Pad s)).take j).map spanC)), (21, .ro (T.map termC)), (22, .int .i64 ((T.map termC).length : Int)), (23, .int .i64 (j : Int))], [(0, some ⟨46, 28, 0, [rsiteC (findS m op)]⟩), (1, some ⟨28, 2, 0, [spanC s]⟩)], [(2, some (93, 1, (L.take k).length)), (3, some (28, 2, ((T.map (endF (findS m op).Op.Pad s)).take j).length))], 4⟩) (le_fit ⟨rfl, rfl, rfl, rfl, rfl, rfl, rfl, rfl, rfl, trivial⟩ ⟨.inr rfl, .inr rfl, trivial⟩ ⟨.inr rfl, .inr rfl, trivial⟩ rfl rfl rfl rfl rfl) ?_
    intro j hj
    have hjl : ((T.map (endF (findS m op).Op.Pad s)).take j).length ≤ 512 := by rw [List.length_take, List.length_map]; omega
    refine zs ?_
    refine zR ?_
    refine zLB ?_
    refine zn ?_
    refine zs ?_
    refine W_cond (b := _) rfl (fun h24 => ?_) (fun h24 => ?_)
    · have hjt : j < T.length := by have := of_decide_eq_true h24; rw [List.length_map] at this; omega
      have haq : (T.map (endF (findS m op).Op.Pad s)).take j ++ [(endF (findS m op).Op.Pad s) (T.getD j default)] = (T.map (endF (findS m op).Op.Pad s)).take (j + 1) := take_snoc' (by rw [List.length_map]; exact hjt) (by simp [List.getD_eq_getElem?_getD, hjt])
      refine zk ?_
      refine zs ?_
      refine W_block ?_
      refine zs ?_
      refine zR ?_
      (refine L_v Tb_ok (v := _) (ave_index_ro rfl rfl rfl (fun _ => rfl) rfl (by first | omega | assumption | decide | (simp_all; done) | (simp_all; omega)) (by first | omega | assumption | decide | (simp_all; done) | (simp_all; omega)) trivial) rfl ?_)
      refine zLG [.int _ _, .int _ _] ?_
      refine zal [.int .i64 0, .int .i64 0] 2 ?_
      refine zst (.agg [.int _ _, .int _ _]) [_, _] [[_, _]] ?_
      refine zn ?_
      refine zR ?_
      refine zLA ?_
      refine zLG [.int _ _, .int _ _, .int _ _, .int _ _, .int _ _, .int _ _, .int _ _, .int _ _, .int _ _, .int _ _, .int _ _, .int _ _, _, _, .int _ _, .int _ _, .int _ _, .int _ _, .int _ _, .int _ _, .int _ _, .int _ _, .int _ _, .int _ _, .int _ _, .int _ _, .int _ _, .int _ _] ?_
      refine zLG [.int _ _, .int _ _] ?_
      refine zLG [.int _ _, .int _ _] ?_
      refine zLc (ref13_Ends (findS m op) (T.getD j default) s hs (hW _ (getD_in hjt)) hpd) ?_
      refine L_build Tb_ok (t := 93) (len := 1) (el := 28) (sz := 2) (es := [[_, _]]) (z := [.int .i64 0, .int .i64 0]) rfl rfl rfl rfl rfl (by decide) trivial rfl rfl rfl rfl rfl ?_
      refine L_app1 Tb_ok (f := spanC) (v := (endF (findS m op).Op.Pad s) (T.getD j default)) (tok := 3) (el := 28) (sz := 2) rfl rfl rfl rfl rfl ⟨trivial, trivial⟩ (fun _ => ⟨rfl, rfl⟩) (by rw [show (Tb.at 28).bytes = 16 from rfl]; omega) rfl ?_
      refine zLA ?_
      refine zn ?_
      refine zR ?_
      refine zLI ?_
      refine zLI ?_
      refine zn ?_
      refine for_end hjt (le_fit ⟨rfl, rfl, rfl, rfl, rfl, congrArg (fun z => AV.app 3 (List.map spanC z)) haq, rfl, rfl, congrArg _ (w_succ hjt (by omega)), trivial⟩ ⟨.inr rfl, .inr rfl, trivial⟩ ⟨.inr rfl, .inr (congrArg (fun z => some (28, 2, List.length z)) haq), trivial⟩ rfl rfl rfl rfl rfl)
    · have hje : j = T.length := by have := of_decide_eq_false h24; rw [List.length_map] at this; omega
      refine W_exit ?_
      repeat (first | refine pass_then ?_ | refine pass_for ?_)
      refine blockQ_hit ?_
      refine zR ?_
      refine zLA ?_
      refine zLA ?_
      refine L_build Tb_ok (t := 91) (len := 1) (el := 93) (sz := 1) (es := [[_]]) (z := [.nils]) rfl rfl rfl rfl rfl (by decide) trivial rfl rfl rfl rfl rfl ?_
      refine L_app1 Tb_ok (f := rowC) (v := T.map (endF (findS m op).Op.Pad s)) (tok := 2) (el := 93) (sz := 1) rfl rfl rfl (by rw [hje, List.take_of_length_le (by rw [List.length_map]; omega)]; rfl) rfl ⟨trivial, trivial⟩ (fun _ => ⟨rfl, rfl⟩) (by rw [show (Tb.at 93).bytes = 24 from rfl]; omega) rfl ?_
      refine zLA ?_
      refine zn ?_
      refine zR ?_
      refine zLI ?_
      refine zLI ?_
      refine zLI ?_
      refine zn ?_
      refine for_end hkt (le_fit ⟨rfl, rfl, rfl, congrArg (fun z => AV.app 2 (List.map rowC z)) hap, congrArg _ (w_succ hkt (by omega)), trivial⟩ ⟨.inr rfl, .inr rfl, trivial⟩ ⟨.inr (congrArg (fun z => some (93, 1, List.length z)) hap), trivial⟩ rfl rfl rfl rfl rfl)
  · have hke : k = posN m op := by have := of_decide_eq_false h15; omega
    refine W_exit ?_
    repeat (first | refine pass_then ?_ | refine pass_for ?_)
    refine blockQ_hit ?_
    refine zs ?_
    refine zR ?_
    refine zLA ?_
    refine zLA ?_
    refine zn ?_
    refine zt ?_
    (refine ends (l := [.app _ _]) (q := .ro _) (.inr rfl) rfl ⟨trivial, trivial⟩ rfl rfl ?_)
    rw [hke, ← hLl, List.take_length]
end Go.AM
end
section
open Go Go.AM Go.Proofs
set_option maxRecDepth 10000
set_option linter.unusedVariables false
set_option linter.unusedSimpArgs false
namespace Go.AM
theorem takeH_f {h : Hull} {s : Span} (c : h.some = false) : takeH h s = ⟨s.Lo, s.Hi, true⟩ := by unfold takeH joinS; rw [c]; rfl
theorem takeH_t {h : Hull} {s : Span} (c : h.some = true) : takeH h s = ⟨mn h.Lo s.Lo, mx h.Hi s.Hi, true⟩ := by unfold takeH joinS; rw [c]; rfl
end Go.AM
end
section
open Go Go.AM Go.Proofs
set_option maxRecDepth 10000
set_option linter.unusedVariables false
set_option linter.unusedSimpArgs false
namespace Go.AM
def blkY (d : Int) (j : Nat) (q : Span) : Span := bif (j : Int).tmod d == 0 then ⟨0, 0⟩ else q
theorem blkY_eq {d : Int} {D : Nat} (h : d = (D : Int)) (H : Hull) (r : List Span) (j : Nat) : partG D H r (j + 1) = (takeH (takeH (partG D H r j).1 (plusS (blkY d j (partG D H r j).2) (r.getD j default))) (r.getD j default), plusS (blkY d j (partG D H r j).2) (r.getD j default)) := by
  have e : blkY d j (partG D H r j).2 = if j % D = 0 then ⟨0, 0⟩ else (partG D H r j).2 := by
    unfold blkY
    rw [h, Int.tmod_eq_emod_of_nonneg (by omega), ← Int.natCast_emod]
    by_cases c : j % D = 0
    · rw [if_pos c, c]; rfl
    · rw [if_neg c, show ((((j % D : Nat)) : Int) == 0) = false by simpa using fun q => c (by omega)]; rfl
  rw [e]; rfl
end Go.AM
end
section
open Go Go.AM Go.Proofs
set_option maxRecDepth 10000
set_option linter.unusedVariables false
set_option linter.unusedSimpArgs false
namespace Go.AM
theorem mp_Wf : mPlain.Wf := by
  simp [mPlain, Model.Wf, Shape.Wf, ListWf, MOp.Wf, Window.Wf, Scale.Wf, I64.iff, I32.iff, I16.iff, reachBytes]
end Go.AM
end
section
open Go Go.AM Go.Proofs
set_option maxRecDepth 10000
set_option linter.unusedVariables false
set_option linter.unusedSimpArgs false
namespace Go.AM
theorem partE_one (m : Model) (op ch : Int) (s : Span) : partE m op ch s 1 = askE m op ch s := by
  unfold partE
  by_cases h : askE m op ch s = 0
  · have := (site_ok (askE_zero h).2.2).1.len
    rw [if_pos h, if_neg (by omega), h]
  · rw [if_neg h]
theorem rowsF_len {m : Model} {op ch : Int} {s : Span} (h : askE m op ch s = 0) : (rowsF m op ch s).length ≤ 1048576 := by
  obtain ⟨z, hs, f0⟩ := askE_zero h
  obtain ⟨hS, _⟩ := site_ok f0
  obtain ⟨_, _, p3⟩ := out_pos hS
  have O := shapeB_iff.1 hS.outB
  have : (findS m op).Out.H * (findS m op).Out.W ≤ 1024 * 1024 := Int.mul_le_mul O.1.2 O.2.1.2 (by omega) (by omega)
  simp [rowsF, posN]; omega
theorem partX (m : Model) (op ch : Int) (s : Span) (d : Int) : (bif (bif askE m op ch s == 0 then (bif decide (d < 1) then true else decide (d > lenF (rcS m op ch).Op (rcS m op ch).In)) else false) then (151 : Int) else askE m op ch s) = partE m op ch s d := by
  unfold partE
  by_cases h : askE m op ch s = 0
  · obtain ⟨z, hs, f0⟩ := askE_zero h
    obtain ⟨_, fb, _⟩ := ofE_op z
    obtain ⟨hS, _⟩ := site_ok f0
    obtain ⟨hch, _⟩ := (ofBad_iff hS).1 fb
    obtain ⟨e1, e2⟩ := (rc_ok f0).1 hch
    rw [if_pos h, h, e2, lenF_site f0]
    by_cases c : d < 1
    · simp [c]
    · by_cases c2 : d > (findS m op).Len <;> simp [c, c2]
  · rw [if_neg h, show (askE m op ch s == 0) = false by simp [h]]; rfl
theorem partE_zero {m : Model} {op ch : Int} {s : Span} {d : Int} (h : partE m op ch s d = 0) : askE m op ch s = 0 := by
  unfold partE at h
  split at h
  · assumption
  · exact h
end Go.AM
end
section
open Go Go.AM
set_option linter.unusedVariables false
set_option linter.unusedSimpArgs false
namespace Go.AM
theorem tap_range {s : Shape} (hs : shapeB s = true) (w : Window) (top left k : Int) : tapPlace s w top left k = -1 ∨ ∃ y x, (0 ≤ y ∧ y < s.H) ∧ (0 ≤ x ∧ x < s.W) ∧ tapPlace s w top left k = y * s.W + x ∧ y = w64 (top + w64 (k.tdiv w.KW)) ∧ x = w64 (left + k.tmod w.KW) := by
  have B := shapeB_iff.1 hs
  unfold tapPlace
  dsimp only
  rw [show w64 (s.H - 1) = s.H - 1 from w64_id (by omega), show w64 (s.W - 1) = s.W - 1 from w64_id (by omega)]
  generalize w64 (top + w64 (k.tdiv w.KW)) = y
  generalize w64 (left + k.tmod w.KW) = x
  cases hy : inB y 0 (s.H - 1) with
  | false => left; rfl
  | true =>
    cases hx : inB x 0 (s.W - 1) with
    | false => left; rfl
    | true =>
      right
      simp [inB] at hy hx
      have a0 : 0 ≤ y * s.W := Int.mul_nonneg hy.1 (by omega)
      have a1 : y * s.W ≤ 1024 * 1024 := Int.mul_le_mul (by omega) B.2.1.2 (by omega) (by omega)
      refine ⟨y, x, by omega, by omega, ?_, rfl, rfl⟩
      show w64 (w64 (y * s.W) + x) = _
      rw [show w64 (y * s.W) = y * s.W from w64_id (by omega)]
      exact w64_id (by omega)
theorem yx_lt {y x H W : Int} (hy : 0 ≤ y ∧ y < H) (hx : 0 ≤ x ∧ x < W) : 0 ≤ y * W + x ∧ y * W + x < H * W := by
  have a0 : 0 ≤ y * W := Int.mul_nonneg hy.1 (by omega)
  have a1 : (y + 1) * W ≤ H * W := Int.mul_le_mul_of_nonneg_right (by omega) (by omega)
  rw [Int.add_mul] at a1; omega
theorem tapAt_range {S : Site} (hS : SiteOk S) (at_ : Int) (k : Nat) : tapAt S at_ k = -1 ∨ (0 ≤ tapAt S at_ k ∧ tapAt S at_ k < S.In.H * S.In.W) := by
  rcases tap_range hS.inB S.Op.Win (tapsTop S.In S.Op.Win at_) (tapsLeft S.In S.Op.Win at_) k with h | ⟨y, x, hy, hx, h, _⟩
  · exact .inl h
  · right; unfold tapAt; rw [h]; exact yx_lt hy hx
/-- with its channel -/
theorem pc_val {S : Site} (hS : SiteOk S) {p c : Int} (hp : 0 ≤ p ∧ p < S.In.H * S.In.W) (hc : 0 ≤ c ∧ c < S.In.C) : w64 (w64 (p * S.In.C) + c) = p * S.In.C + c ∧ 0 ≤ p * S.In.C + c ∧ p * S.In.C + c < S.In.H * S.In.W * S.In.C := by
  have B := shapeB_iff.1 hS.inB
  have h := yx_lt hp hc
  have a0 : 0 ≤ p * S.In.C := Int.mul_nonneg hp.1 (by omega)
  rw [show w64 (p * S.In.C) = p * S.In.C from w64_id (by omega)]
  exact ⟨w64_id (by omega), h⟩
theorem atF_range {S : Site} (hS : SiteOk S) {ch : Int} (hch : 1 ≤ ch ∧ ch ≤ S.Out.C) (at_ : Int) {i : Nat} (hi : i < S.Len.toNat) : atF S ch at_ i = -1 ∨ (0 ≤ atF S ch at_ i ∧ atF S ch at_ i < S.In.H * S.In.W * S.In.C) := by
  have B := shapeB_iff.1 hS.inB
  unfold atF
  by_cases k1 : S.Op.Kind = 1
  · rw [if_pos k1, ← hS.len1 k1]; right; omega
  · rw [if_neg k1]
    by_cases k2 : S.Op.Kind = 2
    · rw [if_pos k2]
      have hm : i % S.In.C.toNat < S.In.C.toNat := Nat.mod_lt _ (by omega)
      rcases tapAt_range hS at_ (i / S.In.C.toNat) with h | h
      · left; rw [h]; rfl
      · rw [if_neg (by omega)]
        obtain ⟨e, h1, h2⟩ := pc_val hS h (c := ((i % S.In.C.toNat : Nat) : Int)) ⟨Int.natCast_nonneg _, by have := Int.ofNat_lt.2 hm; omega⟩
        right; rw [e]; exact ⟨h1, h2⟩
    · rw [if_neg k2]
      have o3 := hS.out3 (by have := hS.kind; omega)
      rcases tapAt_range hS at_ i with h | h
      · left; rw [h]; rfl
      · rw [if_neg (by omega)]
        obtain ⟨e, h1, h2⟩ := pc_val hS h (c := ch - 1) ⟨by omega, by omega⟩
        right; rw [e]; exact ⟨h1, h2⟩
theorem tlF_at {S : Site} (hS : SiteOk S) {ch : Int} (hch : 1 ≤ ch ∧ ch ≤ S.Out.C) (at_ : Int) : ∀ t ∈ tlF S ch at_, t.At = -1 ∨ (0 ≤ t.At ∧ t.At < S.In.H * S.In.W * S.In.C) := by
  intro t ht
  obtain ⟨i, hi⟩ := List.getElem?_of_mem ht
  have hlt : i < S.Len.toNat := by rw [← tlF_len hS ch at_]; exact (List.getElem?_eq_some_iff.1 hi).1
  have := tlF_get hS hch at_ hlt
  rw [List.getD_eq_getElem?_getD, hi] at this
  simp only [Option.getD_some] at this
  rw [this]; exact atF_range hS hch at_ hlt
end Go.AM
end
section
open Go Go.AM Go.Proofs
set_option maxRecDepth 10000
set_option linter.unusedVariables false
set_option linter.unusedSimpArgs false
namespace Go.AM
/-- what a term takes -/
def vT (a : List Int) (pad : Int) (t : Term) : Int := if t.At ≥ 0 then w64 (a.getD t.At.toNat default) else pad
def sumT (b : Int) (l : List Term) (a : List Int) (pad : Int) : Int := l.foldl (fun s t => w64 (s + w64 (t.W * vT a pad t))) b
theorem foldl_take' {α β : Type} [Inhabited α] (f : β → α → β) (b : β) (l : List α) (k : Nat) (h : k < l.length) : (l.take (k + 1)).foldl f b = f ((l.take k).foldl f b) (l.getD k default) := by
  rw [List.take_add_one, List.foldl_append]
  simp [List.getD_eq_getElem?_getD, h]
theorem plain_sum (b : Int) (l : List Term) (a : List Int) (pad : Int) (hl : l.length ≤ 1048576) (hat : ∀ t ∈ l, t.At < 0 ∨ t.At < a.length) : Ok Try.prog 90 [.int .i64 b, .ro (l.map termC), .ro (a.map i8C), .int .i64 pad] (.int .i64 (sumT b l a pad)) := by
  refine fn_ok Tb_ok (fn := Try.f90) Try.func90 rfl rfl (e := [(0, _), (1, _), (2, _), (3, _)]) rfl (by decide) rfl ?_
  refine zs ?_
  refine zR ?_
  refine zLI ?_
  refine zn ?_
  refine zs ?_
  refine zs ?_
  refine zR ?_
  refine zLO ?_
  refine zLI ?_
  refine zLI ?_
  refine zn ?_
  refine W_block ?_
  refine W_for l.length (fun k => ⟨[(0, .int .i64 (sumT b (l.take k) a pad)), (2, .ro (a.map i8C)), (3, .int .i64 pad), (12, .ro (l.map termC)), (13, .int .i64 ((l.map termC).length : Int)), (14, .int .i64 (k : Int))], [], [], 0⟩) (le_fit ⟨rfl, rfl, rfl, rfl, rfl, rfl, trivial⟩ trivial trivial rfl rfl rfl rfl rfl) ?_
  intro k hk
  refine zs ?_
  refine zR ?_
  refine zLB ?_
  refine zn ?_
  refine zs ?_
  refine W_cond (b := _) rfl (fun h15 => ?_) (fun h15 => ?_)
  · have hlt : k < l.length := by simpa using h15
    have hi := hat (l.getD k default) (by rw [List.getD_eq_getElem?_getD, List.getElem?_eq_getElem hlt]; exact List.getElem_mem hlt)
    refine zk ?_
    refine zs ?_
    refine W_block ?_
    refine zs ?_
    refine zR ?_
    (refine L_v Tb_ok (v := _) (ave_index_ro rfl rfl rfl (fun _ => rfl) rfl (by first | omega | assumption | decide | (simp_all; done) | (simp_all; omega)) (by first | omega | assumption | decide | (simp_all; done) | (simp_all; omega)) trivial) rfl ?_)
    refine zLG [.int _ _, .int _ _] ?_
    refine zal [.int .i64 0, .int .i64 0] 2 ?_
    refine zst (.agg [.int _ _, .int _ _]) [_, _] [[_, _]] ?_
    refine zn ?_
    refine zs ?_
    refine zR ?_
    refine zLI ?_
    refine zLI ?_
    refine zn ?_
    refine zs ?_
    refine zs ?_
    refine zR ?_
    refine zLP ?_
    refine zLI ?_
    refine zLB ?_
    refine zn ?_
    refine W_cond (b := _) rfl (fun h21 => ?_) (fun h21 => ?_)
    · have h0 : (l.getD k default).At ≥ 0 := of_decide_eq_true h21
      have h1 : (l.getD k default).At < (a.length : Int) := by omega
      have hs : w64 (sumT b (l.take k) a pad + w64 ((l.getD k default).W * w64 (a.getD (l.getD k default).At.toNat default))) = sumT b (l.take (k + 1)) a pad := by
        unfold sumT
        rw [foldl_take' _ _ _ _ hlt, vT, if_pos h0]
      refine zR ?_
      refine zLO ?_
      refine zLP ?_
      refine zLI ?_
      (refine L_v Tb_ok (v := _) (ave_index_ro rfl rfl rfl (fun _ => rfl) rfl (by first | exact h0 | exact h1) (by first | exact h0 | exact h1) trivial) rfl ?_)
      refine zLI ?_
      refine zLI ?_
      refine zLI ?_
      refine zn ?_
      refine zR ?_
      refine zLI ?_
      refine zLP ?_
      refine zLI ?_
      refine zLI ?_
      refine zLI ?_
      refine zLI ?_
      refine zLI ?_
      refine zn ?_
      refine zR ?_
      refine zLI ?_
      refine zLI ?_
      refine zn ?_
      refine for_end hlt (le_fit ⟨congrArg (AV.int .i64) hs, rfl, rfl, rfl, rfl, congrArg _ (w_succ hlt (by omega)), trivial⟩ trivial trivial rfl rfl rfl rfl rfl)
    · have h0 : ¬ (l.getD k default).At ≥ 0 := of_decide_eq_false h21
      have hs : w64 (sumT b (l.take k) a pad + w64 ((l.getD k default).W * pad)) = sumT b (l.take (k + 1)) a pad := by
        unfold sumT
        rw [foldl_take' _ _ _ _ hlt, vT, if_neg h0]
      refine zk ?_
      refine zR ?_
      refine zLI ?_
      refine zLP ?_
      refine zLI ?_
      refine zLI ?_
      refine zLI ?_
      refine zLI ?_
      refine zLI ?_
      refine zn ?_
      refine zR ?_
      refine zLI ?_
      refine zLI ?_
      refine zn ?_
      refine for_end hlt (le_fit ⟨congrArg (AV.int .i64) hs, rfl, rfl, rfl, rfl, congrArg _ (w_succ hlt (by omega)), trivial⟩ trivial trivial rfl rfl rfl rfl rfl)
  · have hke : k = l.length := by simp at h15; omega
    refine W_exit ?_
    repeat (first | refine pass_then ?_ | refine pass_for ?_)
    refine blockQ_hit ?_
    refine zs ?_
    refine zR ?_
    refine zLI ?_
    refine zLI ?_
    refine zn ?_
    refine zt ?_
    refine ends (l := [.int _ _]) (q := .int _ _) (.inr rfl) rfl ⟨trivial, trivial⟩ rfl rfl ?_
    rw [hke, List.take_length]
end Go.AM
end
section
open Go Go.AM Go.Proofs
set_option maxRecDepth 10000
set_option linter.unusedVariables false
set_option linter.unusedSimpArgs false
namespace Go.AM
/-- a channel's sum at a position -/
def oneSum (m : Model) (op : Int) (a : List Int) (at_ c : Nat) : Int := sumT (biasF m op ((c : Int) + 1) at_) (termsF m op ((c : Int) + 1) at_) a (m.Ops.getD (op - 1).toNat default).Pad
def sumsF (m : Model) (op : Int) (a : List Int) : List Int := (List.range ((findS m op).Out.H * (findS m op).Out.W * (findS m op).Out.C).toNat).map fun i => oneSum m op a (i / (findS m op).Out.C.toNat) (i % (findS m op).Out.C.toNat)
theorem mul_lt_two' {a b A B : Nat} (ha : a < A) (hb : b < B) : a * B + b < A * B := by
  have : (a + 1) * B ≤ A * B := Nat.mul_le_mul_right _ ha
  rw [Nat.add_mul, Nat.one_mul] at this; omega
theorem take_snoc1 {α : Type} [Inhabited α] {l : List α} {k : Nat} {v : α} (h : k < l.length) (hv : l.getD k default = v) : l.take k ++ [v] = l.take (k + 1) := by
  rw [List.take_add_one, ← hv]; simp [List.getD_eq_getElem?_getD, h]
theorem terms_in {m : Model} {op : Int} (h0 : findE m op = 0) (ch at_ : Int) : ∀ t ∈ termsF m op ch at_, t.At < 0 ∨ t.At < (findS m op).In.H * (findS m op).In.W * (findS m op).In.C := by
  intro t ht
  obtain ⟨hS, _⟩ := site_ok h0
  cases hb : ofBad (findS m op) ch at_ with
  | true => simp [termsF, h0, hb] at ht
  | false =>
    rw [termsF_eq h0 hb] at ht
    rcases tlF_at hS ((ofBad_iff hS).1 hb).1 at_ t ht with h | h
    · left; omega
    · right; omega
theorem plain_sums (m : Model) (op : Int) (a : List Int) (h0 : findE m op = 0) (ha : (a.length : Int) = (findS m op).In.H * (findS m op).In.W * (findS m op).In.C) : Ok Try.prog 75 [.agg (modelC m), .int .i64 op, .ro (a.map i8C)] (.ro ((sumsF m op a).map intC)) := by
  obtain ⟨hS, ⟨o1, o2⟩, _, he, _⟩ := site_ok h0
  have hn := (whole_ok he).1
  have O := shapeB_iff.1 hS.outB
  obtain ⟨p1, p2, p3⟩ := out_pos hS
  have ow : IntKind.i64.wrap (op - 1) = op - 1 := w64_id (by omega)
  have i0 : 0 ≤ IntKind.i64.wrap (op - 1) := by rw [ow]; omega
  have i1 : IntKind.i64.wrap (op - 1) < (m.Ops.length : Int) := by rw [ow]; omega
  have pc : w64 (w64 ((findS m op).Out.H * (findS m op).Out.W) * (findS m op).Out.C) = (findS m op).Out.H * (findS m op).Out.W * (findS m op).Out.C := by
    rw [p1]; have : 0 ≤ (findS m op).Out.H * (findS m op).Out.W * (findS m op).Out.C := Int.mul_nonneg (by omega) (by omega)
    exact w64_id (by omega)
  have pcn : 0 ≤ (findS m op).Out.H * (findS m op).Out.W * (findS m op).Out.C := Int.mul_nonneg (by omega) (by omega)
  have hLl : (sumsF m op a).length = (w64 ((findS m op).Out.H * (findS m op).Out.W)).toNat * (findS m op).Out.C.toNat := by
    simp [sumsF, p1, Int.toNat_mul (show 0 ≤ (findS m op).Out.H * (findS m op).Out.W by omega) (show 0 ≤ (findS m op).Out.C by omega)]
  have hget : ∀ i j, i < (w64 ((findS m op).Out.H * (findS m op).Out.W)).toNat → j < (findS m op).Out.C.toNat → (sumsF m op a).getD (i * (findS m op).Out.C.toNat + j) 0 = oneSum m op a i j := by
    intro i j hi hj
    have hlt := mul_lt_two' hi hj
    have e1 : (i * (findS m op).Out.C.toNat + j) / (findS m op).Out.C.toNat = i := by rw [Nat.mul_comm, Nat.mul_add_div (by omega), Nat.div_eq_of_lt hj, Nat.add_zero]
    have e2 : (i * (findS m op).Out.C.toNat + j) % (findS m op).Out.C.toNat = j := by rw [Nat.mul_comm, Nat.mul_add_mod, Nat.mod_eq_of_lt hj]
    rw [← hLl] at hlt
    have hlt2 := hlt
    rw [sumsF, List.length_map, List.length_range] at hlt2
    simp [sumsF, List.getD_eq_getElem?_getD, hlt2, e1, e2]
  have hLs : (sumsF m op a).length ≤ 16384 := by
    have : (sumsF m op a).length = ((findS m op).Out.H * (findS m op).Out.W * (findS m op).Out.C).toNat := by simp [sumsF]
    omega
  have hsum : ∀ (c i : Nat), Ok Try.prog 90 [.int .i64 (biasF m op ((c : Int) + 1) i), .ro ((termsF m op ((c : Int) + 1) i).map termC), .ro (a.map i8C), .int .i64 (m.Ops.getD (IntKind.i64.wrap (op - 1)).toNat default).Pad] (.int .i64 (oneSum m op a i c)) := fun c i => by
    rw [ow]
    exact plain_sum _ _ a _ (by have := termsF_len m op ((c : Int) + 1) i; omega) (fun t ht => by rw [ha]; exact terms_in h0 _ _ t ht)
  have hC : ∀ c : Nat, c < (findS m op).Out.C.toNat → IntKind.i64.wrap ((c : Int) + 1) = (c : Int) + 1 := fun c hc => w64_id (by omega)
  generalize hP : w64 ((findS m op).Out.H * (findS m op).Out.W) = P at *
  generalize hCC : (findS m op).Out.C = C at *
  generalize sumsF m op a = L at *
  have mk1 : (0 : Int) ≤ w64 (P * C) := by rw [pc]; exact pcn
  have mk3 : ((Tb.at 2).bytes : Int) * w64 (P * C) ≤ 281474976710656 := by rw [pc, show (Tb.at 2).bytes = 8 from rfl]; omega
  have mk4 : w64 (P * C) ≤ 9223372036854775807 := by rw [pc]; omega
  refine fn_ok Tb_ok (fn := Try.f75) Try.func75 rfl rfl (e := [(0, _), (1, _), (2, _)]) rfl (by decide) rfl ?_
  refine zs ?_
  refine zR ?_
  refine zbx [.int _ _, .int _ _, .int _ _, .int _ _, .int _ _, _, .int _ _] 7 ?_
  refine zLN ?_
  refine zn ?_
  refine zs ?_
  refine zR ?_
  refine zLG [.int _ _, .int _ _, .int _ _, .int _ _, .int _ _, _, .int _ _] ?_
  refine zLI ?_
  refine zLc ((show Ok Try.prog 37 [.agg (modelC m), .int .i64 op] (.tup [.int .i64 C, .int .i64 (findE m op)]) from hCC ▸ terms_Channels m op)) ?_
  refine zLT [_, _] ?_
  refine zLI ?_
  refine zLI ?_
  refine zLI ?_
  refine zLI ?_
  refine zn ?_
  refine zs ?_
  refine zR ?_
  refine zLG [.int _ _, .int _ _, .int _ _, .int _ _, .int _ _, _, .int _ _] ?_
  refine zLI ?_
  refine zLc ((show Ok Try.prog 51 [.agg (modelC m), .int .i64 op] (.tup [.int .i64 P, .int .i64 (findE m op)]) from hP ▸ terms_Positions m op)) ?_
  refine zLT [_, _] ?_
  refine zLI ?_
  refine zLI ?_
  refine zLI ?_
  refine zLI ?_
  refine zn ?_
  refine zs ?_
  refine zR ?_
  refine zLI ?_
  refine zLI ?_
  refine zLI ?_
  refine L_make Tb_ok (el := 2) (sz := 1) (z := [.int .i64 0]) rfl rfl rfl rfl rfl rfl rfl rfl ⟨trivial, trivial⟩ (by exact ⟨Int.le_refl _, mk1⟩) (by exact ⟨mk3, mk4⟩) rfl ?_
  refine zLW ?_
  refine zn ?_
  refine zs ?_
  refine zs ?_
  refine zR ?_
  refine zLI ?_
  refine zLI ?_
  refine zn ?_
  refine W_block ?_
  refine W_tok (t := 11) (id := 1) (ty := 2) (sz := 1) (fz := 0) (es := []) (l := []) rfl rfl rfl rfl rfl rfl rfl ?_
  refine W_for P.toNat (fun i => ⟨[(1, .int .i64 op), (2, .ro (a.map i8C)), (3, .ptr 0 0 0), (7, .int .i64 C), (11, .app 2 ((L.take (i * C.toNat)).map intC)), (33, .int .i64 P), (34, .int .i64 (i : Int))], [(0, some ⟨26, 7, 0, [modelC m]⟩)], [(2, some (2, 1, (L.take (i * C.toNat)).length))], 3⟩) (le_fit ⟨rfl, rfl, rfl, rfl, by rw [Nat.zero_mul]; rfl, rfl, rfl, trivial⟩ ⟨.inr rfl, trivial⟩ ⟨.inr (by rw [Nat.zero_mul]; rfl), trivial⟩ rfl rfl rfl rfl rfl) ?_
  intro i hi
  refine zs ?_
  refine zR ?_
  refine zLB ?_
  refine zn ?_
  refine zs ?_
  refine W_cond (b := _) rfl (fun h35 => ?_) (fun h35 => ?_)
  · have hit : i < P.toNat := by have := of_decide_eq_true h35; omega
    refine zk ?_
    refine zs ?_
    refine W_block ?_
    refine zs ?_
    refine zR ?_
    refine zLI ?_
    refine zLI ?_
    refine zn ?_
    refine zs ?_
    refine zR ?_
    refine zLI ?_
    refine zLI ?_
    refine zn ?_
    refine W_block ?_
    refine W_for C.toNat (fun j => ⟨[(1, .int .i64 op), (2, .ro (a.map i8C)), (3, .ptr 0 0 0), (7, .int .i64 C), (11, .app 2 ((L.take (i * C.toNat + j)).map intC)), (12, .int .i64 (i : Int)), (33, .int .i64 P), (34, .int .i64 (i : Int)), (37, .int .i64 C), (38, .int .i64 (j : Int))], [(0, some ⟨26, 7, 0, [modelC m]⟩)], [(2, some (2, 1, (L.take (i * C.toNat + j)).length))], 3⟩) (le_fit ⟨rfl, rfl, rfl, rfl, rfl, rfl, rfl, rfl, rfl, rfl, trivial⟩ ⟨.inr rfl, trivial⟩ ⟨.inr rfl, trivial⟩ rfl rfl rfl rfl rfl) ?_
    intro j hj
    have hlen : (L.take (i * C.toNat + j)).length ≤ 16384 := by rw [List.length_take]; omega
    refine zs ?_
    refine zR ?_
    refine zLB ?_
    refine zn ?_
    refine zs ?_
    refine W_cond (b := _) rfl (fun h39 => ?_) (fun h39 => ?_)
    · have hjt : j < C.toNat := by have := of_decide_eq_true h39; omega
      have hap := take_snoc1 (by rw [hLl]; exact mul_lt_two' hit hjt) (hget i j hit hjt)
      refine zk ?_
      refine zs ?_
      refine W_block ?_
      refine zs ?_
      refine zR ?_
      refine zLI ?_
      refine zLI ?_
      refine zn ?_
      refine zs ?_
      refine zR ?_
      refine zLG [.int _ _, .int _ _, .int _ _, .int _ _, .int _ _, _, .int _ _] ?_
      refine zLI ?_
      refine zLI ?_
      refine zLI ?_
      refine zLI ?_
      refine zLc ((show Ok Try.prog 52 [.agg (modelC m), .int .i64 op, .int .i64 (IntKind.i64.wrap ((j : Int) + 1)), .int .i64 (i : Int)] (.tup [.ro ((termsF m op ((j : Int) + 1) i).map termC), .int .i64 (biasF m op ((j : Int) + 1) i), .int .i64 (ofE m op ((j : Int) + 1) i)]) from by rw [hC j hjt]; exact terms_Of m op ((j : Int) + 1) i)) ?_
      refine zLT [_, _, _] ?_
      refine zLO ?_
      refine zLI ?_
      refine zLI ?_
      refine zLO ?_
      refine zLI ?_
      refine zLI ?_
      refine zn ?_
      refine zR ?_
      refine zLA ?_
      refine zLI ?_
      refine zLO ?_
      refine zLO ?_
      refine zLP ?_
      refine zLO ?_
      refine zLI ?_
      refine zLI ?_
      (refine L_v Tb_ok (v := _) (ave_index_ro rfl rfl rfl (fun _ => rfl) rfl (by first | exact i0 | exact i1 | (rw [List.length_map]; exact i1)) (by first | exact i0 | exact i1 | (rw [List.length_map]; exact i1)) trivial) rfl ?_)
      refine zLQ ?_
      refine zLI ?_
      refine zLc (hsum j i) ?_
      refine L_build Tb_ok (t := 81) (len := 1) (el := 2) (sz := 1) (es := [[_]]) (z := [.int .i64 0]) rfl rfl rfl rfl rfl (by decide) trivial rfl rfl rfl rfl rfl ?_
      refine L_app1 Tb_ok (f := intC) (v := oneSum m op a i j) (tok := 2) (el := 2) (sz := 1) rfl rfl rfl rfl rfl ⟨trivial, trivial⟩ (fun _ => ⟨rfl, rfl⟩) (by rw [show (Tb.at 2).bytes = 8 from rfl]; omega) rfl ?_
      refine zLA ?_
      refine zn ?_
      refine zR ?_
      refine zLI ?_
      refine zLI ?_
      refine zn ?_
      refine for_end hjt (le_fit ⟨rfl, rfl, rfl, rfl, congrArg (fun z => AV.app 2 (List.map intC z)) hap, rfl, rfl, rfl, rfl, congrArg _ (w_succ hjt (by omega)), trivial⟩ ⟨.inr rfl, trivial⟩ ⟨.inr (congrArg (fun z => some (2, 1, List.length z)) hap), trivial⟩ rfl rfl rfl rfl rfl)
    · have hje : j = C.toNat := by have := of_decide_eq_false h39; omega
      refine W_exit ?_
      repeat (first | refine pass_then ?_ | refine pass_for ?_)
      refine blockQ_hit ?_
      refine zR ?_
      refine zLI ?_
      refine zLI ?_
      refine zn ?_
      refine for_end hit (le_fit ⟨rfl, rfl, rfl, rfl, by rw [hje, ← Nat.succ_mul]; rfl, rfl, congrArg _ (w_succ hit (by omega)), trivial⟩ ⟨.inr rfl, trivial⟩ ⟨.inr (by rw [hje, ← Nat.succ_mul]; rfl), trivial⟩ rfl rfl rfl rfl rfl)
  · have hie : i = P.toNat := by have := of_decide_eq_false h35; omega
    refine W_exit ?_
    repeat (first | refine pass_then ?_ | refine pass_for ?_)
    refine blockQ_hit ?_
    refine zs ?_
    refine zR ?_
    refine zLA ?_
    refine zLA ?_
    refine zn ?_
    refine zt ?_
    (refine ends (l := [.app _ _]) (q := .ro _) (.inr rfl) rfl ⟨trivial, trivial⟩ rfl rfl ?_)
    rw [hie, ← hLl, List.take_length]
end Go.AM
end
section
open Go Go.AM
set_option linter.unusedVariables false
set_option linter.unusedSimpArgs false
namespace Go.AM
def posS : List Term → Int
  | [] => 0
  | t :: r => max t.W 0 + posS r
def negS : List Term → Int
  | [] => 0
  | t :: r => min t.W 0 + negS r
theorem pos_bd : ∀ {l : List Term}, (∀ t ∈ l, -32768 ≤ t.W ∧ t.W ≤ 32767) → (0 ≤ posS l ∧ posS l ≤ 32767 * l.length) ∧ negS l ≤ 0 ∧ -32768 * (l.length : Int) ≤ negS l
  | [], _ => by simp [posS, negS]
  | t :: r, h => by
    have := pos_bd (l := r) (fun u hu => h u (by simp [hu]))
    have ht := h t (by simp)
    have hl : ((t :: r).length : Int) = r.length + 1 := by simp
    rw [posS, negS, hl]; omega
theorem up_exact : ∀ {l : List Term}, (∀ t ∈ l, -32768 ≤ t.W ∧ t.W ≤ 32767) → ∀ s : Int, 0 ≤ s → s + 32767 * l.length ≤ 4611686018427387904 → l.foldl (fun s t => w64 (s + mx t.W 0)) s = s + posS l
  | [], _, s, _, _ => by simp [posS]
  | t :: r, h, s, h0, h1 => by
    have ht := h t (by simp)
    have hl : ((t :: r).length : Int) = r.length + 1 := by simp
    rw [hl] at h1
    rw [List.foldl_cons, mx_eq, show w64 (s + max t.W 0) = s + max t.W 0 from w64_id (by omega), up_exact (fun u hu => h u (by simp [hu])) _ (by omega) (by omega), posS]; omega
theorem down_exact : ∀ {l : List Term}, (∀ t ∈ l, -32768 ≤ t.W ∧ t.W ≤ 32767) → ∀ s : Int, s ≤ 0 → -4611686018427387904 ≤ s - 32768 * l.length → l.foldl (fun s t => w64 (s + mn t.W 0)) s = s + negS l
  | [], _, s, _, _ => by simp [negS]
  | t :: r, h, s, h0, h1 => by
    have ht := h t (by simp)
    have hl : ((t :: r).length : Int) = r.length + 1 := by simp
    rw [hl] at h1
    rw [List.foldl_cons, mn_eq, show w64 (s + min t.W 0) = s + min t.W 0 from w64_id (by omega), down_exact (fun u hu => h u (by simp [hu])) _ (by omega) (by omega), negS]; omega
theorem mul_reach {W v R : Int} (h0 : 0 ≤ R) (hv : -R ≤ v ∧ v ≤ R) : -(R * (max W 0 - min W 0)) ≤ W * v ∧ W * v ≤ R * (max W 0 - min W 0) := by
  rcases Int.le_total 0 W with h | h
  · rw [Int.max_eq_left h, Int.min_eq_right h, Int.sub_zero, Int.mul_comm R W]
    have a := Int.mul_le_mul_of_nonneg_left hv.2 h
    have b := Int.mul_le_mul_of_nonneg_left hv.1 h
    rw [Int.mul_neg] at b
    exact ⟨b, a⟩
  · rw [Int.max_eq_right h, Int.min_eq_left h]
    have e : R * (0 - W) = (-W) * R := by rw [Int.mul_comm]; congr 1; omega
    rw [e]
    have a := Int.mul_le_mul_of_nonneg_left hv.2 (show 0 ≤ -W by omega)
    have b := Int.mul_le_mul_of_nonneg_left hv.1 (show 0 ≤ -W by omega)
    have e2 : W * v = -((-W) * v) := by rw [Int.neg_mul]; omega
    rw [e2]
    rw [Int.mul_neg] at b
    omega
theorem sum_bound {a : List Int} {pad R : Int} (hR : 0 ≤ R ∧ R ≤ 128) : ∀ {l : List Term}, (∀ t ∈ l, -32768 ≤ t.W ∧ t.W ≤ 32767) → (∀ t ∈ l, -R ≤ vT a pad t ∧ vT a pad t ≤ R) → ∀ s : Int, -4611686018427387904 ≤ s - 4294967296 * l.length → s + 4294967296 * l.length ≤ 4611686018427387904 →
    s - R * (posS l - negS l) ≤ sumT s l a pad ∧ sumT s l a pad ≤ s + R * (posS l - negS l)
  | [], _, _, s, _, _ => by simp [posS, negS, sumT]
  | t :: r, hW, hv, s, h0, h1 => by
    have ht := hW t (by simp)
    have htv := hv t (by simp)
    have hl : ((t :: r).length : Int) = r.length + 1 := by simp
    rw [hl] at h0 h1
    obtain ⟨m1, m2⟩ := mul_reach (W := t.W) hR.1 htv
    have b1 : R * (max t.W 0 - min t.W 0) ≤ 128 * 32768 := Int.mul_le_mul hR.2 (by omega) (by omega) (by omega)
    have b0 : 0 ≤ R * (max t.W 0 - min t.W 0) := Int.mul_nonneg hR.1 (by omega)
    unfold sumT
    rw [List.foldl_cons, show w64 (t.W * vT a pad t) = t.W * vT a pad t from w64_id (by omega), show w64 (s + t.W * vT a pad t) = _ from w64_id (by omega)]
    have ih := sum_bound (a := a) (pad := pad) hR (l := r) (fun u hu => hW u (by simp [hu])) (fun u hu => hv u (by simp [hu])) (s + t.W * vT a pad t) (by omega) (by omega)
    unfold sumT at ih
    have e : R * (posS (t :: r) - negS (t :: r)) = R * (max t.W 0 - min t.W 0) + R * (posS r - negS r) := by
      rw [posS, negS, ← Int.mul_add]; congr 1; omega
    rw [e]; omega
/-- no padding: no tap outside -/
theorem no_pad {S : Site} (hS : SiteOk S) {at_ : Int} (hat : 0 ≤ at_ ∧ at_ < S.Out.H * S.Out.W) (hp : qPads S.Op.Win = false) (k1 : S.Op.Kind ≠ 1) {k : Nat} (hk : k < tapN S.Op.Win) : tapAt S at_ k ≠ -1 := by
  obtain ⟨w1, w2, w3, w4⟩ := hS.win k1
  have W := windowB_iff w1
  have B := shapeB_iff.1 hS.inB
  have O := shapeB_iff.1 hS.outB
  have hz : S.Op.Win.Top = 0 ∧ S.Op.Win.Left = 0 ∧ S.Op.Win.Bottom = 0 ∧ S.Op.Win.Right = 0 := by
    unfold qPads at hp; simp only [mx_eq] at hp
    have := of_decide_eq_false hp; omega
  obtain ⟨_, _, o3, o4⟩ := outE_zero w2
  obtain ⟨t1, t2, t3⟩ := taps_win hS k1
  have hH : S.Out.H = (S.In.H - S.Op.Win.KH) / S.Op.Win.SH + 1 ∧ 0 ≤ S.In.H - S.Op.Win.KH := by
    have e : spanH S.In S.Op.Win = S.In.H - S.Op.Win.KH := by unfold spanH; rw [hz.1, hz.2.2.1]; simp only [Int.add_zero]; rw [show w64 S.In.H = S.In.H from w64_id (by omega), show w64 S.In.H = S.In.H from w64_id (by omega)]; exact w64_id (by omega)
    rw [e] at o3
    refine ⟨?_, o3⟩
    have h0 : 0 ≤ (S.In.H - S.Op.Win.KH) / S.Op.Win.SH := Int.ediv_nonneg o3 (by omega)
    have h1 : (S.In.H - S.Op.Win.KH) / S.Op.Win.SH ≤ S.In.H - S.Op.Win.KH := Int.ediv_le_self _ o3
    rw [w3]; unfold outH
    rw [if_pos hS.inB, if_pos w1, if_neg (by omega), e, Int.tdiv_eq_ediv_of_nonneg o3, show w64 ((S.In.H - S.Op.Win.KH) / S.Op.Win.SH) = _ from w64_id (by omega)]
    exact w64_id (by omega)
  have hW : S.Out.W = (S.In.W - S.Op.Win.KW) / S.Op.Win.SW + 1 ∧ 0 ≤ S.In.W - S.Op.Win.KW := by
    have e : spanW S.In S.Op.Win = S.In.W - S.Op.Win.KW := by unfold spanW; rw [hz.2.1, hz.2.2.2]; simp only [Int.add_zero]; rw [show w64 S.In.W = S.In.W from w64_id (by omega), show w64 S.In.W = S.In.W from w64_id (by omega)]; exact w64_id (by omega)
    rw [e] at o4
    refine ⟨?_, o4⟩
    have h0 : 0 ≤ (S.In.W - S.Op.Win.KW) / S.Op.Win.SW := Int.ediv_nonneg o4 (by omega)
    have h1 : (S.In.W - S.Op.Win.KW) / S.Op.Win.SW ≤ S.In.W - S.Op.Win.KW := Int.ediv_le_self _ o4
    rw [w4]; unfold outW
    rw [if_pos hS.inB, if_pos w1, if_neg (by omega), e, Int.tdiv_eq_ediv_of_nonneg o4, show w64 ((S.In.W - S.Op.Win.KW) / S.Op.Win.SW) = _ from w64_id (by omega)]
    exact w64_id (by omega)
  -- the row and the column of the window
  have r0 : 0 ≤ at_ / S.Out.W := Int.ediv_nonneg hat.1 (by omega)
  have r1 : at_ / S.Out.W < S.Out.H := Int.ediv_lt_of_lt_mul (by omega) hat.2
  have c0 : 0 ≤ at_ % S.Out.W := Int.emod_nonneg _ (by omega)
  have c1 : at_ % S.Out.W < S.Out.W := Int.emod_lt_of_pos _ (by omega)
  have hkN : (k : Int) < S.Op.Win.KH * S.Op.Win.KW := by unfold tapN at hk; rw [t1] at hk; omega
  have y0 : 0 ≤ (k : Int) / S.Op.Win.KW := Int.ediv_nonneg (by omega) (by omega)
  have y1 : (k : Int) / S.Op.Win.KW < S.Op.Win.KH := Int.ediv_lt_of_lt_mul (by omega) hkN
  have x0 : 0 ≤ (k : Int) % S.Op.Win.KW := Int.emod_nonneg _ (by omega)
  have x1 : (k : Int) % S.Op.Win.KW < S.Op.Win.KW := Int.emod_lt_of_pos _ (by omega)
  have yy : at_ / S.Out.W * S.Op.Win.SH ≤ S.In.H - S.Op.Win.KH := by
    have h1 : at_ / S.Out.W ≤ (S.In.H - S.Op.Win.KH) / S.Op.Win.SH := by omega
    exact Int.le_trans (Int.mul_le_mul_of_nonneg_right h1 (by omega)) (Int.ediv_mul_le _ (by omega))
  have xx : at_ % S.Out.W * S.Op.Win.SW ≤ S.In.W - S.Op.Win.KW := by
    have h1 : at_ % S.Out.W ≤ (S.In.W - S.Op.Win.KW) / S.Op.Win.SW := by omega
    exact Int.le_trans (Int.mul_le_mul_of_nonneg_right h1 (by omega)) (Int.ediv_mul_le _ (by omega))
  have yy0 : 0 ≤ at_ / S.Out.W * S.Op.Win.SH := Int.mul_nonneg r0 (by omega)
  have xx0 : 0 ≤ at_ % S.Out.W * S.Op.Win.SW := Int.mul_nonneg c0 (by omega)
  unfold tapAt tapPlace tapsTop tapsLeft
  dsimp only
  rw [← w4, hz.1, hz.2.1, Int.tdiv_eq_ediv_of_nonneg hat.1, Int.tmod_eq_emod_of_nonneg hat.1, Int.tdiv_eq_ediv_of_nonneg (show 0 ≤ (k : Int) by omega), Int.tmod_eq_emod_of_nonneg (show 0 ≤ (k : Int) by omega)]
  have e1 : w64 (at_ / S.Out.W) = at_ / S.Out.W := w64_id (by omega)
  rw [e1]
  simp only [Int.sub_zero]
  generalize at_ / S.Out.W * S.Op.Win.SH = Y at *
  generalize at_ % S.Out.W * S.Op.Win.SW = X at *
  generalize (k : Int) / S.Op.Win.KW = ky at *
  generalize (k : Int) % S.Op.Win.KW = kx at *
  have a1 : w64 (w64 (w64 Y) + w64 ky) = Y + ky := by rw [show w64 Y = Y from w64_id (by omega), show w64 Y = Y from w64_id (by omega), show w64 ky = ky from w64_id (by omega)]; exact w64_id (by omega)
  have a2 : w64 (w64 (w64 X) + kx) = X + kx := by rw [show w64 X = X from w64_id (by omega), show w64 X = X from w64_id (by omega)]; exact w64_id (by omega)
  rw [a1, a2, show w64 (S.In.H - 1) = S.In.H - 1 from w64_id (by omega), show w64 (S.In.W - 1) = S.In.W - 1 from w64_id (by omega)]
  have b1 : inB (Y + ky) 0 (S.In.H - 1) = true := by simp [inB]; omega
  have b2 : inB (X + kx) 0 (S.In.W - 1) = true := by simp [inB]; omega
  rw [b1, b2]
  have z := yx_lt (y := Y + ky) (x := X + kx) (H := S.In.H) (W := S.In.W) (by omega) (by omega)
  have z2 : S.In.H * S.In.W ≤ 1024 * 1024 := Int.mul_le_mul B.1.2 B.2.1.2 (by omega) (by omega)
  have z0 : 0 ≤ (Y + ky) * S.In.W := Int.mul_nonneg (by omega) (by omega)
  show w64 (w64 ((Y + ky) * S.In.W) + (X + kx)) ≠ -1
  rw [show w64 ((Y + ky) * S.In.W) = (Y + ky) * S.In.W from w64_id (by omega), show w64 _ = _ from w64_id (by omega)]
  omega
end Go.AM
end
section
open Go Go.AM
set_option linter.unusedVariables false
set_option linter.unusedSimpArgs false
namespace Go.AM
theorem neg_pad {S : Site} (hS : SiteOk S) {ch at_ : Int} (hch : 1 ≤ ch ∧ ch ≤ S.Out.C) (hat : 0 ≤ at_ ∧ at_ < S.Out.H * S.Out.W) {t : Term} (ht : t ∈ tlF S ch at_) (hn : t.At < 0) : qPads S.Op.Win = true := by
  cases hq : qPads S.Op.Win with
  | true => rfl
  | false =>
    exfalso
    have B := shapeB_iff.1 hS.inB
    obtain ⟨i, hi⟩ := List.getElem?_of_mem ht
    have hlt : i < S.Len.toNat := by rw [← tlF_len hS ch at_]; exact (List.getElem?_eq_some_iff.1 hi).1
    have hg := tlF_get hS hch at_ hlt
    rw [List.getD_eq_getElem?_getD, hi] at hg
    simp only [Option.getD_some] at hg
    rw [hg] at hn
    dsimp only at hn
    unfold atF at hn
    by_cases k1 : S.Op.Kind = 1
    · rw [if_pos k1] at hn; omega
    · rw [if_neg k1] at hn
      obtain ⟨t1, t2, t3⟩ := taps_win hS k1
      by_cases k2 : S.Op.Kind = 2
      · rw [if_pos k2] at hn
        have hk : i / S.In.C.toNat < tapN S.Op.Win := by
          have hTn : tapN S.Op.Win * S.In.C.toNat = S.Len.toNat := by unfold tapN; rw [t1, hS.len2 k2, ← Int.toNat_mul (by omega) (by omega)]
          rw [Nat.div_lt_iff_lt_mul (by omega), hTn]; exact hlt
        have hm : i % S.In.C.toNat < S.In.C.toNat := Nat.mod_lt _ (by omega)
        rcases tapAt_range hS at_ (i / S.In.C.toNat) with h | h
        · exact no_pad hS hat hq k1 hk h
        · rw [if_neg (by omega)] at hn
          obtain ⟨e, h1, _⟩ := pc_val hS h (c := ((i % S.In.C.toNat : Nat) : Int)) ⟨Int.natCast_nonneg _, by have := Int.ofNat_lt.2 hm; omega⟩
          rw [e] at hn; omega
      · rw [if_neg k2] at hn
        have hk : i < tapN S.Op.Win := by unfold tapN; rw [t1, ← hS.len3 (by have := hS.kind; omega)]; exact hlt
        have o3 := hS.out3 (by have := hS.kind; omega)
        rcases tapAt_range hS at_ i with h | h
        · exact no_pad hS hat hq k1 hk h
        · rw [if_neg (by omega)] at hn
          obtain ⟨e, h1, _⟩ := pc_val hS h (c := ch - 1) ⟨by omega, by omega⟩
          rw [e] at hn; omega
theorem held {m : Model} (hm : m.Wf) {op ch : Int} {s : Span} (hq : quickE m op ch s = 0) {a : List Int} (ha : (a.length : Int) = (findS m op).In.H * (findS m op).In.W * (findS m op).In.C) (hs : ∀ x ∈ a, s.Lo ≤ x ∧ x ≤ s.Hi)
    {i : Nat} (hi : (i : Int) < (findS m op).Out.H * (findS m op).Out.W) : (quickS m op ch s).Lo ≤ oneSum m op a i (ch - 1).toNat ∧ oneSum m op a i (ch - 1).toNat ≤ (quickS m op ch s).Hi := by
  obtain ⟨e0, hb, hr, hQ⟩ := quick_ok hm hq
  obtain ⟨f0, fb, _⟩ := ofE_op e0
  obtain ⟨hS, _, hop, _⟩ := site_ok f0
  obtain ⟨hch, _⟩ := (ofBad_iff hS).1 fb
  have hat : 0 ≤ (i : Int) ∧ (i : Int) < (findS m op).Out.H * (findS m op).Out.W := ⟨by omega, hi⟩
  have hbi : ofBad (findS m op) ch i = false := (ofBad_iff hS).2 ⟨hch, hat⟩
  have ec : (((ch - 1).toNat : Nat) : Int) + 1 = ch := by omega
  have eb : biasF m op ch i = biasF m op ch 0 := by
    have hb0 : ofBad (findS m op) ch 0 = false := fb
    simp [biasF, f0, hbi, hb0]
  have hW := termsF_W hm op ch i
  have hl := termsF_len m op ch i
  have hv : ∀ t ∈ termsF m op ch i, -(reachV (findS m op).Op s) ≤ vT a (findS m op).Op.Pad t ∧ vT a (findS m op).Op.Pad t ≤ reachV (findS m op).Op s := by
    intro t ht
    rw [termsF_eq f0 hbi] at ht
    have hin := tlF_at hS hch i t ht
    unfold vT
    split
    · rename_i h0
      have hx : s.Lo ≤ a.getD t.At.toNat default ∧ a.getD t.At.toNat default ≤ s.Hi := by
        have hlt : t.At.toNat < a.length := by omega
        rw [List.getD_eq_getElem?_getD, List.getElem?_eq_getElem hlt]
        exact hs _ (List.getElem_mem hlt)
      rw [show w64 (a.getD t.At.toNat default) = a.getD t.At.toNat default from w64_id (by omega)]
      unfold reachV; split <;> omega
    · rename_i h0
      have hp := neg_pad hS hch hat ht (by omega)
      unfold reachV; rw [if_pos hp]; omega
  -- the weights are the same at each position
  have same : ∀ (j : Int), 0 ≤ j ∧ j < (findS m op).Out.H * (findS m op).Out.W → (termsF m op ch j).map Term.W = (List.range (findS m op).Len.toNat).map fun i => wtF (findS m op) ch i := by
    intro j hj
    have hbj : ofBad (findS m op) ch j = false := (ofBad_iff hS).2 ⟨hch, hj⟩
    rw [termsF_eq f0 hbj]
    apply List.ext_getElem?
    intro q
    rw [List.getElem?_map, List.getElem?_map]
    by_cases hlt : q < (findS m op).Len.toNat
    · have hg := tlF_get hS hch j hlt
      have hlt2 : q < (tlF (findS m op) ch j).length := by rw [tlF_len hS]; exact hlt
      rw [List.getD_eq_getElem?_getD, List.getElem?_eq_getElem hlt2] at hg
      simp only [Option.getD_some] at hg
      rw [List.getElem?_eq_getElem hlt2, hg, List.getElem?_range hlt]; rfl
    · rw [List.getElem?_eq_none (by rw [tlF_len hS]; omega), List.getElem?_eq_none (by simp; omega)]
      rfl
  have posW : ∀ l l' : List Term, l.map Term.W = l'.map Term.W → posS l = posS l' ∧ negS l = negS l' := by
    intro l
    induction l with
    | nil => intro l' h; cases l' with | nil => exact ⟨rfl, rfl⟩ | cons _ _ => simp at h
    | cons t r ih =>
      intro l' h
      cases l' with
      | nil => simp at h
      | cons t' r' =>
        simp only [List.map_cons, List.cons.injEq] at h
        obtain ⟨i1, i2⟩ := ih r' h.2
        simp only [posS, negS, h.1, i1, i2, and_self]
  have p0 : 0 ≤ (0 : Int) ∧ (0 : Int) < (findS m op).Out.H * (findS m op).Out.W := by have := out_pos hS; omega
  obtain ⟨q1, q2⟩ := posW _ _ ((same i hat).trans (same 0 p0).symm)
  have hW0 := termsF_W hm op ch 0
  have hl0 := termsF_len m op ch 0
  have u : upF (termsF m op ch 0) = posS (termsF m op ch i) := by
    have := up_exact hW0 0 (by omega) (by omega)
    rw [q1]; unfold upF; rw [this]; omega
  have d : downF (termsF m op ch 0) = negS (termsF m op ch i) := by
    have := down_exact hW0 0 (by omega) (by omega)
    rw [q2]; unfold downF; rw [this]; omega
  have hbd := biasF_bd hm op ch 0
  have := sum_bound (a := a) (pad := (findS m op).Op.Pad) hr hW hv (biasF m op ch 0) (by omega) (by omega)
  unfold oneSum
  rw [ec, eb, ← hop, hQ, u, d]
  exact this
end Go.AM
end
section
open Go Go.AM
set_option linter.unusedVariables false
set_option linter.unusedSimpArgs false
namespace Go.AM
def subS (a b : Span) : Prop := b.Lo ≤ a.Lo ∧ a.Hi ≤ b.Hi
def covH (h1 h2 : Hull) : Prop := h1.some = true → h2.some = true ∧ h2.Lo ≤ h1.Lo ∧ h1.Hi ≤ h2.Hi
def inH (s : Span) (h : Hull) : Prop := h.some = true ∧ h.Lo ≤ s.Lo ∧ s.Hi ≤ h.Hi
def bS (B : Int) (s : Span) : Prop := (-B ≤ s.Lo ∧ s.Lo ≤ B) ∧ -B ≤ s.Hi ∧ s.Hi ≤ B
theorem takeH_in (h : Hull) (s : Span) : inH s (takeH h s) := by
  unfold inH takeH joinS
  cases h.some
  · exact ⟨rfl, Int.le_refl _, Int.le_refl _⟩
  · simp only [cond_true, mn_eq, mx_eq]; exact ⟨trivial, by omega, by omega⟩
theorem takeH_cov (h : Hull) (s : Span) : covH h (takeH h s) := by
  intro hs
  unfold takeH joinS
  rw [hs]
  simp only [cond_true, mn_eq, mx_eq]; exact ⟨trivial, by omega, by omega⟩
theorem covH.refl (h : Hull) : covH h h := fun hs => ⟨hs, Int.le_refl _, Int.le_refl _⟩
theorem covH.trans {a b c : Hull} (h1 : covH a b) (h2 : covH b c) : covH a c := fun hs => by
  obtain ⟨p1, p2, p3⟩ := h1 hs
  obtain ⟨q1, q2, q3⟩ := h2 p1
  exact ⟨q1, by omega, by omega⟩
theorem inH.cov {s : Span} {a b : Hull} (h1 : inH s a) (h2 : covH a b) : inH s b := by
  obtain ⟨p1, p2, p3⟩ := h1
  obtain ⟨q1, q2, q3⟩ := h2 p1
  exact ⟨q1, by omega, by omega⟩
theorem inH.sub {s t : Span} {a : Hull} (h : subS s t) (h1 : inH t a) : inH s a := ⟨h1.1, by have := h1.2.1; have := h.1; omega, by have := h1.2.2; have := h.2; omega⟩
theorem takeH_le {h H : Hull} {s : Span} (h1 : covH h H) (h2 : inH s H) : covH (takeH h s) H := by
  intro _
  refine ⟨h2.1, ?_⟩
  unfold takeH joinS
  cases hs : h.some
  · exact ⟨h2.2.1, h2.2.2⟩
  · obtain ⟨q1, q2, q3⟩ := h1 hs
    have := h2.2
    simp only [cond_true, mn_eq, mx_eq]; exact ⟨by omega, by omega⟩
theorem takeH_mono {h1 h2 : Hull} {s1 s2 : Span} (h : covH h1 h2) (hs : subS s1 s2) : covH (takeH h1 s1) (takeH h2 s2) :=
  takeH_le (h.trans (takeH_cov _ _)) (.sub hs (takeH_in _ _))
theorem holds_of {s : Span} {h1 h2 : Hull} (h : covH h1 h2) (h0 : inH s h1) (hv : s.Lo ≤ s.Hi) : holdsF (hullS h2) (hullS h1) = true := by
  obtain ⟨p1, p2, p3⟩ := h0
  obtain ⟨q1, q2, q3⟩ := h p1
  unfold holdsF
  rw [decide_eq_true_eq]
  show h1.Lo ≤ h1.Hi ∧ h2.Lo ≤ h1.Lo ∧ h1.Hi ≤ h2.Hi
  omega
theorem fold_cov {g : Hull → List Span → Hull} (hg : ∀ h r, covH h (g h r)) : ∀ (l : List (List Span)) (h : Hull), covH h (l.foldl g h)
  | [], h => .refl h
  | r :: l, h => (hg h r).trans (fold_cov hg l _)
theorem bS0 {B : Int} (h : 0 ≤ B) : bS B ⟨0, 0⟩ := ⟨⟨by dsimp only; omega, by dsimp only; omega⟩, by dsimp only; omega, by dsimp only; omega⟩
theorem plus_eq {A : Int} {a x : Span} (ha : bS A a) (hx : bS 4194304 x) (hA : A ≤ 4611686018423193600) : plusS a x = ⟨a.Lo + x.Lo, a.Hi + x.Hi⟩ ∧ bS (A + 4194304) (plusS a x) := by
  obtain ⟨⟨a1, a2⟩, a3, a4⟩ := ha
  obtain ⟨⟨x1, x2⟩, x3, x4⟩ := hx
  have e : plusS a x = ⟨a.Lo + x.Lo, a.Hi + x.Hi⟩ := by
    unfold plusS; rw [show w64 (a.Lo + x.Lo) = _ from w64_id (by omega), show w64 (a.Hi + x.Hi) = _ from w64_id (by omega)]
  rw [e]
  exact ⟨rfl, ⟨by dsimp only; omega, by dsimp only; omega⟩, by dsimp only; omega, by dsimp only; omega⟩
theorem plus_mono {A : Int} {a b x y : Span} (ha : bS A a) (hb : bS A b) (hx : bS 4194304 x) (hy : bS 4194304 y) (hA : A ≤ 4611686018423193600) (h1 : subS a b) (h2 : subS x y) : subS (plusS a x) (plusS b y) := by
  rw [(plus_eq ha hx hA).1, (plus_eq hb hy hA).1]
  obtain ⟨a1, a2⟩ := h1
  obtain ⟨b1, b2⟩ := h2
  exact ⟨by dsimp only; omega, by dsimp only; omega⟩
/-- what a row's ends are bound by -/
def okF (T : List Term) (f : Term → Span) : Prop := ∀ t ∈ T, bS 4194304 (f t) ∧ (f t).Lo ≤ (f t).Hi
theorem okF.tail {t : Term} {T : List Term} {f : Term → Span} (h : okF (t :: T) f) : okF T f := fun u hu => h u (by simp [hu])
theorem sum_mono {f1 f2 : Term → Span} : ∀ (T : List Term), okF T f1 → okF T f2 → (∀ t ∈ T, subS (f1 t) (f2 t)) → ∀ (A : Int) (a1 a2 : Span), bS A a1 → bS A a2 → A + 4194304 * T.length ≤ 4611686018423193600 → subS a1 a2 → subS ((T.map f1).foldl plusS a1) ((T.map f2).foldl plusS a2)
  | [], _, _, _, _, _, _, _, _, _, h => h
  | t :: T, k1, k2, hs, A, a1, a2, b1, b2, hA, h => by
    have hl : ((t :: T).length : Int) = T.length + 1 := by simp
    rw [hl] at hA
    have x1 := (k1 t (by simp)).1
    have x2 := (k2 t (by simp)).1
    simp only [List.map_cons, List.foldl_cons]
    exact sum_mono T k1.tail k2.tail (fun u hu => hs u (by simp [hu])) (A + 4194304) _ _ (plus_eq b1 x1 (by omega)).2 (plus_eq b2 x2 (by omega)).2 (by omega) (plus_mono b1 b2 x1 x2 (by omega) h (hs t (by simp)))
theorem sum_valid {f : Term → Span} : ∀ (T : List Term), okF T f → ∀ (A : Int) (a : Span), bS A a → A + 4194304 * T.length ≤ 4611686018423193600 → a.Lo ≤ a.Hi → ((T.map f).foldl plusS a).Lo ≤ ((T.map f).foldl plusS a).Hi
  | [], _, _, _, _, _, h => h
  | t :: T, k1, A, a, b1, hA, h => by
    have hl : ((t :: T).length : Int) = T.length + 1 := by simp
    rw [hl] at hA
    have x1 := k1 t (by simp)
    simp only [List.map_cons, List.foldl_cons]
    have e := plus_eq b1 x1.1 (by omega)
    refine sum_valid T k1.tail (A + 4194304) _ e.2 (by omega) ?_
    rw [e.1]; dsimp only; omega
theorem run_mono {f1 f2 : Term → Span} : ∀ (T : List Term), okF T f1 → okF T f2 → (∀ t ∈ T, subS (f1 t) (f2 t)) → ∀ (A : Int) (a1 a2 : Span) (h1 h2 : Hull), bS A a1 → bS A a2 → A + 4194304 * T.length ≤ 4611686018423193600 → subS a1 a2 → covH h1 h2 → covH ((T.map f1).foldl runR (h1, a1)).1 ((T.map f2).foldl runR (h2, a2)).1
  | [], _, _, _, _, _, _, _, _, _, _, _, _, h => h
  | t :: T, k1, k2, hs, A, a1, a2, h1, h2, b1, b2, hA, h, hc => by
    have hl : ((t :: T).length : Int) = T.length + 1 := by simp
    rw [hl] at hA
    have x1 := (k1 t (by simp)).1
    have x2 := (k2 t (by simp)).1
    have hp := plus_mono b1 b2 x1 x2 (by omega) h (hs t (by simp))
    simp only [List.map_cons, List.foldl_cons, runR]
    exact run_mono T k1.tail k2.tail (fun u hu => hs u (by simp [hu])) (A + 4194304) _ _ _ _ (plus_eq b1 x1 (by omega)).2 (plus_eq b2 x2 (by omega)).2 (by omega) hp (takeH_mono hc hp)
theorem run_cov : ∀ (r : List Span) (h : Hull) (a : Span), covH h (r.foldl runR (h, a)).1
  | [], h, _ => .refl h
  | x :: r, h, a => by
    simp only [List.foldl_cons, runR]
    exact (takeH_cov h _).trans (run_cov r _ _)
theorem run_sum : ∀ (r : List Span) (h : Hull) (a : Span), inH a h → inH (r.foldl plusS a) (r.foldl runR (h, a)).1
  | [], _, _, h => h
  | x :: r, h, a, hi => by
    simp only [List.foldl_cons, runR]
    exact run_sum r _ _ (takeH_in _ _)
/-- Run holds Total -/
theorem tot_run (b : Int) : ∀ (l : List (List Span)) (h1 h2 : Hull), covH h1 h2 → covH (l.foldl (fun h r => takeH h (sumS b r)) h1) (l.foldl (fun h r => (r.foldl runR (takeH h ⟨b, b⟩, ⟨b, b⟩)).1) h2)
  | [], _, _, h => h
  | r :: l, h1, h2, h => by
    simp only [List.foldl_cons]
    refine tot_run b l _ _ (takeH_le ?_ ?_)
    · exact (h.trans (takeH_cov _ _)).trans (run_cov _ _ _)
    · exact run_sum r _ _ (takeH_in _ _)
/-- the parts -/
theorem part_some (D : Nat) (h : Hull) (r : List Span) : ∀ k, covH h (partG D h r k).1
  | 0 => .refl h
  | k + 1 => by
    unfold partG
    exact ((part_some D h r k).trans (takeH_cov _ _)).trans (takeH_cov _ _)
theorem part_mono {f1 f2 : Term → Span} {T : List Term} (D : Nat) (k1 : okF T f1) (k2 : okF T f2) (hs : ∀ t ∈ T, subS (f1 t) (f2 t)) (hl : T.length ≤ 1024) {h1 h2 : Hull} (hc : covH h1 h2) : ∀ k, k ≤ T.length →
    covH (partG D h1 (T.map f1) k).1 (partG D h2 (T.map f2) k).1 ∧ subS (partG D h1 (T.map f1) k).2 (partG D h2 (T.map f2) k).2 ∧ bS (4194304 * k) (partG D h1 (T.map f1) k).2 ∧ bS (4194304 * k) (partG D h2 (T.map f2) k).2
  | 0, _ => ⟨hc, ⟨Int.le_refl _, Int.le_refl _⟩, bS0 (by omega), bS0 (by omega)⟩
  | k + 1, hk => by
    obtain ⟨i1, i2, i3, i4⟩ := part_mono D k1 k2 hs hl hc k (by omega)
    have hk' : k < T.length := by omega
    have e1 : (T.map f1).getD k default = f1 (T.getD k default) := by simp [List.getD_eq_getElem?_getD, hk']
    have e2 : (T.map f2).getD k default = f2 (T.getD k default) := by simp [List.getD_eq_getElem?_getD, hk']
    have hin : T.getD k default ∈ T := by rw [List.getD_eq_getElem?_getD, List.getElem?_eq_getElem hk']; exact List.getElem_mem hk'
    unfold partG
    rw [e1, e2]
    have x1 := (k1 _ hin).1
    have x2 := (k2 _ hin).1
    have hx := hs _ hin
    generalize f1 (T.getD k default) = X1 at *
    generalize f2 (T.getD k default) = X2 at *
    obtain ⟨q1, hq1⟩ : ∃ q, q = (if k % D = 0 then (⟨0, 0⟩ : Span) else (partG D h1 (T.map f1) k).2) := ⟨_, rfl⟩
    obtain ⟨q2, hq2⟩ : ∃ q, q = (if k % D = 0 then (⟨0, 0⟩ : Span) else (partG D h2 (T.map f2) k).2) := ⟨_, rfl⟩
    rw [← hq1, ← hq2]
    have hsub : subS q1 q2 ∧ bS (4194304 * k) q1 ∧ bS (4194304 * k) q2 := by
      rw [hq1, hq2]
      split
      · exact ⟨⟨Int.le_refl _, Int.le_refl _⟩, bS0 (by omega), bS0 (by omega)⟩
      · exact ⟨i2, i3, i4⟩
    have hp := plus_mono hsub.2.1 hsub.2.2 x1 x2 (by omega) hsub.1 hx
    have b1 := (plus_eq hsub.2.1 x1 (by omega)).2
    have b2 := (plus_eq hsub.2.2 x2 (by omega)).2
    have ek : (4194304 : Int) * k + 4194304 = 4194304 * ((k + 1 : Nat) : Int) := by omega
    rw [ek] at b1 b2
    exact ⟨takeH_mono (takeH_mono i1 hp) hx, hp, b1, b2⟩
/-- the parts hold the products -/
theorem part_one {f : Term → Span} {T : List Term} (D : Nat) (k1 : okF T f) {h1 h2 : Hull} (hc : covH h1 h2) : ∀ k, k ≤ T.length → covH (partG 1 h1 (T.map f) k).1 (partG D h2 (T.map f) k).1
  | 0, _ => hc
  | k + 1, hk => by
    have ih := part_one D k1 hc k (by omega)
    have hk' : k < T.length := by omega
    have e1 : (T.map f).getD k default = f (T.getD k default) := by simp [List.getD_eq_getElem?_getD, hk']
    have hin : T.getD k default ∈ T := by rw [List.getD_eq_getElem?_getD, List.getElem?_eq_getElem hk']; exact List.getElem_mem hk'
    have x1 := (k1 _ hin).1
    unfold partG
    rw [e1, if_pos (Nat.mod_one k), (plus_eq (A := 0) (bS0 (by omega)) x1 (by omega)).1]
    simp only [Int.zero_add]
    refine takeH_le (takeH_le ?_ ?_) ?_
    · exact (ih.trans (takeH_cov _ _)).trans (takeH_cov _ _)
    · exact takeH_in _ _
    · exact takeH_in _ _
end Go.AM
end
section
open Go Go.AM
set_option linter.unusedVariables false
set_option linter.unusedSimpArgs false
set_option linter.unusedSectionVars false
namespace Go.AM
theorem tm_ok {s : Span} {w : Int} (hw : -32768 ≤ w ∧ w ≤ 32767) (hs : -128 ≤ s.Lo ∧ s.Lo ≤ s.Hi ∧ s.Hi ≤ 127) : bS 4194304 (tmS s w) ∧ (tmS s w).Lo ≤ (tmS s w).Hi := by
  have h1 := mul_small hw (show -128 ≤ s.Lo ∧ s.Lo ≤ 127 by omega)
  have h2 := mul_small hw (show -128 ≤ s.Hi ∧ s.Hi ≤ 127 by omega)
  rw [Int.mul_comm] at h1 h2
  unfold tmS
  by_cases c : w < 0
  · have := Int.mul_le_mul_of_nonpos_left (show w ≤ 0 by omega) hs.2.1
    rw [Int.mul_comm w s.Hi, Int.mul_comm w s.Lo] at this
    rw [if_pos c]; exact ⟨⟨⟨by dsimp only; omega, by dsimp only; omega⟩, by dsimp only; omega, by dsimp only; omega⟩, by dsimp only; omega⟩
  · have := Int.mul_le_mul_of_nonneg_left hs.2.1 (show 0 ≤ w by omega)
    rw [Int.mul_comm w s.Hi, Int.mul_comm w s.Lo] at this
    rw [if_neg c]; exact ⟨⟨⟨by dsimp only; omega, by dsimp only; omega⟩, by dsimp only; omega, by dsimp only; omega⟩, by dsimp only; omega⟩
theorem tm_mono {s y : Span} {w : Int} (h : subS s y) : subS (tmS s w) (tmS y w) := by
  obtain ⟨h1, h2⟩ := h
  unfold tmS
  by_cases c : w < 0
  · have a := Int.mul_le_mul_of_nonpos_left (show w ≤ 0 by omega) h1
    have b := Int.mul_le_mul_of_nonpos_left (show w ≤ 0 by omega) h2
    rw [if_pos c, if_pos c]
    refine ⟨?_, ?_⟩
    · dsimp only; rw [Int.mul_comm y.Hi w, Int.mul_comm s.Hi w]; exact b
    · dsimp only; rw [Int.mul_comm y.Lo w, Int.mul_comm s.Lo w]; exact a
  · have a := Int.mul_le_mul_of_nonneg_left h1 (show 0 ≤ w by omega)
    have b := Int.mul_le_mul_of_nonneg_left h2 (show 0 ≤ w by omega)
    rw [if_neg c, if_neg c]
    refine ⟨?_, ?_⟩
    · dsimp only; rw [Int.mul_comm y.Lo w, Int.mul_comm s.Lo w]; exact a
    · dsimp only; rw [Int.mul_comm y.Hi w, Int.mul_comm s.Hi w]; exact b
theorem end_ok {m : Model} (hm : m.Wf) {op ch : Int} {s : Span} (h : askE m op ch s = 0) (k : Int) : okF (termsF m op ch k) (endF (findS m op).Op.Pad s) := by
  obtain ⟨z, hs, f0⟩ := askE_zero h
  have hp := (pad_bd (site_ok f0).1).1
  intro t ht
  have hw := termsF_W hm op ch k t ht
  unfold endF
  split
  · exact tm_ok hw ⟨by dsimp only; omega, Int.le_refl _, by dsimp only; omega⟩
  · exact tm_ok hw hs
theorem end_mono (pad : Int) {s y : Span} (h : subS s y) (t : Term) : subS (endF pad s t) (endF pad y t) := by
  unfold endF
  split
  · exact ⟨Int.le_refl _, Int.le_refl _⟩
  · exact tm_mono h
theorem rows_cov {g1 g2 : Hull → List Span → Hull} {F1 F2 : Nat → List Span} (hg : ∀ k h1 h2, covH h1 h2 → covH (g1 h1 (F1 k)) (g2 h2 (F2 k))) : ∀ (ks : List Nat) (h1 h2 : Hull), covH h1 h2 → covH ((ks.map F1).foldl g1 h1) ((ks.map F2).foldl g2 h2)
  | [], _, _, h => h
  | k :: ks, h1, h2, h => by
    simp only [List.map_cons, List.foldl_cons]
    exact rows_cov hg ks _ _ (hg k _ _ h)
theorem rows_in {g : Hull → List Span → Hull} {F : Nat → List Span} {W : Hull} : ∀ (ks : List Nat) (h : Hull), (∀ k ∈ ks, ∀ h, covH h W → covH (g h (F k)) W) → covH h W → covH ((ks.map F).foldl g h) W
  | [], _, _, h => h
  | k :: ks, h1, hg, h => by
    simp only [List.map_cons, List.foldl_cons]
    exact rows_in ks _ (fun q hq => hg q (by simp [hq])) (hg k (by simp) _ h)
theorem posN_pos {m : Model} {op : Int} (h : findE m op = 0) : 1 ≤ posN m op := by
  have := out_pos (site_ok h).1
  unfold posN; omega
theorem bb {m : Model} (hm : m.Wf) (op ch : Int) : bS 2147483648 ⟨biasF m op ch 0, biasF m op ch 0⟩ := by
  have := biasF_bd hm op ch 0
  exact ⟨⟨by dsimp only; omega, by dsimp only; omega⟩, by dsimp only; omega, by dsimp only; omega⟩
section
variable {m : Model} (hm : m.Wf) {op ch : Int} {s y : Span} (hs : askE m op ch s = 0) (hy : askE m op ch y = 0)
include hm hs
theorem row_len (k : Int) : (termsF m op ch k).length ≤ 1024 := by have := termsF_len m op ch k; omega
/-- the first position's sum is held, and is a span -/
theorem tot_first : ∃ q : Span, q.Lo ≤ q.Hi ∧ inH q (totH (biasF m op ch 0) (rowsF m op ch s)) := by
  have hp := posN_pos (askE_zero hs).2.2
  refine ⟨sumS (biasF m op ch 0) (rowF m op ch s (0 : Nat)), ?_, ?_⟩
  · have hl := termsF_len m op ch ((0 : Nat) : Int)
    exact sum_valid _ (end_ok hm hs _) 2147483648 _ (bb hm op ch) (by omega) (Int.le_refl _)
  · unfold totH rowsF
    rw [show posN m op = (posN m op - 1) + 1 by omega, List.range_succ_eq_map, List.map_cons, List.foldl_cons]
    exact (takeH_in _ _).cov (fold_cov (g := fun h r => takeH h (sumS (biasF m op ch 0) r)) (fun _ _ => takeH_cov _ _) _ _)
theorem run_tot : covH (totH (biasF m op ch 0) (rowsF m op ch s)) (runH (biasF m op ch 0) (rowsF m op ch s)) := tot_run _ _ _ _ (.refl _)
theorem nest_run : holdsF (runS m op ch s) (totS m op ch s) = true := by
  obtain ⟨q, q1, q2⟩ := tot_first hm hs
  rw [runS, totS, if_pos hs, if_pos hs]
  exact holds_of (run_tot hm hs) q2 q1
theorem part_first {d : Int} : ∃ q : Span, q.Lo ≤ q.Hi ∧ inH q (partH d.toNat (rowsF m op ch s)) := by
  obtain ⟨z, hs', f0⟩ := askE_zero hs
  obtain ⟨_, fb, _⟩ := ofE_op z
  obtain ⟨hS, _⟩ := site_ok f0
  have hp := posN_pos f0
  have hl : (termsF m op ch ((0 : Nat) : Int)).length = (findS m op).Len.toNat := by
    show (termsF m op ch 0).length = _
    rw [termsF_eq f0 fb]; exact tlF_len hS ch 0
  have hl1 := hS.len
  have h0 : 0 < (termsF m op ch ((0 : Nat) : Int)).length := by omega
  have hin : (termsF m op ch ((0 : Nat) : Int)).getD 0 default ∈ termsF m op ch ((0 : Nat) : Int) := by rw [List.getD_eq_getElem?_getD, List.getElem?_eq_getElem h0]; exact List.getElem_mem h0
  have hle : ∀ (D : Nat) (h : Hull) (r : List Span) (k n : Nat), covH (partG D h r k).1 (partG D h r (k + n)).1 := by
    intro D h r k n
    induction n with
    | zero => exact .refl _
    | succ n ih =>
      refine ih.trans ?_
      show covH _ (partG D h r (k + n + 1)).1
      rw [partG]
      exact (takeH_cov _ _).trans (takeH_cov _ _)
  refine ⟨endF (findS m op).Op.Pad s ((termsF m op ch ((0 : Nat) : Int)).getD 0 default), (end_ok hm hs _ _ hin).2, ?_⟩
  unfold partH rowsF
  rw [show posN m op = (posN m op - 1) + 1 by omega, List.range_succ_eq_map, List.map_cons, List.foldl_cons]
  refine inH.cov ?_ (fold_cov (g := fun h r => (partG d.toNat h r r.length).1) (fun _ _ => part_some _ _ _ _) _ _)
  have hrl : (rowF m op ch s ((0 : Nat) : Int)).length = 1 + ((termsF m op ch ((0 : Nat) : Int)).length - 1) := by unfold rowF; rw [List.length_map]; omega
  rw [hrl]
  refine inH.cov ?_ (hle _ _ _ 1 _)
  have e : (rowF m op ch s ((0 : Nat) : Int)).getD 0 default = endF (findS m op).Op.Pad s ((termsF m op ch ((0 : Nat) : Int)).getD 0 default) := by
    unfold rowF; rw [List.getD_eq_getElem?_getD, List.getElem?_map, List.getD_eq_getElem?_getD, List.getElem?_eq_getElem h0]; rfl
  rw [← e, partG]
  exact takeH_in _ _
theorem nest_part {d : Int} (hd : partE m op ch s d = 0) : holdsF (partS m op ch s d) (partS m op ch s 1) = true := by
  obtain ⟨q, q1, q2⟩ := part_first (d := 1) hm hs
  rw [partS, partS, if_pos hd, if_pos (by rw [partE_one]; exact hs)]
  refine holds_of (rows_cov (fun k h1 h2 h => ?_) _ _ _ (.refl _)) q2 q1
  unfold rowF
  rw [List.length_map]
  exact part_one _ (end_ok hm hs _) h _ (Nat.le_refl _)
include hy
theorem nest_tot (h : subS s y) : holdsF (totS m op ch y) (totS m op ch s) = true := by
  obtain ⟨q, q1, q2⟩ := tot_first hm hs
  rw [totS, totS, if_pos hs, if_pos hy]
  refine holds_of (rows_cov (fun k h1 h2 hc => takeH_mono hc ?_) _ _ _ (.refl _)) q2 q1
  have hl := termsF_len m op ch k
  exact sum_mono _ (end_ok hm hs _) (end_ok hm hy _) (fun t _ => end_mono _ h t) 2147483648 _ _ (bb hm op ch) (bb hm op ch) (by omega) ⟨Int.le_refl _, Int.le_refl _⟩
theorem nest_runs (h : subS s y) : holdsF (runS m op ch y) (runS m op ch s) = true := by
  obtain ⟨q, q1, q2⟩ := tot_first hm hs
  rw [runS, runS, if_pos hs, if_pos hy]
  refine holds_of (rows_cov (fun k h1 h2 hc => ?_) _ _ _ (.refl _)) (q2.cov (run_tot hm hs)) q1
  have hl := termsF_len m op ch k
  exact run_mono _ (end_ok hm hs _) (end_ok hm hy _) (fun t _ => end_mono _ h t) 2147483648 _ _ _ _ (bb hm op ch) (bb hm op ch) (by omega) ⟨Int.le_refl _, Int.le_refl _⟩ (takeH_mono hc ⟨Int.le_refl _, Int.le_refl _⟩)
theorem nest_parts {d : Int} (h : subS s y) : holdsF (partS m op ch y d) (partS m op ch s d) = true := by
  by_cases hd : partE m op ch s d = 0
  · have hd2 : partE m op ch y d = 0 := by unfold partE at hd ⊢; rw [if_pos hs] at hd; rw [if_pos hy]; exact hd
    obtain ⟨q, q1, q2⟩ := part_first (d := d) hm hs
    rw [partS, partS, if_pos hd, if_pos hd2]
    refine holds_of (rows_cov (fun k h1 h2 hc => ?_) _ _ _ (.refl _)) q2 q1
    unfold rowF
    rw [List.length_map, List.length_map]
    exact (part_mono _ (end_ok hm hs _) (end_ok hm hy _) (fun t _ => end_mono _ h t) (row_len hm hs _) hc _ (Nat.le_refl _)).1
  · have hd2 : ¬ partE m op ch y d = 0 := by unfold partE at hd ⊢; rw [if_pos hs] at hd; rw [if_pos hy]; exact hd
    rw [partS, partS, if_neg hd, if_neg hd2]; rfl
end
end Go.AM
end
section
open Go Go.AM
set_option linter.unusedVariables false
set_option linter.unusedSimpArgs false
namespace Go.AM
theorem run_in {W : Hull} {R : Int} (hR : 0 ≤ R ∧ R ≤ 128) {f : Term → Span} : ∀ (T : List Term), okF T f → (∀ t ∈ T, -32768 ≤ t.W ∧ t.W ≤ 32767) → (∀ t ∈ T, -(R * (max t.W 0 - min t.W 0)) ≤ (f t).Lo ∧ (f t).Hi ≤ R * (max t.W 0 - min t.W 0)) →
    ∀ (A : Int) (a : Span) (h : Hull), bS A a → A + 4194304 * T.length ≤ 4611686018423193600 → W.some = true → covH h W → W.Lo ≤ a.Lo - R * (posS T - negS T) ∧ a.Hi + R * (posS T - negS T) ≤ W.Hi → covH ((T.map f).foldl runR (h, a)).1 W
  | [], _, _, _, _, _, _, _, _, _, h, _ => h
  | t :: T, k1, hW, hv, A, a, h, b1, hA, hs, hc, hb => by
    have hl : ((t :: T).length : Int) = T.length + 1 := by simp
    rw [hl] at hA
    have x1 := (k1 t (by simp)).1
    have ht := hW t (by simp)
    have htv := hv t (by simp)
    have e : R * (posS (t :: T) - negS (t :: T)) = R * (max t.W 0 - min t.W 0) + R * (posS T - negS T) := by
      rw [posS, negS, ← Int.mul_add]; congr 1; omega
    rw [e] at hb
    have hpn := pos_bd (l := T) (fun u hu => hW u (by simp [hu]))
    have h0 : 0 ≤ R * (posS T - negS T) := Int.mul_nonneg hR.1 (by omega)
    have ep := plus_eq b1 x1 (by omega)
    simp only [List.map_cons, List.foldl_cons, runR]
    have hin : W.Lo ≤ (plusS a (f t)).Lo - R * (posS T - negS T) ∧ (plusS a (f t)).Hi + R * (posS T - negS T) ≤ W.Hi := by
      rw [ep.1]; exact ⟨by dsimp only; omega, by dsimp only; omega⟩
    exact run_in hR T k1.tail (fun u hu => hW u (by simp [hu])) (fun u hu => hv u (by simp [hu])) (A + 4194304) _ _ ep.2 (by omega) hs (takeH_le hc ⟨hs, by omega, by omega⟩) hin
theorem tm_reach {s : Span} {w R : Int} (hR : 0 ≤ R) (hl : -R ≤ s.Lo ∧ s.Lo ≤ R) (hh : -R ≤ s.Hi ∧ s.Hi ≤ R) : -(R * (max w 0 - min w 0)) ≤ (tmS s w).Lo ∧ (tmS s w).Hi ≤ R * (max w 0 - min w 0) := by
  have a := mul_reach (W := w) hR hl
  have b := mul_reach (W := w) hR hh
  rw [Int.mul_comm w] at a b
  unfold tmS
  by_cases c : w < 0
  · rw [if_pos c]; dsimp only; omega
  · rw [if_neg c]; dsimp only; omega
theorem quickE_ask {m : Model} {op ch : Int} {s : Span} (h : askE m op ch s = 0) : quickE m op ch s = 0 := by
  obtain ⟨z, hs, f0⟩ := askE_zero h
  unfold quickE
  rw [if_pos z, if_neg (by rw [(qBad_iff.2 hs)]; simp)]
/-- the weights are the same at each position -/
theorem same_w {S : Site} (hS : SiteOk S) {ch : Int} (hch : 1 ≤ ch ∧ ch ≤ S.Out.C) (j : Int) : (tlF S ch j).map Term.W = (List.range S.Len.toNat).map fun i => wtF S ch i := by
  apply List.ext_getElem?
  intro q
  rw [List.getElem?_map, List.getElem?_map]
  by_cases hlt : q < S.Len.toNat
  · have hg := tlF_get hS hch j hlt
    have hlt2 : q < (tlF S ch j).length := by rw [tlF_len hS]; exact hlt
    rw [List.getD_eq_getElem?_getD, List.getElem?_eq_getElem hlt2] at hg
    simp only [Option.getD_some] at hg
    rw [List.getElem?_eq_getElem hlt2, hg, List.getElem?_range hlt]; rfl
  · rw [List.getElem?_eq_none (by rw [tlF_len hS]; omega), List.getElem?_eq_none (by simp; omega)]
    rfl
theorem pos_w : ∀ l l' : List Term, l.map Term.W = l'.map Term.W → posS l = posS l' ∧ negS l = negS l'
  | [], [], _ => ⟨rfl, rfl⟩
  | [], _ :: _, h => by simp at h
  | _ :: _, [], h => by simp at h
  | t :: r, t' :: r', h => by
    simp only [List.map_cons, List.cons.injEq] at h
    obtain ⟨i1, i2⟩ := pos_w r r' h.2
    simp only [posS, negS, h.1, i1, i2, and_self]
theorem nest_quick {m : Model} (hm : m.Wf) {op ch : Int} {s : Span} (h : askE m op ch s = 0) : holdsF (quickS m op ch s) (runS m op ch s) = true := by
  obtain ⟨q, q1, q2⟩ := tot_first hm h
  obtain ⟨e0, hb, hr, hQ⟩ := quick_ok hm (quickE_ask h)
  obtain ⟨z, hs, f0⟩ := askE_zero h
  obtain ⟨_, fb, _⟩ := ofE_op z
  obtain ⟨hS, _⟩ := site_ok f0
  obtain ⟨hch, hat0⟩ := (ofBad_iff hS).1 fb
  have hl0 := termsF_len m op ch 0
  have hW0 := termsF_W hm op ch 0
  have u : upF (termsF m op ch 0) = posS (termsF m op ch 0) := by
    have := up_exact hW0 0 (by omega) (by omega)
    unfold upF; rw [this]; omega
  have d : downF (termsF m op ch 0) = negS (termsF m op ch 0) := by
    have := down_exact hW0 0 (by omega) (by omega)
    unfold downF; rw [this]; omega
  rw [u, d] at hQ
  have key : covH (runH (biasF m op ch 0) (rowsF m op ch s)) ⟨(quickS m op ch s).Lo, (quickS m op ch s).Hi, true⟩ := by
    unfold runH rowsF
    refine rows_in _ _ (fun k hk h1 hc => ?_) (fun hq => by cases hq)
    have hk' : k < posN m op := List.mem_range.1 hk
    have hat : 0 ≤ (k : Int) ∧ (k : Int) < (findS m op).Out.H * (findS m op).Out.W := ⟨by omega, by unfold posN at hk'; omega⟩
    have hbk : ofBad (findS m op) ch k = false := (ofBad_iff hS).2 ⟨hch, hat⟩
    have hl := termsF_len m op ch k
    have hW := termsF_W hm op ch k
    obtain ⟨p1, p2⟩ := pos_w (termsF m op ch k) (termsF m op ch 0) (by rw [termsF_eq f0 hbk, termsF_eq f0 fb, same_w hS hch, same_w hS hch])
    have hpn := pos_bd hW0
    have hD : 0 ≤ reachV (findS m op).Op s * (posS (termsF m op ch 0) - negS (termsF m op ch 0)) := Int.mul_nonneg hr.1 (by omega)
    refine run_in hr _ (end_ok hm h _) hW (fun t ht => ?_) 2147483648 _ _ (bb hm op ch) (by omega) rfl (takeH_le hc ⟨rfl, ?_, ?_⟩) ⟨?_, ?_⟩
    · rw [termsF_eq f0 hbk] at ht
      unfold endF
      split
      · rename_i hn
        have hp := neg_pad hS hch hat ht hn
        have hb : -(reachV (findS m op).Op s) ≤ (findS m op).Op.Pad ∧ (findS m op).Op.Pad ≤ reachV (findS m op).Op s := by unfold reachV; rw [if_pos hp]; omega
        exact tm_reach hr.1 hb hb
      · exact tm_reach hr.1 (by unfold reachV; split <;> omega) (by unfold reachV; split <;> omega)
    · rw [hQ]; dsimp only; omega
    · rw [hQ]; dsimp only; omega
    · rw [hQ, p1, p2]; dsimp only; omega
    · rw [hQ, p1, p2]; dsimp only; omega
  rw [runS, if_pos h]
  exact holds_of key (q2.cov (run_tot hm h)) q1
end Go.AM
end
section
open Go Go.AM Go.Proofs
set_option maxRecDepth 10000
set_option linter.unusedVariables false
set_option linter.unusedSimpArgs false
namespace Go.AM
def elemsI (m : Model) (op : Int) : Int := (findS m op).In.H * (findS m op).In.W * (findS m op).In.C
def totE (m : Model) (op : Int) (a : List Int) : Int := if findE m op = 0 then if (a.length : Int) = elemsI m op then 0 else 70 else findE m op
def totL (m : Model) (op : Int) (a : List Int) : List Int := if totE m op a = 0 then sumsF m op a else []
theorem plain_Totals (m : Model) (op : Int) (a : List Int) : Ok Try.prog 36 [.agg (modelC m), .int .i64 op, .ro (a.map i8C)] (.tup [.ro ((totL m op a).map intC), .int .i64 (totE m op a)]) := by
  by_cases h0 : findE m op = 0
  · have hc20 : (findE m op != 0) = false := by simp [h0]
    obtain ⟨hS, ⟨o1, o2⟩, hop, he, hFS⟩ := site_ok h0
    have hn := (whole_ok he).1
    have hwl := (whole_ok he).2.2.2.1
    have B := shapeB_iff.1 hS.inB
    have ow : IntKind.i64.wrap (op - 1) = op - 1 := w64_id (by omega)
    have i0 : 0 ≤ IntKind.i64.wrap (op - 1) := by rw [ow]; omega
    have i1 : IntKind.i64.wrap (op - 1) < (m.Ops.length : Int) := by rw [ow]; omega
    have hA := whole_A he (i := (op - 1).toNat) (by omega)
    have a0 : 0 ≤ (m.Ops.getD (IntKind.i64.wrap (op - 1)).toNat default).A := by rw [ow]; exact hA.1
    have a1 : (m.Ops.getD (IntKind.i64.wrap (op - 1)).toNat default).A < ((wholeF m).1.length : Int) := by rw [ow, hwl]; omega
    have hIn : (wholeF m).1.getD (m.Ops.getD (IntKind.i64.wrap (op - 1)).toNat default).A.toNat default = (findS m op).In := by rw [ow, hFS]; rfl
    have el : w64 (w64 ((findS m op).In.H * (findS m op).In.W) * (findS m op).In.C) = elemsI m op := by
      have c0 : 0 ≤ (findS m op).In.H * (findS m op).In.W := Int.mul_nonneg (by omega) (by omega)
      have c1 : (findS m op).In.H * (findS m op).In.W ≤ 1024 * 1024 := Int.mul_le_mul B.1.2 B.2.1.2 (by omega) (by omega)
      rw [show w64 ((findS m op).In.H * (findS m op).In.W) = _ from w64_id (by omega)]
      have c2 : 0 ≤ (findS m op).In.H * (findS m op).In.W * (findS m op).In.C := Int.mul_nonneg c0 (by omega)
      exact w64_id (by omega)
    --@@1
    skip
    refine fn_ok Tb_ok (fn := Try.f36) Try.func36 rfl rfl (e := [(0, _), (1, _), (2, _)]) rfl (by decide) rfl ?_
    refine zs ?_
    refine zR ?_
    refine zbx [.int _ _, .int _ _, .int _ _, .int _ _, .int _ _, _, .int _ _] 7 ?_
    refine zLN ?_
    refine zLI ?_
    refine zn ?_
    refine zs ?_
    refine zs ?_
    refine zR ?_
    refine zLG [.int _ _, .int _ _, .int _ _, .int _ _, .int _ _, _, .int _ _] ?_
    refine zLI ?_
    refine zLc (terms_Length m op) ?_
    refine zLT [_, _] ?_
    refine zLI ?_
    refine zLI ?_
    refine zLI ?_
    refine zLI ?_
    refine zn ?_
    refine zs ?_
    refine zR ?_
    refine zLI ?_
    refine zLB ?_
    refine zn ?_
    refine W_cond_f (b := _) rfl (by exact hc20) ?_
    refine zk ?_
    refine zs ?_
    refine zR ?_
    refine zLG [.int _ _, .int _ _, .int _ _, .int _ _, .int _ _, _, .int _ _] ?_
    refine zLc (model_Shapes m) ?_
    refine zLT [_, _] ?_
    refine zLO ?_
    refine zLG [.int _ _, .int _ _, .int _ _] ?_
    refine zal [.int .i64 0, .int .i64 0, .int .i64 0] 3 ?_
    refine zLO ?_
    refine zst (.agg [.int _ _, .int _ _, .int _ _]) [_, _, _] [[_, _, _]] ?_
    refine zn ?_
    refine zs ?_
    refine zR ?_
    refine zLO ?_
    refine zLP ?_
    refine zLO ?_
    refine zLI ?_
    refine zLI ?_
    (refine L_v Tb_ok (v := _) (ave_index_ro rfl rfl rfl (fun _ => rfl) rfl (by first | exact i0 | exact i1) (by first | exact i0 | exact i1) trivial) rfl ?_)
    refine zLQ ?_
    refine zLI ?_
    (refine L_v Tb_ok (v := _) (ave_index_ro rfl rfl rfl (fun _ => rfl) rfl (by first | exact a0 | exact a1) (by first | exact a0 | exact a1) trivial) rfl ?_)
    refine zLG [.int _ _, .int _ _, .int _ _] ?_
    refine zal [.int .i64 0, .int .i64 0, .int .i64 0] 3 ?_
    refine zst (.agg [.int _ _, .int _ _, .int _ _]) [_, _, _] [[_, _, _]] ?_
    refine zn ?_
    refine zs ?_
    refine zs ?_
    refine zR ?_
    refine zLO ?_
    refine zLI ?_
    refine zLP ?_
    refine zLI ?_
    refine zLP ?_
    refine zLI ?_
    refine zLI ?_
    refine zLP ?_
    refine zLI ?_
    refine zLI ?_
    refine zLB ?_
    refine zn ?_
    refine W_cond (b := _) rfl (fun h47 => ?_) (fun h47 => ?_)
    · have hne : ¬ (a.length : Int) = elemsI m op := by rw [← el, ← hIn]; simpa [w64] using h47
      refine zs ?_
      refine zR ?_
      refine zLN ?_
      refine zLI ?_
      refine zn ?_
      refine zt ?_
      (refine ends (l := [.nils, .int _ _]) (q := .tup [.ro _, .int _ _]) (.inr rfl) rfl ⟨trivial, trivial, trivial⟩ rfl rfl ?_)
      simp [totL, totE, h0, hne, demC]
    · have hla : (a.length : Int) = elemsI m op := by rw [← el, ← hIn]; simpa [w64] using h47
      refine zk ?_
      refine zs ?_
      refine zR ?_
      refine zLG [.int _ _, .int _ _, .int _ _, .int _ _, .int _ _, _, .int _ _] ?_
      refine zLI ?_
      refine zLO ?_
      refine zLc (plain_sums m op a h0 hla) ?_
      refine zLO ?_
      refine zLI ?_
      refine zn ?_
      refine zt ?_
      (refine ends (l := [.ro _, .int _ _]) (q := .tup [.ro _, .int _ _]) (.inr rfl) rfl ⟨trivial, trivial, trivial⟩ rfl rfl ?_)
      simp [totL, totE, h0, hla]
  · have hc20 : (findE m op != 0) = true := by simp [h0]
    --@@2
    skip
    refine fn_ok Tb_ok (fn := Try.f36) Try.func36 rfl rfl (e := [(0, _), (1, _), (2, _)]) rfl (by decide) rfl ?_
    refine zs ?_
    refine zR ?_
    refine zbx [.int _ _, .int _ _, .int _ _, .int _ _, .int _ _, _, .int _ _] 7 ?_
    refine zLN ?_
    refine zLI ?_
    refine zn ?_
    refine zs ?_
    refine zs ?_
    refine zR ?_
    refine zLG [.int _ _, .int _ _, .int _ _, .int _ _, .int _ _, _, .int _ _] ?_
    refine zLI ?_
    refine zLc (terms_Length m op) ?_
    refine zLT [_, _] ?_
    refine zLI ?_
    refine zLI ?_
    refine zLI ?_
    refine zLI ?_
    refine zn ?_
    refine zs ?_
    refine zR ?_
    refine zLI ?_
    refine zLB ?_
    refine zn ?_
    refine W_cond_t (b := _) rfl (by exact hc20) ?_
    refine zs ?_
    refine zR ?_
    refine zLI ?_
    refine zLN ?_
    refine zLI ?_
    refine zn ?_
    refine zt ?_
    (refine ends (l := [.nils, .int _ _]) (q := .tup [.ro _, .int _ _]) (.inr rfl) rfl ⟨trivial, trivial, trivial⟩ rfl rfl ?_)
    simp [totL, totE, h0, demC]
end Go.AM
end
section
open Go Go.AM
set_option linter.unusedVariables false
set_option linter.unusedSimpArgs false
namespace Go.AM
theorem fold_lo : ∀ (q : List Span) (h : Hull), ((q.foldl takeH h).Lo = h.Lo ∧ (h.some = true ∨ q = [])) ∨ ∃ x ∈ q, (q.foldl takeH h).Lo = x.Lo
  | [], h => .inl ⟨rfl, .inr rfl⟩
  | x :: q, h => by
    simp only [List.foldl_cons]
    rcases fold_lo q (takeH h x) with ⟨e, _⟩ | ⟨y, hy, e⟩
    · rw [e]
      unfold takeH joinS
      cases hs : h.some
      · exact .inr ⟨x, by simp, rfl⟩
      · simp only [cond_true, mn_eq]
        rcases Int.le_total h.Lo x.Lo with c | c
        · exact .inl ⟨by omega, .inl trivial⟩
        · exact .inr ⟨x, by simp, by omega⟩
    · exact .inr ⟨y, by simp [hy], e⟩
theorem fold_hi : ∀ (q : List Span) (h : Hull), ((q.foldl takeH h).Hi = h.Hi ∧ (h.some = true ∨ q = [])) ∨ ∃ x ∈ q, (q.foldl takeH h).Hi = x.Hi
  | [], h => .inl ⟨rfl, .inr rfl⟩
  | x :: q, h => by
    simp only [List.foldl_cons]
    rcases fold_hi q (takeH h x) with ⟨e, _⟩ | ⟨y, hy, e⟩
    · rw [e]
      unfold takeH joinS
      cases hs : h.some
      · exact .inr ⟨x, by simp, rfl⟩
      · simp only [cond_true, mx_eq]
        rcases Int.le_total x.Hi h.Hi with c | c
        · exact .inl ⟨by omega, .inl trivial⟩
        · exact .inr ⟨x, by simp, by omega⟩
    · exact .inr ⟨y, by simp [hy], e⟩
theorem totH_map (b : Int) (l : List (List Span)) : totH b l = (l.map (sumS b)).foldl takeH ⟨0, 0, false⟩ := by unfold totH; rw [List.foldl_map]
/-- each end of Total is some position's -/
theorem tot_ends (b : Int) {l : List (List Span)} (hl : l ≠ []) : (∃ k, k < l.length ∧ (totH b l).Lo = (sumS b (l.getD k default)).Lo) ∧ ∃ k, k < l.length ∧ (totH b l).Hi = (sumS b (l.getD k default)).Hi := by
  have get : ∀ x ∈ l.map (sumS b), ∃ k, k < l.length ∧ x = sumS b (l.getD k default) := by
    intro x hx
    obtain ⟨r, hr, rfl⟩ := List.mem_map.1 hx
    obtain ⟨k, hk, he⟩ := List.getElem_of_mem hr
    exact ⟨k, hk, by rw [List.getD_eq_getElem?_getD, List.getElem?_eq_getElem hk, he]; rfl⟩
  rw [totH_map]
  refine ⟨?_, ?_⟩
  · rcases fold_lo (l.map (sumS b)) ⟨0, 0, false⟩ with ⟨_, h | h⟩ | ⟨x, hx, e⟩
    · cases h
    · exact absurd (List.map_eq_nil_iff.1 h) hl
    · obtain ⟨k, hk, rfl⟩ := get x hx; exact ⟨k, hk, e⟩
  · rcases fold_hi (l.map (sumS b)) ⟨0, 0, false⟩ with ⟨_, h | h⟩ | ⟨x, hx, e⟩
    · cases h
    · exact absurd (List.map_eq_nil_iff.1 h) hl
    · obtain ⟨k, hk, rfl⟩ := get x hx; exact ⟨k, hk, e⟩
/-- each position's sum is held -/
theorem tot_has (b : Int) {l : List (List Span)} {k : Nat} (hk : k < l.length) : inH (sumS b (l.getD k default)) (totH b l) := by
  have e : totH b l = (l.drop (k + 1)).foldl (fun h r => takeH h (sumS b r)) ((l.take (k + 1)).foldl (fun h r => takeH h (sumS b r)) ⟨0, 0, false⟩) := by unfold totH; rw [← List.foldl_append, List.take_append_drop]
  rw [e, take_fold (fun h r => takeH h (sumS b r)) ⟨0, 0, false⟩ hk]
  exact (takeH_in _ _).cov (fold_cov (g := fun h r => takeH h (sumS b r)) (fun _ _ => takeH_cov _ _) _ _)
/-- a sum of the values that make it least, or greatest -/
theorem sumT_lo {f : Term → Span} {x : List Int} {pad : Int} : ∀ (T : List Term) (b c : Int), (∀ t ∈ T, w64 (t.W * vT x pad t) = (f t).Lo) → sumT b T x pad = ((T.map f).foldl plusS ⟨b, c⟩).Lo
  | [], _, _, _ => rfl
  | t :: T, b, c, h => by
    unfold sumT
    simp only [List.foldl_cons, List.map_cons]
    rw [h t (by simp)]
    exact sumT_lo T _ (w64 (c + (f t).Hi)) (fun u hu => h u (by simp [hu]))
theorem sumT_hi {f : Term → Span} {x : List Int} {pad : Int} : ∀ (T : List Term) (b c : Int), (∀ t ∈ T, w64 (t.W * vT x pad t) = (f t).Hi) → sumT b T x pad = ((T.map f).foldl plusS ⟨c, b⟩).Hi
  | [], _, _, _ => rfl
  | t :: T, b, c, h => by
    unfold sumT
    simp only [List.foldl_cons, List.map_cons]
    rw [h t (by simp)]
    exact sumT_hi T _ (w64 (c + (f t).Lo)) (fun u hu => h u (by simp [hu]))
end Go.AM
end
section
open Go Go.AM
set_option linter.unusedVariables false
set_option linter.unusedSimpArgs false
namespace Go.AM
theorem yx_inj {y x y' x' W : Int} (hx : 0 ≤ x ∧ x < W) (hx' : 0 ≤ x' ∧ x' < W) (h : y * W + x = y' * W + x') : y = y' ∧ x = x' := by
  have e1 : (y * W + x) / W = y := by rw [Int.add_comm, Int.add_mul_ediv_right _ _ (by omega), Int.ediv_eq_zero_of_lt hx.1 hx.2]; omega
  have e2 : (y' * W + x') / W = y' := by rw [Int.add_comm, Int.add_mul_ediv_right _ _ (by omega), Int.ediv_eq_zero_of_lt hx'.1 hx'.2]; omega
  have : y = y' := by rw [← e1, ← e2, h]
  subst this
  omega
/-- two taps that cover the same place are one -/
theorem tap_inj {S : Site} (hS : SiteOk S) (k1 : S.Op.Kind ≠ 1) (at_ : Int) (hat : 0 ≤ at_ ∧ at_ < S.Out.H * S.Out.W) {k k' : Nat} (hk : k < tapN S.Op.Win) (hk' : k' < tapN S.Op.Win) (h0 : 0 ≤ tapAt S at_ k) (h : tapAt S at_ k = tapAt S at_ k') : k = k' := by
  obtain ⟨w1, w2, w3, w4⟩ := hS.win k1
  have W := windowB_iff w1
  have B := shapeB_iff.1 hS.inB
  obtain ⟨t1, t2, t3⟩ := taps_win hS k1
  have hkN : (k : Int) < S.Op.Win.KH * S.Op.Win.KW := by unfold tapN at hk; rw [t1] at hk; omega
  have hkN' : (k' : Int) < S.Op.Win.KH * S.Op.Win.KW := by unfold tapN at hk'; rw [t1] at hk'; omega
  have fl : ∀ q : Nat, (q : Int) < S.Op.Win.KH * S.Op.Win.KW → 0 ≤ (q : Int) / S.Op.Win.KW ∧ (q : Int) / S.Op.Win.KW < S.Op.Win.KH ∧ 0 ≤ (q : Int) % S.Op.Win.KW ∧ (q : Int) % S.Op.Win.KW < S.Op.Win.KW ∧ (q : Int) = (q : Int) / S.Op.Win.KW * S.Op.Win.KW + (q : Int) % S.Op.Win.KW := fun q hq =>
    ⟨Int.ediv_nonneg (by omega) (by omega), Int.ediv_lt_of_lt_mul (by omega) hq, Int.emod_nonneg _ (by omega), Int.emod_lt_of_pos _ (by omega), by rw [Int.mul_comm]; exact (Int.mul_ediv_add_emod _ _).symm⟩
  obtain ⟨a1, a2, a3, a4, a5⟩ := fl k hkN
  obtain ⟨b1, b2, b3, b4, b5⟩ := fl k' hkN'
  rcases tap_range hS.inB S.Op.Win (tapsTop S.In S.Op.Win at_) (tapsLeft S.In S.Op.Win at_) k with e | ⟨y, x, hy, hx, e, ey, ex⟩
  · exact absurd e (by unfold tapAt at h0; omega)
  rcases tap_range hS.inB S.Op.Win (tapsTop S.In S.Op.Win at_) (tapsLeft S.In S.Op.Win at_) k' with e' | ⟨y', x', hy', hx', e', ey', ex'⟩
  · exact absurd e' (by rw [h] at h0; unfold tapAt at h0; omega)
  have hh : y * S.In.W + x = y' * S.In.W + x' := by rw [← e, ← e']; exact h
  obtain ⟨y1, x1⟩ := yx_inj hx hx' hh
  rw [Int.tdiv_eq_ediv_of_nonneg (show 0 ≤ (k : Int) by omega)] at ey
  rw [Int.tmod_eq_emod_of_nonneg (show 0 ≤ (k : Int) by omega)] at ex
  rw [Int.tdiv_eq_ediv_of_nonneg (show 0 ≤ (k' : Int) by omega)] at ey'
  rw [Int.tmod_eq_emod_of_nonneg (show 0 ≤ (k' : Int) by omega)] at ex'
  rw [show w64 ((k : Int) / S.Op.Win.KW) = _ from w64_id (by omega)] at ey
  rw [show w64 ((k' : Int) / S.Op.Win.KW) = _ from w64_id (by omega)] at ey'
  have cy : (k : Int) / S.Op.Win.KW = (k' : Int) / S.Op.Win.KW := by
    have := ey.symm.trans (y1.trans ey')
    unfold w64 at this
    rw [IntKind.wrap_i64, IntKind.wrap_i64] at this
    generalize (k : Int) / S.Op.Win.KW = p at *
    generalize (k' : Int) / S.Op.Win.KW = q at *
    omega
  have cx : (k : Int) % S.Op.Win.KW = (k' : Int) % S.Op.Win.KW := by
    have := ex.symm.trans (x1.trans ex')
    unfold w64 at this
    rw [IntKind.wrap_i64, IntKind.wrap_i64] at this
    generalize (k : Int) % S.Op.Win.KW = p at *
    generalize (k' : Int) % S.Op.Win.KW = q at *
    omega
  rw [cy, cx, ← b5] at a5
  omega
theorem at_inj {S : Site} (hS : SiteOk S) {ch : Int} (hch : 1 ≤ ch ∧ ch ≤ S.Out.C) (at_ : Int) (hat : 0 ≤ at_ ∧ at_ < S.Out.H * S.Out.W) {i j : Nat} (hi : i < S.Len.toNat) (hj : j < S.Len.toNat) (h0 : 0 ≤ atF S ch at_ i) (h : atF S ch at_ i = atF S ch at_ j) : i = j := by
  have B := shapeB_iff.1 hS.inB
  unfold atF at h0 h
  by_cases k1 : S.Op.Kind = 1
  · rw [if_pos k1, if_pos k1] at h; omega
  · rw [if_neg k1] at h0
    rw [if_neg k1, if_neg k1] at h
    obtain ⟨t1, t2, t3⟩ := taps_win hS k1
    by_cases k2 : S.Op.Kind = 2
    · rw [if_pos k2] at h0
      rw [if_pos k2, if_pos k2] at h
      have hTn : tapN S.Op.Win * S.In.C.toNat = S.Len.toNat := by unfold tapN; rw [t1, hS.len2 k2, ← Int.toNat_mul (by omega) (by omega)]
      have ki : i / S.In.C.toNat < tapN S.Op.Win := by rw [Nat.div_lt_iff_lt_mul (by omega), hTn]; exact hi
      have kj : j / S.In.C.toNat < tapN S.Op.Win := by rw [Nat.div_lt_iff_lt_mul (by omega), hTn]; exact hj
      have mi : i % S.In.C.toNat < S.In.C.toNat := Nat.mod_lt _ (by omega)
      have mj : j % S.In.C.toNat < S.In.C.toNat := Nat.mod_lt _ (by omega)
      have di := Nat.div_add_mod i S.In.C.toNat
      have dj := Nat.div_add_mod j S.In.C.toNat
      rcases tapAt_range hS at_ (i / S.In.C.toNat) with e | e
      · rw [e] at h0; simp at h0
      · rw [if_neg (by omega)] at h0 h
        obtain ⟨v1, v2, v3⟩ := pc_val hS e (c := ((i % S.In.C.toNat : Nat) : Int)) ⟨Int.natCast_nonneg _, by have := Int.ofNat_lt.2 mi; omega⟩
        rw [v1] at h
        rcases tapAt_range hS at_ (j / S.In.C.toNat) with e' | e'
        · rw [if_pos (by omega)] at h; omega
        · rw [if_neg (by omega)] at h
          obtain ⟨v1', v2', v3'⟩ := pc_val hS e' (c := ((j % S.In.C.toNat : Nat) : Int)) ⟨Int.natCast_nonneg _, by have := Int.ofNat_lt.2 mj; omega⟩
          rw [v1'] at h
          obtain ⟨q1, q2⟩ := yx_inj (x := ((i % S.In.C.toNat : Nat) : Int)) (x' := ((j % S.In.C.toNat : Nat) : Int)) ⟨Int.natCast_nonneg _, by have := Int.ofNat_lt.2 mi; omega⟩ ⟨Int.natCast_nonneg _, by have := Int.ofNat_lt.2 mj; omega⟩ h
          have := tap_inj hS k1 at_ hat ki kj e.1 q1
          have q3 : i % S.In.C.toNat = j % S.In.C.toNat := Int.ofNat_inj.1 q2
          rw [← di, ← dj, this, q3]
    · rw [if_neg k2] at h0
      rw [if_neg k2, if_neg k2] at h
      have hTn : tapN S.Op.Win = S.Len.toNat := by unfold tapN; rw [t1, ← hS.len3 (by have := hS.kind; omega)]
      have o3 := hS.out3 (by have := hS.kind; omega)
      rcases tapAt_range hS at_ i with e | e
      · rw [e] at h0; simp at h0
      · rw [if_neg (by omega)] at h0 h
        obtain ⟨v1, v2, v3⟩ := pc_val hS e (c := ch - 1) ⟨by omega, by omega⟩
        rw [v1] at h
        rcases tapAt_range hS at_ j with e' | e'
        · rw [if_pos (by omega)] at h; omega
        · rw [if_neg (by omega)] at h
          obtain ⟨v1', v2', v3'⟩ := pc_val hS e' (c := ch - 1) ⟨by omega, by omega⟩
          rw [v1'] at h
          obtain ⟨q1, _⟩ := yx_inj (x := ch - 1) (x' := ch - 1) ⟨by omega, by omega⟩ ⟨by omega, by omega⟩ h
          exact tap_inj hS k1 at_ hat (by omega) (by omega) e.1 q1
/-- one tap at least lies inside -/
theorem tap_in {S : Site} (hS : SiteOk S) (k1 : S.Op.Kind ≠ 1) {at_ : Int} (hat : 0 ≤ at_ ∧ at_ < S.Out.H * S.Out.W) : ∃ k, k < tapN S.Op.Win ∧ 0 ≤ tapAt S at_ k := by
  obtain ⟨w1, w2, w3, w4⟩ := hS.win k1
  have W := windowB_iff w1
  have B := shapeB_iff.1 hS.inB
  have O := shapeB_iff.1 hS.outB
  obtain ⟨_, _, o3, o4⟩ := outE_zero w2
  obtain ⟨t1, t2, t3⟩ := taps_win hS k1
  have eH : spanH S.In S.Op.Win = S.In.H + S.Op.Win.Top + S.Op.Win.Bottom - S.Op.Win.KH := by unfold spanH; rw [show w64 (S.In.H + S.Op.Win.Top) = _ from w64_id (by omega), show w64 (S.In.H + S.Op.Win.Top + S.Op.Win.Bottom) = _ from w64_id (by omega)]; exact w64_id (by omega)
  have eW : spanW S.In S.Op.Win = S.In.W + S.Op.Win.Left + S.Op.Win.Right - S.Op.Win.KW := by unfold spanW; rw [show w64 (S.In.W + S.Op.Win.Left) = _ from w64_id (by omega), show w64 (S.In.W + S.Op.Win.Left + S.Op.Win.Right) = _ from w64_id (by omega)]; exact w64_id (by omega)
  have hH : S.Out.H = (S.In.H + S.Op.Win.Top + S.Op.Win.Bottom - S.Op.Win.KH) / S.Op.Win.SH + 1 := by
    rw [eH] at o3
    have h0 := Int.ediv_nonneg o3 (show 0 ≤ S.Op.Win.SH by omega)
    have h1 := Int.ediv_le_self S.Op.Win.SH o3
    rw [w3]; unfold outH
    rw [if_pos hS.inB, if_pos w1, if_neg (by rw [eH]; omega), eH, Int.tdiv_eq_ediv_of_nonneg o3, show w64 ((S.In.H + S.Op.Win.Top + S.Op.Win.Bottom - S.Op.Win.KH) / S.Op.Win.SH) = _ from w64_id (by omega)]
    exact w64_id (by omega)
  have hW : S.Out.W = (S.In.W + S.Op.Win.Left + S.Op.Win.Right - S.Op.Win.KW) / S.Op.Win.SW + 1 := by
    rw [eW] at o4
    have h0 := Int.ediv_nonneg o4 (show 0 ≤ S.Op.Win.SW by omega)
    have h1 := Int.ediv_le_self S.Op.Win.SW o4
    rw [w4]; unfold outW
    rw [if_pos hS.inB, if_pos w1, if_neg (by rw [eW]; omega), eW, Int.tdiv_eq_ediv_of_nonneg o4, show w64 ((S.In.W + S.Op.Win.Left + S.Op.Win.Right - S.Op.Win.KW) / S.Op.Win.SW) = _ from w64_id (by omega)]
    exact w64_id (by omega)
  have r0 : 0 ≤ at_ / S.Out.W := Int.ediv_nonneg hat.1 (by omega)
  have r1 : at_ / S.Out.W < S.Out.H := Int.ediv_lt_of_lt_mul (by omega) hat.2
  have c0 : 0 ≤ at_ % S.Out.W := Int.emod_nonneg _ (by omega)
  have c1 : at_ % S.Out.W < S.Out.W := Int.emod_lt_of_pos _ (by omega)
  have yy : at_ / S.Out.W * S.Op.Win.SH ≤ S.In.H + S.Op.Win.Top + S.Op.Win.Bottom - S.Op.Win.KH := by
    have h1 : at_ / S.Out.W ≤ (S.In.H + S.Op.Win.Top + S.Op.Win.Bottom - S.Op.Win.KH) / S.Op.Win.SH := by omega
    exact Int.le_trans (Int.mul_le_mul_of_nonneg_right h1 (by omega)) (Int.ediv_mul_le _ (by omega))
  have xx : at_ % S.Out.W * S.Op.Win.SW ≤ S.In.W + S.Op.Win.Left + S.Op.Win.Right - S.Op.Win.KW := by
    have h1 : at_ % S.Out.W ≤ (S.In.W + S.Op.Win.Left + S.Op.Win.Right - S.Op.Win.KW) / S.Op.Win.SW := by omega
    exact Int.le_trans (Int.mul_le_mul_of_nonneg_right h1 (by omega)) (Int.ediv_mul_le _ (by omega))
  have yy0 : 0 ≤ at_ / S.Out.W * S.Op.Win.SH := Int.mul_nonneg r0 (by omega)
  have xx0 : 0 ≤ at_ % S.Out.W * S.Op.Win.SW := Int.mul_nonneg c0 (by omega)
  have eT : tapsTop S.In S.Op.Win at_ = at_ / S.Out.W * S.Op.Win.SH - S.Op.Win.Top := by
    unfold tapsTop
    rw [← w4, Int.tdiv_eq_ediv_of_nonneg hat.1, show w64 (at_ / S.Out.W) = _ from w64_id (by omega), show w64 (at_ / S.Out.W * S.Op.Win.SH) = _ from w64_id (by omega)]
    exact w64_id (by omega)
  have eL : tapsLeft S.In S.Op.Win at_ = at_ % S.Out.W * S.Op.Win.SW - S.Op.Win.Left := by
    unfold tapsLeft
    rw [← w4, Int.tmod_eq_emod_of_nonneg hat.1, show w64 (at_ % S.Out.W * S.Op.Win.SW) = _ from w64_id (by omega)]
    exact w64_id (by omega)
  have hY : -S.Op.Win.Top ≤ tapsTop S.In S.Op.Win at_ ∧ tapsTop S.In S.Op.Win at_ ≤ S.In.H + S.Op.Win.Bottom - S.Op.Win.KH := by rw [eT]; omega
  have hX : -S.Op.Win.Left ≤ tapsLeft S.In S.Op.Win at_ ∧ tapsLeft S.In S.Op.Win at_ ≤ S.In.W + S.Op.Win.Right - S.Op.Win.KW := by rw [eL]; omega
  unfold tapAt
  generalize tapsTop S.In S.Op.Win at_ = Y at *
  generalize tapsLeft S.In S.Op.Win at_ = X at *
  clear eT eL yy xx yy0 xx0 hH hW
  obtain ⟨ky, hky⟩ : ∃ ky, ky = max Y 0 - Y := ⟨_, rfl⟩
  obtain ⟨kx, hkx⟩ : ∃ kx, kx = max X 0 - X := ⟨_, rfl⟩
  have b1 : 0 ≤ ky ∧ ky < S.Op.Win.KH := by omega
  have b2 : 0 ≤ kx ∧ kx < S.Op.Win.KW := by omega
  have hk := yx_lt b1 b2
  refine ⟨(ky * S.Op.Win.KW + kx).toNat, by unfold tapN; rw [t1]; omega, ?_⟩
  have ek : (((ky * S.Op.Win.KW + kx).toNat : Nat) : Int) = ky * S.Op.Win.KW + kx := by omega
  have d1 : (ky * S.Op.Win.KW + kx).tdiv S.Op.Win.KW = ky := by rw [Int.tdiv_eq_ediv_of_nonneg hk.1, Int.add_comm, Int.add_mul_ediv_right _ _ (by omega), Int.ediv_eq_zero_of_lt b2.1 b2.2]; omega
  have d2 : (ky * S.Op.Win.KW + kx).tmod S.Op.Win.KW = kx := by rw [Int.tmod_eq_emod_of_nonneg hk.1, Int.add_comm, Int.add_mul_emod_self_right, Int.emod_eq_of_lt b2.1 b2.2]
  rw [ek]
  unfold tapPlace
  dsimp only
  rw [d1, d2, show w64 ky = ky from w64_id (by omega), show w64 (Y + ky) = Y + ky from w64_id (by omega), show w64 (X + kx) = X + kx from w64_id (by omega), show w64 (S.In.H - 1) = S.In.H - 1 from w64_id (by omega), show w64 (S.In.W - 1) = S.In.W - 1 from w64_id (by omega)]
  have c1 : inB (Y + ky) 0 (S.In.H - 1) = true := by simp [inB]; omega
  have c2 : inB (X + kx) 0 (S.In.W - 1) = true := by simp [inB]; omega
  rw [c1, c2]
  have z := yx_lt (y := Y + ky) (x := X + kx) (H := S.In.H) (W := S.In.W) (by omega) (by omega)
  have z2 : S.In.H * S.In.W ≤ 1024 * 1024 := Int.mul_le_mul B.1.2 B.2.1.2 (by omega) (by omega)
  have z0 : 0 ≤ (Y + ky) * S.In.W := Int.mul_nonneg (by omega) (by omega)
  show 0 ≤ w64 (w64 ((Y + ky) * S.In.W) + (X + kx))
  rw [show w64 ((Y + ky) * S.In.W) = (Y + ky) * S.In.W from w64_id (by omega), show w64 _ = _ from w64_id (by omega)]
  omega
/-- how many terms are padding -/
def padN (S : Site) (at_ : Int) (n : Nat) : Nat := ((List.range n).filter fun k => decide (tapAt S at_ k < 0)).length
def negN (S : Site) (ch at_ : Int) (n : Nat) : Nat := ((List.range n).filter fun k => decide (atF S ch at_ k < 0)).length
theorem padN_succ (S : Site) (at_ : Int) (n : Nat) : padN S at_ (n + 1) = padN S at_ n + if tapAt S at_ n < 0 then 1 else 0 := by
  unfold padN; rw [List.range_succ, List.filter_append, List.length_append]
  by_cases h : tapAt S at_ n < 0 <;> simp [h]
theorem negN_succ (S : Site) (ch at_ : Int) (n : Nat) : negN S ch at_ (n + 1) = negN S ch at_ n + if atF S ch at_ n < 0 then 1 else 0 := by
  unfold negN; rw [List.range_succ, List.filter_append, List.length_append]
  by_cases h : atF S ch at_ n < 0 <;> simp [h]
theorem negN_le (S : Site) (ch at_ : Int) (n : Nat) : negN S ch at_ n ≤ n := by
  unfold negN; exact Nat.le_trans (List.length_filter_le _ _) (by simp)
theorem negN_lt {S : Site} {ch at_ : Int} : ∀ {n i : Nat}, i < n → ¬ atF S ch at_ i < 0 → negN S ch at_ n < n
  | 0, i, h, _ => by omega
  | n + 1, i, h, h0 => by
    rw [negN_succ]
    rcases Nat.lt_or_ge i n with h1 | h1
    · have := negN_lt h1 h0; split <;> omega
    · have : i = n := by omega
      subst this
      rw [if_neg h0]; have := negN_le S ch at_ i; omega
theorem atF_neg {S : Site} (hS : SiteOk S) (k1 : S.Op.Kind ≠ 1) {ch : Int} (hch : 1 ≤ ch ∧ ch ≤ S.Out.C) (at_ : Int) (i : Nat) : atF S ch at_ i < 0 ↔ tapAt S at_ (if S.Op.Kind = 2 then i / S.In.C.toNat else i) < 0 := by
  have B := shapeB_iff.1 hS.inB
  unfold atF
  rw [if_neg k1]
  by_cases k2 : S.Op.Kind = 2
  · rw [if_pos k2, if_pos k2]
    have mi : i % S.In.C.toNat < S.In.C.toNat := Nat.mod_lt _ (by omega)
    rcases tapAt_range hS at_ (i / S.In.C.toNat) with e | e
    · rw [e]; simp
    · rw [if_neg (by omega)]
      obtain ⟨v1, v2, _⟩ := pc_val hS e (c := ((i % S.In.C.toNat : Nat) : Int)) ⟨Int.natCast_nonneg _, by have := Int.ofNat_lt.2 mi; omega⟩
      rw [v1]; omega
  · rw [if_neg k2, if_neg k2]
    have o3 := hS.out3 (by have := hS.kind; omega)
    rcases tapAt_range hS at_ i with e | e
    · rw [e]; simp
    · rw [if_neg (by omega)]
      obtain ⟨v1, v2, _⟩ := pc_val hS e (c := ch - 1) ⟨by omega, by omega⟩
      rw [v1]; omega
theorem negN_conv {S : Site} (hS : SiteOk S) (k2 : S.Op.Kind = 2) {ch : Int} (hch : 1 ≤ ch ∧ ch ≤ S.Out.C) (at_ : Int) (n : Nat) : negN S ch at_ (n * S.In.C.toNat) = padN S at_ n * S.In.C.toNat := by
  have B := shapeB_iff.1 hS.inB
  induction n with
  | zero => simp [negN, padN]
  | succ n ih =>
    have step : ∀ c, c ≤ S.In.C.toNat → negN S ch at_ (n * S.In.C.toNat + c) = negN S ch at_ (n * S.In.C.toNat) + if tapAt S at_ n < 0 then c else 0 := by
      intro c
      induction c with
      | zero => intro _; simp
      | succ c ihc =>
        intro hc
        have e : (n * S.In.C.toNat + c) / S.In.C.toNat = n := by rw [Nat.mul_comm, Nat.mul_add_div (by omega), Nat.div_eq_of_lt (by omega), Nat.add_zero]
        have hn := atF_neg hS (by omega) hch at_ (n * S.In.C.toNat + c)
        rw [if_pos k2, e] at hn
        rw [← Nat.add_assoc, negN_succ, ihc (by omega)]
        by_cases h : tapAt S at_ n < 0
        · rw [if_pos h, if_pos (hn.2 h), if_pos h]; omega
        · rw [if_neg h, if_neg (fun z => h (hn.1 z)), if_neg h]
    rw [Nat.add_mul, Nat.one_mul, step _ (Nat.le_refl _), ih, padN_succ]
    split
    · rw [Nat.add_mul, Nat.one_mul]
    · simp
theorem negN_rest {S : Site} (hS : SiteOk S) (k1 : S.Op.Kind ≠ 1) (k2 : S.Op.Kind ≠ 2) {ch : Int} (hch : 1 ≤ ch ∧ ch ≤ S.Out.C) (at_ : Int) (n : Nat) : negN S ch at_ n = padN S at_ n := by
  induction n with
  | zero => rfl
  | succ n ih =>
    rw [negN_succ, padN_succ, ih]
    have hn := atF_neg hS k1 hch at_ n
    rw [if_neg k2] at hn
    by_cases h : tapAt S at_ n < 0
    · rw [if_pos h, if_pos (hn.2 h)]
    · rw [if_neg h, if_neg (fun z => h (hn.1 z))]
/-- as many as the window's -/
theorem negN_all {S : Site} (hS : SiteOk S) (k1 : S.Op.Kind ≠ 1) {ch : Int} (hch : 1 ≤ ch ∧ ch ≤ S.Out.C) (at_ : Int) : negN S ch at_ S.Len.toNat = padN S at_ (tapN S.Op.Win) * (if S.Op.Kind = 2 then S.In.C.toNat else 1) := by
  have B := shapeB_iff.1 hS.inB
  obtain ⟨t1, t2, t3⟩ := taps_win hS k1
  by_cases k2 : S.Op.Kind = 2
  · rw [if_pos k2, ← negN_conv hS k2 hch]
    congr 1
    unfold tapN; rw [t1, hS.len2 k2, ← Int.toNat_mul (by omega) (by omega)]
  · rw [if_neg k2, Nat.mul_one, ← negN_rest hS k1 k2 hch]
    congr 1
    unfold tapN; rw [t1, ← hS.len3 (by have := hS.kind; omega)]
theorem neg_less {S : Site} (hS : SiteOk S) (k1 : S.Op.Kind ≠ 1) {ch : Int} (hch : 1 ≤ ch ∧ ch ≤ S.Out.C) {at_ : Int} (hat : 0 ≤ at_ ∧ at_ < S.Out.H * S.Out.W) : negN S ch at_ S.Len.toNat < S.Len.toNat := by
  have B := shapeB_iff.1 hS.inB
  obtain ⟨t1, t2, t3⟩ := taps_win hS k1
  obtain ⟨k, hk, h0⟩ := tap_in hS k1 hat
  by_cases k2 : S.Op.Kind = 2
  · have hTn : tapN S.Op.Win * S.In.C.toNat = S.Len.toNat := by unfold tapN; rw [t1, hS.len2 k2, ← Int.toNat_mul (by omega) (by omega)]
    refine negN_lt (i := k * S.In.C.toNat) ?_ ?_
    · rw [← hTn]; exact Nat.mul_lt_mul_of_pos_right hk (by omega)
    · rw [atF_neg hS k1 hch, if_pos k2, Nat.mul_div_cancel _ (by omega)]; omega
  · have hTn : tapN S.Op.Win = S.Len.toNat := by unfold tapN; rw [t1, ← hS.len3 (by have := hS.kind; omega)]
    refine negN_lt (i := k) (by omega) ?_
    rw [atF_neg hS k1 hch, if_neg k2]; omega
end Go.AM
end
section
open Go Go.AM
set_option linter.unusedVariables false
set_option linter.unusedSimpArgs false
namespace Go.AM
/-- of the terms for which c holds, the place is set to Hi -/
def setT (c : Int → Bool) (hi : Int) (l : List Int) (t : Term) : List Int := if (0 ≤ t.At ∧ t.At < l.length) ∧ c t.W = true then l.set t.At.toNat hi else l
theorem setT_len (c : Int → Bool) (hi : Int) (l : List Int) (t : Term) : (setT c hi l t).length = l.length := by unfold setT; split <;> simp
def rowT (c : Int → Bool) (lo hi : Int) (M : Nat) (T : List Term) : List Int := T.foldl (setT c hi) (List.replicate M lo)
theorem foldT_len (c : Int → Bool) (hi : Int) : ∀ (T : List Term) (l : List Int), (T.foldl (setT c hi) l).length = l.length
  | [], _ => rfl
  | t :: T, l => by simp only [List.foldl_cons]; rw [foldT_len c hi T, setT_len]
theorem foldT_get (c : Int → Bool) (hi : Int) : ∀ (T : List Term) (l : List Int) (p : Nat), p < l.length → (T.foldl (setT c hi) l).getD p default = if ∃ t ∈ T, t.At = (p : Int) ∧ c t.W = true then hi else l.getD p default
  | [], l, p, hp => by simp
  | t :: T, l, p, hp => by
    simp only [List.foldl_cons]
    rw [foldT_get c hi T _ p (by rw [setT_len]; exact hp)]
    by_cases h1 : ∃ u ∈ T, u.At = (p : Int) ∧ c u.W = true
    · rw [if_pos h1, if_pos]
      obtain ⟨u, hu, e⟩ := h1
      exact ⟨u, by simp [hu], e⟩
    · rw [if_neg h1]
      by_cases h2 : t.At = (p : Int) ∧ c t.W = true
      · rw [if_pos ⟨t, by simp, h2⟩]
        unfold setT
        rw [if_pos ⟨by omega, h2.2⟩, List.getD_eq_getElem?_getD, show t.At.toNat = p by omega, List.getElem?_set_self hp]; rfl
      · rw [if_neg (by
          rintro ⟨u, hu, e⟩
          rcases List.mem_cons.1 hu with rfl | hu
          · exact h2 e
          · exact h1 ⟨u, hu, e⟩)]
        unfold setT
        split
        · rename_i h3
          have : t.At.toNat ≠ p := fun q => h2 ⟨by omega, h3.2⟩
          rw [List.getD_eq_getElem?_getD, List.getElem?_set_ne this, List.getD_eq_getElem?_getD]
        · rfl
theorem rowT_len (c : Int → Bool) (lo hi : Int) (M : Nat) (T : List Term) : (rowT c lo hi M T).length = M := by unfold rowT; rw [foldT_len]; simp
theorem rowT_succ (c : Int → Bool) (lo hi : Int) (M : Nat) {T : List Term} {k : Nat} (hk : k < T.length) : rowT c lo hi M (T.take (k + 1)) = setT c hi (rowT c lo hi M (T.take k)) (T.getD k default) := take_fold _ _ hk
/-- what lies at a term's place, if no place comes twice -/
theorem rowT_at {c : Int → Bool} {lo hi : Int} {M : Nat} {T : List Term} (hd : ∀ t ∈ T, ∀ u ∈ T, 0 ≤ t.At → t.At = u.At → c t.W = c u.W) {t : Term} (ht : t ∈ T) (h0 : 0 ≤ t.At) (h1 : t.At < M) : (rowT c lo hi M T).getD t.At.toNat default = if c t.W = true then hi else lo := by
  unfold rowT
  rw [foldT_get _ _ _ _ _ (by simp; omega)]
  have e : (List.replicate M lo).getD t.At.toNat default = lo := by rw [List.getD_eq_getElem?_getD, List.getElem?_replicate, if_pos (by omega)]; rfl
  rw [e]
  by_cases h : c t.W = true
  · rw [if_pos h, if_pos ⟨t, ht, by omega, h⟩]
  · rw [if_neg h, if_neg]
    rintro ⟨u, hu, e1, e2⟩
    exact h ((hd t ht u hu h0 (by omega)).trans e2)
end Go.AM
end
section
open Go Go.AM Go.Proofs
set_option maxRecDepth 10000
set_option linter.unusedVariables false
set_option linter.unusedSimpArgs false
namespace Go.AM
def fillL (lo : Int) (M i : Nat) : List Int := List.replicate i lo ++ List.replicate (M - i) 0
theorem fillL_len {lo : Int} {M i : Nat} (h : i ≤ M) : (fillL lo M i).length = M := by simp [fillL]; omega
theorem fillL_set {lo : Int} {M i : Nat} (h : i < M) : (fillL lo M i).set i lo = fillL lo M (i + 1) := by
  unfold fillL
  rw [List.set_append, if_neg (by simp), List.length_replicate, Nat.sub_self, show M - i = (M - (i + 1)) + 1 by omega, List.replicate_succ, List.set_cons_zero, List.replicate_succ', List.append_assoc]; rfl
theorem fillL_el {lo : Int} {M i : Nat} (h : i < M) (hl : -128 ≤ lo ∧ lo ≤ 127) : setEl ((fillL lo M i).map i8C) (0 + ((i : Nat) : Int).toNat) 0 [.int .i8 (IntKind.i8.wrap lo)] = (fillL lo M (i + 1)).map i8C := by
  have hw : IntKind.i8.wrap lo = lo := by simp [IntKind.wrap, IntKind.bits, IntKind.signed]; split <;> omega
  rw [Nat.zero_add, Int.toNat_natCast, hw, ← fillL_set h, List.map_set]
  unfold setEl
  have hg : ((fillL lo M i).map i8C).getD i [] = i8C ((fillL lo M i).getD i default) := by simp [List.getD_eq_getElem?_getD, fillL_len (Nat.le_of_lt h), h]
  rw [hg]; rfl
end Go.AM
end
section
open Go Go.AM Go.Proofs
set_option maxRecDepth 10000
set_option linter.unusedVariables false
set_option linter.unusedSimpArgs false
namespace Go.AM
theorem term_same {S : Site} (hS : SiteOk S) {ch k : Int} (hch : 1 ≤ ch ∧ ch ≤ S.Out.C) (hk : 0 ≤ k ∧ k < S.Out.H * S.Out.W) : ∀ t ∈ tlF S ch k, ∀ u ∈ tlF S ch k, 0 ≤ t.At → t.At = u.At → t = u := by
  intro t ht u hu h0 he
  obtain ⟨i, hi, rfl⟩ := List.getElem_of_mem ht
  obtain ⟨j, hj, rfl⟩ := List.getElem_of_mem hu
  have hl := tlF_len hS ch k
  have gi := tlF_get hS hch k (i := i) (by omega)
  have gj := tlF_get hS hch k (i := j) (by omega)
  rw [List.getD_eq_getElem?_getD, List.getElem?_eq_getElem hi] at gi
  rw [List.getD_eq_getElem?_getD, List.getElem?_eq_getElem hj] at gj
  simp only [Option.getD_some] at gi gj
  have e : i = j := at_inj hS hch k hk (by omega) (by omega) (by rw [gi] at h0; exact h0) (by rw [gi, gj] at he; exact he)
  subst e; rfl
theorem val_ends {S : Site} (hS : SiteOk S) {ch k : Int} (hch : 1 ≤ ch ∧ ch ≤ S.Out.C) (hk : 0 ≤ k ∧ k < S.Out.H * S.Out.W) {s : Span} (hs : -128 ≤ s.Lo ∧ s.Lo ≤ s.Hi ∧ s.Hi ≤ 127) {M : Nat} (hM : (M : Int) = S.In.H * S.In.W * S.In.C) (hW : ∀ t ∈ tlF S ch k, -32768 ≤ t.W ∧ t.W ≤ 32767) :
    (∀ t ∈ tlF S ch k, w64 (t.W * vT (rowT (fun w => !decide (w > 0)) s.Lo s.Hi M (tlF S ch k)) S.Op.Pad t) = (endF S.Op.Pad s t).Lo) ∧ ∀ t ∈ tlF S ch k, w64 (t.W * vT (rowT (fun w => decide (w > 0)) s.Lo s.Hi M (tlF S ch k)) S.Op.Pad t) = (endF S.Op.Pad s t).Hi := by
  have hp := (pad_bd hS).1
  have both : ∀ (c : Int → Bool), ∀ t ∈ tlF S ch k, vT (rowT c s.Lo s.Hi M (tlF S ch k)) S.Op.Pad t = if t.At < 0 then S.Op.Pad else if c t.W = true then s.Hi else s.Lo := by
    intro c t ht
    unfold vT
    rcases tlF_at hS hch k t ht with h | ⟨h1, h2⟩
    · rw [if_neg (by omega), if_pos (by omega)]
    · rw [if_pos (by omega), if_neg (by omega), rowT_at (fun t ht u hu h0 he => by rw [term_same hS hch hk t ht u hu h0 he]) ht h1 (by omega)]
      split <;> exact w64_id (by omega)
  have m1 := fun t ht => mul_small (hW t ht) (show -128 ≤ s.Lo ∧ s.Lo ≤ 127 by omega)
  have m2 := fun t ht => mul_small (hW t ht) (show -128 ≤ s.Hi ∧ s.Hi ≤ 127 by omega)
  have m3 := fun t ht => mul_small (hW t ht) hp
  refine ⟨fun t ht => ?_, fun t ht => ?_⟩
  · rw [both _ t ht]
    have a1 := m1 t ht; have a2 := m2 t ht; have a3 := m3 t ht
    unfold endF tmS
    by_cases c : t.At < 0
    · rw [if_pos c, if_pos c]; split <;> (dsimp only; rw [Int.mul_comm S.Op.Pad]; exact w64_id (by omega))
    · rw [if_neg c, if_neg c]
      by_cases d : t.W < 0
      · rw [if_pos d, if_pos (by simp; omega)]; dsimp only; rw [Int.mul_comm s.Hi]; exact w64_id (by omega)
      · rw [if_neg d]
        by_cases e : t.W > 0
        · rw [if_neg (by simp [e])]; dsimp only; rw [Int.mul_comm s.Lo]; exact w64_id (by omega)
        · rw [show t.W = 0 by omega]; simp [w64, IntKind.wrap_i64]
  · rw [both _ t ht]
    have a1 := m1 t ht; have a2 := m2 t ht; have a3 := m3 t ht
    unfold endF tmS
    by_cases c : t.At < 0
    · rw [if_pos c, if_pos c]; split <;> (dsimp only; rw [Int.mul_comm S.Op.Pad]; exact w64_id (by omega))
    · rw [if_neg c, if_neg c]
      by_cases d : t.W < 0
      · rw [if_pos d, if_neg (by simp; omega)]; dsimp only; rw [Int.mul_comm s.Lo]; exact w64_id (by omega)
      · rw [if_neg d]
        by_cases e : t.W > 0
        · rw [if_pos (by simp [e])]; dsimp only; rw [Int.mul_comm s.Hi]; exact w64_id (by omega)
        · rw [show t.W = 0 by omega]; simp [w64, IntKind.wrap_i64]
end Go.AM
end
section
open Go Go.AM Go.Proofs
set_option maxRecDepth 10000
set_option linter.unusedVariables false
set_option linter.unusedSimpArgs false
namespace Go.AM
end Go.AM
end
section
open Go Go.AM
set_option linter.unusedVariables false
set_option linter.unusedSimpArgs false
namespace Go.AM
def wordS : Span := ⟨-32768, 32767⟩
def longS : Span := ⟨-2147483648, 2147483647⟩
def okW (s : Span) : Bool := holdsF wordS s
/-- the sum of k ends, from the i-th on -/
def pre (r : List Span) (i k : Nat) : Span := ((r.drop i).take k).foldl plusS ⟨0, 0⟩
theorem pre_zero (r : List Span) (i : Nat) : pre r i 0 = ⟨0, 0⟩ := rfl
theorem pre_succ {r : List Span} {i k : Nat} (h : i + k < r.length) : pre r i (k + 1) = plusS (pre r i k) (r.getD (i + k) default) := by
  unfold pre
  rw [take_fold plusS _ (by rw [List.length_drop]; omega)]
  simp [List.getD_eq_getElem?_getD]
/-- how many of n terms a register bears, from the i-th on -/
def brk (r : List Span) (i : Nat) : Nat → Nat
  | 0 => 0
  | n + 1 => if brk r i n = n ∧ okW (pre r i (n + 1)) = true then n + 1 else brk r i n
theorem brk_spec (r : List Span) (i : Nat) : ∀ n, brk r i n ≤ n ∧ (∀ j, j < brk r i n → okW (pre r i (j + 1)) = true) ∧ (brk r i n < n → ¬ okW (pre r i (brk r i n + 1)) = true)
  | 0 => ⟨Nat.le_refl _, fun j hj => absurd hj (Nat.not_lt_zero _), fun h => absurd h (Nat.not_lt_zero _)⟩
  | n + 1 => by
    obtain ⟨h1, h2, h3⟩ := brk_spec r i n
    unfold brk
    by_cases c : brk r i n = n ∧ okW (pre r i (n + 1)) = true
    · rw [if_pos c]
      refine ⟨Nat.le_refl _, fun j hj => ?_, fun h => by omega⟩
      by_cases e : j = n
      · rw [e]; exact c.2
      · exact h2 j (by omega)
    · rw [if_neg c]
      refine ⟨by omega, h2, fun h q => ?_⟩
      by_cases e : brk r i n = n
      · exact c ⟨e, by rw [e] at q; exact q⟩
      · exact h3 (by omega) q
theorem brk_ge {r : List Span} {i n L : Nat} : L ≤ brk r i n ↔ L ≤ n ∧ ∀ j, j < L → okW (pre r i (j + 1)) = true := by
  obtain ⟨h1, h2, h3⟩ := brk_spec r i n
  constructor
  · exact fun h => ⟨by omega, fun j hj => h2 j (by omega)⟩
  · intro ⟨k1, k2⟩
    by_cases c : L ≤ brk r i n
    · exact c
    · exact absurd (k2 _ (by omega)) (h3 (by omega))
theorem brk_eq {r : List Span} {i n K : Nat} (h1 : K ≤ n) (h2 : ∀ j, j < K → okW (pre r i (j + 1)) = true) (h3 : K < n → okW (pre r i (K + 1)) = false) : brk r i n = K := by
  have a : K ≤ brk r i n := brk_ge.2 ⟨h1, h2⟩
  by_cases c : brk r i n = K
  · exact c
  · have b : K + 1 ≤ brk r i n := by omega
    have := (brk_ge.1 b).2 K (by omega)
    have k := (brk_spec r i n).1
    rw [h3 (by omega)] at this; cases this
def bear0 (n : Nat) : List Nat := (List.range n).map (n - ·)
def bear1 (o : List Nat) (r : List Span) : List Nat := (List.range o.length).map fun i => brk r i (o.getD i 0)
def bearsF (n : Nat) (l : List (List Span)) : List Nat := l.foldl bear1 (bear0 n)
theorem bear1_len (o : List Nat) (r : List Span) : (bear1 o r).length = o.length := by simp [bear1]
theorem bears_len' : ∀ (l : List (List Span)) (o : List Nat), (l.foldl bear1 o).length = o.length
  | [], o => rfl
  | r :: l, o => by rw [List.foldl_cons, bears_len' l, bear1_len]
theorem bears_len (n : Nat) (l : List (List Span)) : (bearsF n l).length = n := by rw [bearsF, bears_len']; simp [bear0]
theorem bear1_get {o : List Nat} {r : List Span} {i : Nat} (h : i < o.length) : (bear1 o r).getD i 0 = brk r i (o.getD i 0) := by
  simp [bear1, List.getD_eq_getElem?_getD, h]
theorem bears_ge' {L i : Nat} : ∀ (l : List (List Span)) (o : List Nat), i < o.length → (L ≤ (l.foldl bear1 o).getD i 0 ↔ L ≤ o.getD i 0 ∧ ∀ r ∈ l, ∀ j, j < L → okW (pre r i (j + 1)) = true)
  | [], o, h => by simp
  | r :: l, o, h => by
    rw [List.foldl_cons, bears_ge' l _ (by rw [bear1_len]; exact h), bear1_get h, brk_ge]
    constructor
    · rintro ⟨⟨a, b⟩, c⟩
      refine ⟨a, fun q hq => ?_⟩
      rcases List.mem_cons.1 hq with rfl | hq
      · exact b
      · exact c q hq
    · rintro ⟨a, b⟩
      exact ⟨⟨a, b r (by simp)⟩, fun q hq => b q (by simp [hq])⟩
theorem bear0_get {n i : Nat} (h : i < n) : (bear0 n).getD i 0 = n - i := by simp [bear0, List.getD_eq_getElem?_getD, h]
theorem bears_ge {n L i : Nat} {l : List (List Span)} (h : i < n) (hL : L ≤ n - i) : L ≤ (bearsF n l).getD i 0 ↔ ∀ r ∈ l, ∀ j, j < L → okW (pre r i (j + 1)) = true := by
  rw [bearsF, bears_ge' l _ (by simp [bear0]; exact h), bear0_get h]
  exact ⟨fun x => x.2, fun x => ⟨hL, x⟩⟩
/-- the search downward -/
def okK (l : List Nat) (k : Nat) : Prop := ∀ i, i % k = 0 → i < l.length → min k (l.length - i) ≤ l.getD i 0
def mostD (p : Nat → Bool) : Nat → Nat
  | 0 => 0
  | k + 1 => if p (k + 1) = true then k + 1 else mostD p k
theorem mostD_le (p : Nat → Bool) : ∀ n, mostD p n ≤ n
  | 0 => Nat.le_refl _
  | n + 1 => by unfold mostD; split; exact Nat.le_refl _; exact Nat.le_succ_of_le (mostD_le p n)
theorem mostD_ok (p : Nat → Bool) : ∀ n, mostD p n ≠ 0 → p (mostD p n) = true
  | 0, h => absurd rfl h
  | n + 1, h => by
    unfold mostD at h ⊢
    split
    · assumption
    · rename_i c; rw [if_neg c] at h; exact mostD_ok p n h
theorem mostD_max (p : Nat → Bool) : ∀ n k, k ≤ n → p k = true → k ≤ mostD p n
  | 0, k, h, _ => h
  | n + 1, k, h, hp => by
    unfold mostD
    split
    · exact h
    · rename_i c
      have : k ≠ n + 1 := fun e => c (e ▸ hp)
      exact mostD_max p n k (by omega) hp
theorem mostD_congr {p q : Nat → Bool} : ∀ n, (∀ k, 1 ≤ k → k ≤ n → p k = q k) → mostD p n = mostD q n
  | 0, _ => rfl
  | n + 1, h => by
    unfold mostD
    rw [h (n + 1) (by omega) (Nat.le_refl _), mostD_congr n (fun k h1 h2 => h k h1 (by omega))]
/-- whatever is passed over isn't one -/
theorem mostD_eq {p : Nat → Bool} {n k : Nat} (hk : k ≤ n) (h1 : k = 0 ∨ p k = true) (h2 : ∀ j, k < j → j ≤ n → p j = false) : mostD p n = k := by
  have a : mostD p n ≤ k := by
    by_cases c : mostD p n ≤ k
    · exact c
    · have := mostD_ok p n (by omega)
      rw [h2 _ (by omega) (mostD_le p n)] at this; cases this
  rcases h1 with h1 | h1
  · omega
  · have := mostD_max p n k hk h1; omega
/-- the blocks' sums -/
theorem part_pre (D : Nat) (h : Hull) (r : List Span) : ∀ k, k < r.length → (partG D h r (k + 1)).2 = pre r (k - k % D) (k % D + 1)
  | 0, hk => by
    rw [show (0 : Nat) % D = 0 from Nat.zero_mod _, pre_succ (by omega), pre_zero]
    unfold partG
    rw [if_pos (Nat.zero_mod _)]
  | k + 1, hk => by
    have ih := part_pre D h r k (by omega)
    have e : (partG D h r (k + 1 + 1)).2 = plusS (if (k + 1) % D = 0 then ⟨0, 0⟩ else (partG D h r (k + 1)).2) (r.getD (k + 1) default) := rfl
    rw [e]
    by_cases c : (k + 1) % D = 0
    · rw [if_pos c, c, Nat.sub_zero, pre_succ (by omega), pre_zero, Nat.add_zero]
    · have hm : (k + 1) % D = k % D + 1 := by
        rw [Nat.add_mod] at c ⊢
        by_cases d1 : D = 1
        · subst d1; simp [Nat.mod_one] at c
        by_cases d0 : D = 0
        · subst d0; simp
        · rw [Nat.mod_eq_of_lt (show 1 < D by omega)] at c ⊢
          have := Nat.mod_lt k (show D > 0 by omega)
          by_cases q : k % D + 1 = D
          · rw [q, Nat.mod_self] at c; exact absurd rfl c
          · rw [Nat.mod_eq_of_lt (by omega)]
      have hle := Nat.mod_le k D
      rw [if_neg c, hm, ih, pre_succ (i := k + 1 - (k % D + 1)) (k := k % D + 1) (by omega)]
      rw [show k + 1 - (k % D + 1) = k - k % D by omega, show k - k % D + (k % D + 1) = k + 1 by omega]
/-- within 16 bits -/
def nar (s : Span) : Prop := -32768 ≤ s.Lo ∧ s.Hi ≤ 32767
theorem nar_ok {s : Span} (h : s.Lo ≤ s.Hi) : okW s = true ↔ nar s := by
  unfold okW holdsF nar wordS; rw [decide_eq_true_eq]; exact ⟨fun x => x.2, fun x => ⟨h, x⟩⟩
def inW (h : Hull) : Prop := h.some = true → -32768 ≤ h.Lo ∧ h.Hi ≤ 32767
theorem takeH_W (h : Hull) (s : Span) : inW (takeH h s) ↔ inW h ∧ nar s := by
  unfold inW takeH joinS nar
  cases h.some
  · simp
  · simp only [cond_true, mn_eq, mx_eq, forall_const]; omega
theorem partG_W (D : Nat) (h : Hull) (r : List Span) : ∀ k, k ≤ r.length → (inW (partG D h r k).1 ↔ inW h ∧ ∀ i, i < k → nar (pre r (i - i % D) (i % D + 1)) ∧ nar (r.getD i default))
  | 0, _ => ⟨fun x => ⟨x, fun i hi => by cases hi⟩, fun x => x.1⟩
  | k + 1, hk => by
    have ih := partG_W D h r k (by omega)
    have e : (partG D h r (k + 1)).1 = takeH (takeH (partG D h r k).1 (partG D h r (k + 1)).2) (r.getD k default) := rfl
    rw [e, takeH_W, takeH_W, ih, part_pre D h r k (by omega)]
    constructor
    · rintro ⟨⟨⟨a, b⟩, c⟩, d⟩
      refine ⟨a, fun i hi => ?_⟩
      by_cases q : i = k
      · rw [q]; exact ⟨c, d⟩
      · exact b i (by omega)
    · rintro ⟨a, b⟩
      exact ⟨⟨⟨a, fun i hi => b i (by omega)⟩, (b k (by omega)).1⟩, (b k (by omega)).2⟩
theorem partH_W' (D : Nat) : ∀ (l : List (List Span)) (h : Hull), inW (l.foldl (fun h r => (partG D h r r.length).1) h) ↔ inW h ∧ ∀ r ∈ l, ∀ i, i < r.length → nar (pre r (i - i % D) (i % D + 1)) ∧ nar (r.getD i default)
  | [], h => by simp
  | r :: l, h => by
    rw [List.foldl_cons, partH_W' D l, partG_W D h r _ (Nat.le_refl _)]
    constructor
    · rintro ⟨⟨a, b⟩, c⟩
      refine ⟨a, fun q hq => ?_⟩
      rcases List.mem_cons.1 hq with rfl | hq
      · exact b
      · exact c q hq
    · rintro ⟨a, b⟩
      exact ⟨⟨a, b r (by simp)⟩, fun q hq => b q (by simp [hq])⟩
theorem partH_W (D : Nat) (l : List (List Span)) : inW (partH D l) ↔ ∀ r ∈ l, ∀ i, i < r.length → nar (pre r (i - i % D) (i % D + 1)) ∧ nar (r.getD i default) := by
  unfold partH
  rw [partH_W']
  exact ⟨fun x => x.2, fun x => ⟨fun (h : false = true) => (by cases h), x⟩⟩
/-- rows of like length, whose sums are spans -/
structure RowsOk (n : Nat) (l : List (List Span)) : Prop where
  len : ∀ r ∈ l, r.length = n
  val : ∀ r ∈ l, ∀ i k, i + k ≤ n → (pre r i k).Lo ≤ (pre r i k).Hi
  one : ∀ r ∈ l, ∀ i, i < n → (r.getD i default).Lo ≤ (r.getD i default).Hi ∧ pre r i 1 = r.getD i default
theorem depth_key {n : Nat} {l : List (List Span)} (R : RowsOk n l) {D : Nat} (h1 : 1 ≤ D) (h2 : D ≤ n) : inW (partH D l) ↔ (∀ i, i < n → 1 ≤ (bearsF n l).getD i 0) ∧ okK (bearsF n l) D := by
  rw [partH_W]
  have hl := bears_len n l
  constructor
  · intro H
    refine ⟨fun i hi => (bears_ge hi (by omega)).2 fun r hr j hj => ?_, fun i hi hlt => ?_⟩
    · obtain rfl : j = 0 := by omega
      have := (H r hr i (by rw [R.len r hr]; exact hi)).2
      rw [(R.one r hr i hi).2]
      exact (nar_ok (R.one r hr i hi).1).2 this
    · rw [hl] at hlt ⊢
      refine (bears_ge hlt (Nat.min_le_right _ _)).2 fun r hr j hj => ?_
      have hj1 : j < D := by omega
      have hj2 : j < n - i := by omega
      have := (H r hr (i + j) (by rw [R.len r hr]; omega)).1
      have hm : (i + j) % D = j := by rw [Nat.add_mod, hi, Nat.zero_add, Nat.mod_mod, Nat.mod_eq_of_lt hj1]
      rw [hm, Nat.add_sub_cancel] at this
      exact (nar_ok (R.val r hr i (j + 1) (by omega))).2 this
  · rintro ⟨H1, H2⟩ r hr i hi
    rw [R.len r hr] at hi
    constructor
    · have hm := Nat.mod_lt i (show D > 0 by omega)
      have hle := Nat.mod_le i D
      have hb : (i - i % D) % D = 0 := by
        have := Nat.sub_mod_eq_zero_of_mod_eq (m := i) (n := i % D) (k := D) (by rw [Nat.mod_mod])
        exact this
      have := H2 (i - i % D) hb (by rw [hl]; omega)
      rw [hl] at this
      have q := (bears_ge (by omega) (Nat.min_le_right _ _)).1 this r hr (i % D) (by omega)
      exact (nar_ok (R.val r hr _ _ (by omega))).1 q
    · have q := (bears_ge hi (by omega)).1 (H1 i hi) r hr 0 (by omega)
      rw [(R.one r hr i hi).2] at q
      exact (nar_ok (R.one r hr i hi).1).1 q
end Go.AM
end
section
open Go Go.AM Go.Proofs
set_option maxRecDepth 10000
set_option linter.unusedVariables false
set_option linter.unusedSimpArgs false
namespace Go.AM
theorem wrap_nat64 (v : BitVec 64) : IntKind.i64.wrap (v.toNat : Int) = v.toInt := by
  rw [IntKind.wrap_i64, BitVec.toInt_eq_toNat_cond]
  have := v.isLt
  split <;> omega
theorem ofInt_int64 {x : Int} (h : -9223372036854775808 ≤ x ∧ x ≤ 9223372036854775807) : (BitVec.ofInt 64 x).toInt = x := by
  rw [BitVec.toInt_ofInt, Int.bmod_def]
  split <;> omega
theorem w64_range (x : Int) : -9223372036854775808 ≤ w64 x ∧ w64 x ≤ 9223372036854775807 := by rw [w64, IntKind.wrap_i64]; omega
theorem msb64 {x : Int} (h : -9223372036854775808 ≤ x ∧ x ≤ 9223372036854775807) : (BitVec.ofInt 64 x).msb = decide (x < 0) := by rw [BitVec.msb_eq_toInt, ofInt_int64 h]
theorem xor_sign {x y : Int} (hx : -9223372036854775808 ≤ x ∧ x ≤ 9223372036854775807) (hy : -9223372036854775808 ≤ y ∧ y ≤ 9223372036854775807) :
    w64 ((BitVec.ofInt IntKind.i64.bits x ^^^ BitVec.ofInt IntKind.i64.bits y).toNat : Int) < 0 ↔ ¬ (x < 0 ↔ y < 0) := by
  have e : w64 ((BitVec.ofInt IntKind.i64.bits x ^^^ BitVec.ofInt IntKind.i64.bits y).toNat : Int) = (BitVec.ofInt 64 x ^^^ BitVec.ofInt 64 y).toInt := wrap_nat64 _
  have m : (BitVec.ofInt 64 x ^^^ BitVec.ofInt 64 y).msb = (decide (x < 0) ^^ decide (y < 0)) := by rw [BitVec.msb_xor, msb64 hx, msb64 hy]
  rw [BitVec.msb_eq_toInt] at m
  rw [e]
  by_cases c : x < 0 <;> by_cases d : y < 0 <;> simp [c, d] at m ⊢ <;> omega
theorem and_sign {x y : Int} (hx : -9223372036854775808 ≤ x ∧ x ≤ 9223372036854775807) (hy : -9223372036854775808 ≤ y ∧ y ≤ 9223372036854775807) :
    w64 ((BitVec.ofInt IntKind.i64.bits x &&& BitVec.ofInt IntKind.i64.bits y).toNat : Int) < 0 ↔ (x < 0 ∧ y < 0) := by
  have e : w64 ((BitVec.ofInt IntKind.i64.bits x &&& BitVec.ofInt IntKind.i64.bits y).toNat : Int) = (BitVec.ofInt 64 x &&& BitVec.ofInt 64 y).toInt := wrap_nat64 _
  have m : (BitVec.ofInt 64 x &&& BitVec.ofInt 64 y).msb = (decide (x < 0) && decide (y < 0)) := by rw [BitVec.msb_and, msb64 hx, msb64 hy]
  rw [BitVec.msb_eq_toInt] at m
  rw [e]
  by_cases c : x < 0 <;> by_cases d : y < 0 <;> simp [c, d] at m ⊢ <;> omega
theorem num_Add (a b : Int) (ha : -4611686018427387904 ≤ a ∧ a ≤ 4611686018427387903) (hb : -4611686018427387904 ≤ b ∧ b ≤ 4611686018427387903) : Ok Try.prog 97 [.int .i64 a, .int .i64 b] (.tup [.int .i64 (w64 (a + b)), .int .i64 0]) := by
  have es : w64 (a + b) = a + b := w64_id (by omega)
  have hc17 : decide (IntKind.i64.wrap ((BitVec.ofInt IntKind.i64.bits (IntKind.i64.wrap ((BitVec.ofInt IntKind.i64.bits a ^^^ BitVec.ofInt IntKind.i64.bits (IntKind.i64.wrap (a + b))).toNat : Int)) &&& BitVec.ofInt IntKind.i64.bits (IntKind.i64.wrap ((BitVec.ofInt IntKind.i64.bits b ^^^ BitVec.ofInt IntKind.i64.bits (IntKind.i64.wrap (a + b))).toNat : Int))).toNat : Int) < 0) = false := by
    apply decide_eq_false
    rw [show IntKind.i64.wrap (a + b) = a + b from es]
    intro h
    have h2 := (and_sign (w64_range _) (w64_range _)).1 h
    rw [xor_sign (by omega) (by omega), xor_sign (by omega) (by omega)] at h2
    omega
  --@@1
  skip
  refine fn_ok Tb_ok (fn := Try.f97) Try.func97 rfl rfl (e := [(0, _), (1, _)]) rfl (by decide) rfl ?_
  refine zs ?_
  refine zR ?_
  refine zLI ?_
  refine zLI ?_
  refine zn ?_
  refine zs ?_
  refine zR ?_
  refine zLI ?_
  refine zLI ?_
  refine zLI ?_
  refine zLI ?_
  refine zn ?_
  refine zs ?_
  refine zs ?_
  refine zR ?_
  refine zLI ?_
  refine zLI ?_
  refine zLI ?_
  refine zLI ?_
  refine zLI ?_
  refine zLI ?_
  refine zLI ?_
  refine zLB ?_
  refine zn ?_
  refine W_cond_f (b := _) rfl (by exact hc17) ?_
  refine zk ?_
  refine zs ?_
  refine zR ?_
  refine zLI ?_
  refine zLI ?_
  refine zLI ?_
  refine zn ?_
  refine zt ?_
  refine ends (l := [.int _ _, .int _ _]) (q := .tup [.int _ _, .int _ _]) (.inr rfl) rfl ⟨trivial, trivial, trivial⟩ rfl rfl ?_
  rfl
theorem span_Add (a b : Span) {B : Int} (ha : bS B a) (hb : bS B b) (hB : B ≤ 4611686018427387903) (va : a.Lo ≤ a.Hi) (vb : b.Lo ≤ b.Hi) : Ok Try.prog 85 [.agg (spanC a), .agg (spanC b)] (.tup [.agg (spanC (plusS a b)), .int .i64 0]) := by
  obtain ⟨⟨a1, a2⟩, a3, a4⟩ := ha
  obtain ⟨⟨b1, b2⟩, b3, b4⟩ := hb
  have h1 : Ok Try.prog 69 [.agg (spanC a)] (.bool true) := by have := span_Valid a; rwa [decide_eq_true va] at this
  have h2 : Ok Try.prog 69 [.agg (spanC b)] (.bool true) := by have := span_Valid b; rwa [decide_eq_true vb] at this
  have m1 := num_Add a.Lo b.Lo (by omega) (by omega)
  have m2 := num_Add a.Hi b.Hi (by omega) (by omega)
  --@@2
  skip
  refine fn_ok Tb_ok (fn := Try.f85) Try.func85 rfl rfl (e := [(0, _), (1, _)]) rfl (by decide) rfl ?_
  refine zs ?_
  refine zR ?_
  refine zbx [.int _ _, .int _ _] 2 ?_
  refine zbx [.int _ _, .int _ _] 2 ?_
  refine zal [.int .i64 0, .int .i64 0] 2 ?_
  refine zLI ?_
  refine zn ?_
  refine zs ?_
  refine zs ?_
  refine zR ?_
  refine zLG [.int _ _, .int _ _] ?_
  refine zLc (h1) ?_
  refine zLB ?_
  refine zLB ?_
  refine zgLG [.int _ _, .int _ _] ?_
  refine L_callg (hr := fun hg => h2) rfl rfl rfl rfl rfl (fun hg => ⟨⟨(by exact hg), True.intro⟩, True.intro⟩) rfl rfl ?_
  refine zgLB ?_
  refine zpLB ?_
  refine zn ?_
  refine W_cond_f (b := _) rfl (by rfl) ?_
  refine zk ?_
  refine zs ?_
  refine zR ?_
  refine zLP ?_
  refine zLI ?_
  refine zLP ?_
  refine zLI ?_
  refine zLc (m1) ?_
  refine zLT [_, _] ?_
  refine zLI ?_
  refine zLI ?_
  refine zLI ?_
  refine zLI ?_
  refine zn ?_
  refine zs ?_
  refine zR ?_
  refine zLP ?_
  refine zLI ?_
  refine zLP ?_
  refine zLI ?_
  refine zLc (m2) ?_
  refine zLT [_, _] ?_
  refine zLI ?_
  refine zLI ?_
  refine zLI ?_
  refine zLI ?_
  refine zn ?_
  refine zs ?_
  refine zR ?_
  refine zLI ?_
  refine zLI ?_
  refine zLI ?_
  refine zLI ?_
  refine zLc (span_pair _ _) ?_
  refine zLG [.int _ _, .int _ _] ?_
  refine zLI ?_
  refine zst (.agg [.int _ _, .int _ _]) [_, _] [[_, _]] ?_
  refine zLI ?_
  refine zn ?_
  refine zt ?_
  refine ends (l := [.agg [.int _ _, .int _ _], .int _ _]) (q := .tup [.agg [.int _ _, .int _ _], .int _ _]) (.inr rfl) rfl ⟨rfl, trivial, trivial⟩ rfl rfl ?_
  rfl
theorem depth_word : Ok Try.prog 60 [] (.agg (spanC wordS)) := by
  refine fn_ok Tb_ok (fn := Try.f60) Try.func60 rfl rfl (e := []) rfl (by decide) rfl ?_
  refine zs ?_
  refine zR ?_
  refine zal [.int .i64 0, .int .i64 0] 2 ?_
  refine zn ?_
  refine zs ?_
  refine zR ?_
  refine zLG [.int _ _, .int _ _] ?_
  refine zst (.agg [.int _ _, .int _ _]) [_, _] [[_, _]] ?_
  refine zn ?_
  refine zt ?_
  refine ends (l := [.agg [.int _ _, .int _ _]]) (q := .agg [.int _ _, .int _ _]) (.inr rfl) rfl ⟨rfl, trivial⟩ rfl rfl ?_
  rfl
theorem depth_long : Ok Try.prog 65 [] (.agg (spanC longS)) := by
  refine fn_ok Tb_ok (fn := Try.f65) Try.func65 rfl rfl (e := []) rfl (by decide) rfl ?_
  refine zs ?_
  refine zR ?_
  refine zal [.int .i64 0, .int .i64 0] 2 ?_
  refine zn ?_
  refine zs ?_
  refine zR ?_
  refine zLG [.int _ _, .int _ _] ?_
  refine zst (.agg [.int _ _, .int _ _]) [_, _] [[_, _]] ?_
  refine zn ?_
  refine zt ?_
  refine ends (l := [.agg [.int _ _, .int _ _]]) (q := .agg [.int _ _, .int _ _]) (.inr rfl) rfl ⟨rfl, trivial⟩ rfl rfl ?_
  rfl
def safeB (m : Model) (op ch : Int) (s : Span) (d : Int) : Bool := bif partE m op ch s d == 0 then okW (partS m op ch s d) else false
theorem depth_Safe (m : Model) (hm : m.Wf) (op ch : Int) (s : Span) (d : Int) : Ok Try.prog 25 [.agg (modelC m), .int .i64 op, .int .i64 ch, .agg (spanC s), .int .i64 d] (.tup [.bool (safeB m op ch s d), .int .i64 (partE m op ch s d)]) := by
  refine fn_ok Tb_ok (fn := Try.f25) Try.func25 rfl rfl (e := [(0, _), (1, _), (2, _), (3, _), (4, _)]) rfl (by decide) rfl ?_
  refine zs ?_
  refine zR ?_
  refine zbx [.int _ _, .int _ _, .int _ _, .int _ _, .int _ _, _, .int _ _] 7 ?_
  refine zbx [.int _ _, .int _ _] 2 ?_
  refine zLB ?_
  refine zLI ?_
  refine zn ?_
  refine zs ?_
  refine zR ?_
  refine zLG [.int _ _, .int _ _, .int _ _, .int _ _, .int _ _, _, .int _ _] ?_
  refine zLI ?_
  refine zLI ?_
  refine zLG [.int _ _, .int _ _] ?_
  refine zLI ?_
  refine zLc (bound_Part m hm op ch s d) ?_
  refine zLT [_, _] ?_
  refine zLG [.int _ _, .int _ _] ?_
  refine zLI ?_
  refine zal [.int .i64 0, .int .i64 0] 2 ?_
  refine zst (.agg [.int _ _, .int _ _]) [_, _] [[_, _]] ?_
  refine zLI ?_
  refine zn ?_
  refine zs ?_
  refine W_draw 10 Tb_mixed rfl (by decide) (by kernel_rfl) (by kernel_rfl) ?_
  refine zEI ?_
  refine zEB ?_
  refine zEB ?_
  refine E_callg (hr := fun hg => depth_word) rfl rfl rfl rfl rfl (fun hg => trivial) rfl rfl ?_
  refine zgEG [.int _ _, .int _ _] ?_
  refine E_callg (hr := fun hg => span_Holds _ _) rfl rfl rfl rfl rfl (fun hg => ⟨⟨(by exact hg), True.intro⟩, ⟨⟨(by exact hg), True.intro⟩, True.intro⟩⟩) rfl rfl ?_
  refine zpEB ?_
  refine zEI ?_
  refine zEB ?_
  refine zEI ?_
  refine LexE_nil ?_
  refine zn ?_
  refine zt ?_
  refine ends (l := [.bool _, .int _ _]) (q := .tup [.bool _, .int _ _]) (.inr rfl) rfl ⟨trivial, trivial, trivial⟩ rfl rfl ?_
  rfl
def narB (t : Int) (s : Span) : Bool := bif decide (s.Lo ≥ -t) then decide (s.Hi < t) else false
theorem ref13_Narrow16 (s : Span) : Ok Try.prog 59 [.agg (spanC s), .int .i64 16] (.bool (narB 32768 s)) := by
  refine fn_ok Tb_ok (fn := Try.f59) Try.func59 rfl rfl (e := [(0, _), (1, _)]) rfl (by decide) rfl ?_
  refine zs ?_
  refine zR ?_
  refine zbx [.int _ _, .int _ _] 2 ?_
  refine zLB ?_
  refine zn ?_
  refine zs ?_
  refine zR ?_
  refine zLI ?_
  refine zLI ?_
  refine zLI ?_
  refine L_v Tb_ok (v := .int _ _) (av rfl ⟨trivial, (by decide)⟩) rfl ?_
  refine zLI ?_
  refine zn ?_
  refine zs ?_
  refine zR ?_
  refine zLP ?_
  refine zLI ?_
  refine zLI ?_
  refine zLI ?_
  refine zLB ?_
  refine zLB ?_
  refine zgLP ?_
  refine zgLI ?_
  refine zgLI ?_
  refine zgLB ?_
  refine zpLB ?_
  refine zLB ?_
  refine zn ?_
  refine zt ?_
  refine ends (l := [.bool _]) (q := .bool _) (.inr rfl) rfl ⟨trivial, trivial⟩ rfl rfl ?_
  rfl
theorem ref13_Narrow32 (s : Span) : Ok Try.prog 59 [.agg (spanC s), .int .i64 32] (.bool (narB 2147483648 s)) := by
  refine fn_ok Tb_ok (fn := Try.f59) Try.func59 rfl rfl (e := [(0, _), (1, _)]) rfl (by decide) rfl ?_
  refine zs ?_
  refine zR ?_
  refine zbx [.int _ _, .int _ _] 2 ?_
  refine zLB ?_
  refine zn ?_
  refine zs ?_
  refine zR ?_
  refine zLI ?_
  refine zLI ?_
  refine zLI ?_
  refine L_v Tb_ok (v := .int _ _) (av rfl ⟨trivial, (by decide)⟩) rfl ?_
  refine zLI ?_
  refine zn ?_
  refine zs ?_
  refine zR ?_
  refine zLP ?_
  refine zLI ?_
  refine zLI ?_
  refine zLI ?_
  refine zLB ?_
  refine zLB ?_
  refine zgLP ?_
  refine zgLI ?_
  refine zgLI ?_
  refine zgLB ?_
  refine zpLB ?_
  refine zLB ?_
  refine zn ?_
  refine zt ?_
  refine ends (l := [.bool _]) (q := .bool _) (.inr rfl) rfl ⟨trivial, trivial⟩ rfl rfl ?_
  rfl
theorem narB_iff {s : Span} : narB 32768 s = true ↔ nar s := by
  unfold narB nar
  by_cases c : s.Lo ≥ -32768
  · rw [decide_eq_true c, cond_true, decide_eq_true_eq]; omega
  · rw [decide_eq_false c, cond_false]; simp; omega
/-- what the reference's search asks of a depth -/
def blkOk (D : Nat) (r : List Span) (i : Nat) : Prop := narB 32768 (partG D ⟨0, 0, false⟩ r (i + 1)).2 = true ∧ narB 32768 (r.getD i default) = true
theorem blk_iff {d : Int} {D : Nat} (hd : d = (D : Int)) {r : List Span} {j : Nat} : blkOk D r j ↔ (bif !narB 32768 (plusS (blkY d j (partG D ⟨0, 0, false⟩ r j).2) (r.getD j default)) then true else !narB 32768 (r.getD j default)) = false := by
  unfold blkOk
  rw [blkY_eq hd]
  cases narB 32768 (plusS (blkY d j (partG D ⟨0, 0, false⟩ r j).2) (r.getD j default)) <;> simp
theorem bad_b {b : Bool} {p : Prop} (hb : b = true → p) (hn : ¬ p) : AV.bool false = AV.bool b := by
  cases b with
  | false => rfl
  | true => exact absurd (hb rfl) hn
theorem all_snoc {p : Nat → Prop} {k : Nat} (h : ∀ i, i < k → p i) (hk : p k) : ∀ i, i < k + 1 → p i := fun i hi => by
  by_cases e : i = k
  · rw [e]; exact hk
  · exact h i (by omega)
theorem ref18_safe (L : List (List Span)) (d : Int) (D : Nat) (hd : d = (D : Int)) (hD : 0 < D) (hlen : ∀ k, k < L.length → (L.getD k default).length ≤ 512) (hLL : L.length ≤ 1048576) (b : Bool) (hb : b = true ↔ ∀ k, k < L.length → ∀ i, i < (L.getD k default).length → blkOk D (L.getD k default) i) : Ok Try.prog 56 [.ro (L.map rowC), .int .i64 d] (.bool b) := by
  have hd0 : d ≠ 0 := by omega
  --@@3
  skip
  refine fn_ok Tb_ok (fn := Try.f56) Try.func56 rfl rfl (e := [(0, _), (1, _)]) rfl (by decide) rfl ?_
  refine zs ?_
  refine zR ?_
  refine zLB ?_
  refine zn ?_
  refine zs ?_
  refine zs ?_
  refine zR ?_
  refine zLO ?_
  refine zLI ?_
  refine zLI ?_
  refine zn ?_
  refine W_block ?_
  -- slot 44 changes in the loop: hint wanted
  -- slot 45 changes in the loop: hint wanted
  -- slot 46 changes in the loop: hint wanted
  refine W_forEF (L.length) (fun (k : Nat) => ∀ q, q < k → ∀ i, i < (L.getD q default).length → blkOk D (L.getD q default) i) (fun q hq => absurd hq (Nat.not_lt_zero _)) [(1, .int _ _), (10, .ro _), (11, .int _ _)] (fun (k : Nat) => [(12, .int .i64 (k : Int))]) [] (fun (k : Nat) => []) [] (fun (k : Nat) => []) 0 (le_fit (sub_cat ⟨rfl, trivial⟩ ⟨rfl, rfl, rfl, trivial⟩) (subO_cat trivial trivial) (subK_cat trivial trivial) rfl rfl rfl rfl rfl) ?_
  intro k hk hfk
  refine W.of_le (s' := ⟨[(12, .int .i64 (k : Int)), (1, .int _ _), (10, .ro _), (11, .int _ _)], [], [], 0⟩) (le_fit ⟨rfl, rfl, rfl, rfl, trivial⟩ trivial trivial rfl rfl rfl rfl rfl) ?_
  refine zs ?_
  refine zR ?_
  refine zLB ?_
  refine zn ?_
  refine zs ?_
  refine W_cond (b := _) rfl (fun h13 => ?_) (fun h13 => ?_)
  · have hkt : k < L.length := by (have := of_decide_eq_true h13; simp only [List.length_map, List.length_take, List.length_drop] at this; omega)
    have hr := hlen k hkt
    have hrk : L.getD ((k : Nat) : Int).toNat default = L.getD k default := by rw [Int.toNat_natCast]
    refine zk ?_
    refine zs ?_
    refine W_block ?_
    refine zs ?_
    refine zR ?_
    (refine L_v Tb_ok (v := _) (ave_index_ro rfl rfl rfl (fun _ => rfl) rfl (by first | omega | assumption | decide | (simp_all; done) | (simp_all; omega)) (by first | omega | assumption | decide | (simp_all; done) | (simp_all; omega)) trivial) rfl ?_)
    refine zLO ?_
    simp only [hrk]
    refine zLO ?_
    refine zn ?_
    refine zs ?_
    refine zR ?_
    refine zal [.int .i64 0, .int .i64 0] 2 ?_
    refine zn ?_
    refine zs ?_
    refine zR ?_
    refine zLO ?_
    refine zLI ?_
    refine zLI ?_
    refine zn ?_
    refine W_block ?_
    -- slot 44 changes in the loop: hint wanted
    -- slot 45 changes in the loop: hint wanted
    -- slot 46 changes in the loop: hint wanted
    refine W_forEF ((L.getD k default).length) (fun (j : Nat) => ∀ i, i < j → blkOk D (L.getD k default) i) (fun q hq => absurd hq (Nat.not_lt_zero _)) [(1, .int _ _), (7, .ptr 0 0 0), (10, .ro _), (11, .int _ _), (12, .int _ _), (16, .ro _), (17, .int _ _)] (fun (j : Nat) => [(18, .int .i64 (j : Int))]) [] (fun (j : Nat) => [(0, some ⟨28, 2, 0, [spanC (partG D ⟨0, 0, false⟩ (L.getD k default) j).2]⟩)]) [] (fun (j : Nat) => []) 1 (le_fit (sub_cat ⟨rfl, trivial⟩ ⟨rfl, rfl, rfl, rfl, rfl, rfl, rfl, trivial⟩) (subO_cat ⟨.inr rfl, trivial⟩ trivial) (subK_cat trivial trivial) rfl rfl rfl rfl rfl) ?_
    intro j hj hfj
    refine W.of_le (s' := ⟨[(18, .int .i64 (j : Int)), (1, .int _ _), (7, .ptr 0 0 0), (10, .ro _), (11, .int _ _), (12, .int _ _), (16, .ro _), (17, .int _ _)], [(0, some ⟨28, 2, 0, [spanC (partG D ⟨0, 0, false⟩ (L.getD k default) j).2]⟩)], [], 1⟩) (le_fit ⟨rfl, rfl, rfl, rfl, rfl, rfl, rfl, rfl, trivial⟩ ⟨.inr rfl, trivial⟩ trivial rfl rfl rfl rfl rfl) ?_
    refine zs ?_
    refine zR ?_
    refine zLB ?_
    refine zn ?_
    refine zs ?_
    refine W_cond (b := _) rfl (fun h19 => ?_) (fun h19 => ?_)
    · have hjt : j < (L.getD k default).length := by (have := of_decide_eq_true h19; simp only [List.length_map, List.length_take, List.length_drop] at this; omega)
      refine zk ?_
      refine zs ?_
      refine W_block ?_
      refine zs ?_
      refine zR ?_
      refine zLI ?_
      (refine L_v Tb_ok (v := _) (ave_index_ro rfl rfl rfl (fun _ => rfl) rfl (by first | omega | assumption | decide | (simp_all; done) | (simp_all; omega)) (by first | omega | assumption | decide | (simp_all; done) | (simp_all; omega)) trivial) rfl ?_)
      refine zLG [.int _ _, .int _ _] ?_
      refine zal [.int .i64 0, .int .i64 0] 2 ?_
      refine zLI ?_
      refine zst (.agg [.int _ _, .int _ _]) [_, _] [[_, _]] ?_
      refine zn ?_
      refine zs ?_
      refine zs ?_
      refine zR ?_
      refine zLI ?_
      refine zLI ?_
      refine L_v Tb_ok (v := .int _ _) (av rfl ⟨trivial, (by exact hd0)⟩) rfl ?_
      refine zLB ?_
      refine zn ?_
      refine W_iftB (b := _) rfl [(1, .int _ _), (7, .ptr 0 0 0), (9, .ptr 1 0 0), (10, .ro _), (11, .int _ _), (12, .int _ _), (16, .ro _), (17, .int _ _), (18, .int _ _)] (fun (z : Bool) => []) [(1, some ⟨_, _, _, _⟩)] (fun (z : Bool) => [(0, some ⟨28, 2, 0, [spanC (bif z then ⟨0, 0⟩ else (partG D ⟨0, 0, false⟩ (L.getD k default) j).2)]⟩)]) [] (fun (z : Bool) => []) 2 ⟨rfl, rfl, rfl, rfl, rfl, rfl, rfl, rfl, rfl, trivial⟩ ⟨.inr rfl, trivial⟩ trivial (fun h26 => ?_) (fun h26 => ?_) ?_
      · refine zR ?_
        refine zLG [.int _ _, .int _ _] ?_
        refine zst (.agg [.int _ _, .int _ _]) [_, _] [[_, _]] ?_
        refine zn ?_
        exact ⟨trivial, (le_fit (sub_cat trivial ⟨rfl, rfl, rfl, rfl, rfl, rfl, rfl, rfl, rfl, trivial⟩) (subO_cat ⟨.inr rfl, trivial⟩ ⟨.inr rfl, trivial⟩) (subK_cat trivial trivial) rfl rfl rfl rfl rfl)⟩
      · refine zk ?_
        exact ⟨trivial, (le_fit (sub_cat trivial ⟨rfl, rfl, rfl, rfl, rfl, rfl, rfl, rfl, rfl, trivial⟩) (subO_cat ⟨.inr rfl, trivial⟩ ⟨.inr rfl, trivial⟩) (subK_cat trivial trivial) rfl rfl rfl rfl rfl)⟩
      refine W.of_le (s' := ⟨[(1, .int _ _), (7, .ptr 0 0 0), (9, .ptr 1 0 0), (10, .ro _), (11, .int _ _), (12, .int _ _), (16, .ro _), (17, .int _ _), (18, .int _ _)], [(0, some ⟨28, 2, 0, [spanC (bif _ then ⟨0, 0⟩ else (partG D ⟨0, 0, false⟩ (L.getD k default) j).2)]⟩), (1, some ⟨_, _, _, _⟩)], [], 2⟩) (le_fit ⟨rfl, rfl, rfl, rfl, rfl, rfl, rfl, rfl, rfl, trivial⟩ ⟨.inr rfl, .inr rfl, trivial⟩ trivial rfl rfl rfl rfl rfl) ?_
      refine zs ?_
      refine zR ?_
      refine zLP ?_
      refine zLI ?_
      refine zLP ?_
      refine zLI ?_
      refine zLI ?_
      refine zLP ?_
      refine zst (.int _ _) [_] [[_, _]] ?_
      refine zn ?_
      refine zs ?_
      refine zR ?_
      refine zLP ?_
      refine zLI ?_
      refine zLP ?_
      refine zLI ?_
      refine zLI ?_
      refine zLP ?_
      refine zst (.int _ _) [_] [[_, _]] ?_
      refine zn ?_
      refine zs ?_
      refine zR ?_
      refine zLG [.int _ _, .int _ _] ?_
      refine zLc (ref13_Narrow16 (plusS (blkY d j (partG D ⟨0, 0, false⟩ (L.getD k default) j).2) ((L.getD k default).getD j default))) ?_
      refine zLB ?_
      refine zLB ?_
      refine zgLG [.int _ _, .int _ _] ?_
      refine L_callg (hr := fun hg => ref13_Narrow16 ((L.getD k default).getD j default)) rfl rfl rfl rfl rfl (fun hg => ⟨⟨(by exact hg), True.intro⟩, True.intro⟩) rfl rfl ?_
      refine zgLB ?_
      refine zpLB ?_
      refine zn ?_
      refine W_cond (b := _) rfl (fun h47 => ?_) (fun h47 => ?_)
      · have hbj : ¬ blkOk D (L.getD k default) j := fun q => by have := (blk_iff hd).1 q; exact absurd (this.symm.trans h47) (by decide)
        refine zs ?_
        refine zR ?_
        refine zLB ?_
        refine zn ?_
        refine zt ?_
        refine ends (l := [.bool _]) (q := .bool _) (.inr rfl) rfl ⟨trivial, trivial⟩ rfl rfl ?_
        exact bad_b hb.1 (fun q => hbj (q k hkt j hjt))
      · have hbj : blkOk D (L.getD k default) j := (blk_iff hd).2 h47
        refine zk ?_
        refine zR ?_
        refine zLI ?_
        refine zLI ?_
        refine zn ?_
        refine forF_end hjt (all_snoc hfj hbj) (le_fit (sub_cat ⟨congrArg _ (w_succ hjt (by omega)), trivial⟩ ⟨rfl, rfl, rfl, rfl, rfl, rfl, rfl, trivial⟩) (subO_cat ⟨.inr (by rw [blkY_eq hd]; rfl), trivial⟩ trivial) (subK_cat trivial trivial) rfl rfl rfl rfl rfl)
    · have hje : j = (L.getD k default).length := by (have := of_decide_eq_false h19; simp only [List.length_map, List.length_take, List.length_drop] at this; omega)
      refine W_exit ?_
      repeat (first | refine pass_then ?_ | refine pass_forF ?_)
      refine blockQ_hit ?_
      refine zR ?_
      refine zLI ?_
      refine zLI ?_
      refine zn ?_
      refine forF_end hkt (all_snoc hfk (fun i hi => hfj i (by omega))) (le_fit (sub_cat ⟨congrArg _ (w_succ hkt (by omega)), trivial⟩ ⟨rfl, rfl, rfl, trivial⟩) (subO_cat trivial trivial) (subK_cat trivial trivial) rfl rfl rfl rfl rfl)
  · have hke : k = L.length := by (have := of_decide_eq_false h13; simp only [List.length_map, List.length_take, List.length_drop] at this; omega)
    refine W_exit ?_
    repeat (first | refine pass_then ?_ | refine pass_forF ?_)
    refine blockQ_hit ?_
    refine zs ?_
    refine zR ?_
    refine zLB ?_
    refine zn ?_
    refine zt ?_
    refine ends (l := [.bool _]) (q := .bool _) (.inr rfl) rfl ⟨trivial, trivial⟩ rfl rfl ?_
    rw [hb.2 (fun q hq => hfk q (by omega))]
end Go.AM
end
section
namespace Go.AM
open Go.RowKit
set_option linter.unusedVariables false
set_option linter.unusedSimpArgs false
section
variable {P : Program} {T : Tab} {nt lo : Nat} {ops : Array Oper} {O : Objs} {K : Toks} {nx : Nat} {Q : Exit → St → Prop} {e : Env} {rest : List Oper} {ty : TypeId} {pos : String} {after : Array Edge} {v : AV} {d : Nat}
theorem L_load_at (hT : Tab.Ok P T) {α : Type} [Inhabited α] {f : α → List AV} {xs : List α} (q : Nat) {t : Nat} {x : Operand} {id i j : Nat} (hx : strip (ev e x) = .ptr id i j) {oty osz ofz : Nat} (hob : lk O id = some ⟨oty, osz, ofz, xs.map f⟩) (hq : i = q) (hi : q < xs.length)
    (hkn : (T.at t).kind.known = true) (hc : loadc (T.at t) (osz - j) = true) (hs : sgs [ev e x]) (hv : loadv (T.at t) ((f (xs.getD q default)).drop j) = v) (hd : Nat.blt d nt = true) (hn : WL P nt lo ops rest ⟨(d, v) :: e, O, K, nx⟩ Q) : WL P nt lo ops (⟨some d, .load t x, ty, pos, after, none⟩ :: rest) ⟨e, O, K, nx⟩ Q := by
  subst hq; subst hv
  exact L_v hT (ave_load_row hx hob hkn hc hi hs) hd hn
theorem L_store_at (hT : Tab.Ok P T) {α : Type} [Inhabited α] {f : α → List AV} {xs : List α} (q : Nat) (v' : α) {t : Nat} {x y : Operand} {id i j : Nat} (hx : strip (ev e x) = .ptr id i j) {oty osz ofz : Nat} (hob : lk O id = some ⟨oty, osz, ofz, xs.map f⟩) (hq : i = q) (hi : q < xs.length) (hv : strip (ev e y) = v) {cs : List AV} (hcs : v.cells = cs) (hp : v.plain = true) (hone : cs.all AV.one = true)
    (hes : (f (xs.getD q default)).take j ++ cs ++ (f (xs.getD q default)).drop (j + cs.length) = f v') (hk : (Nat.beq (T.at t).size cs.length && !(Nat.beq cs.length 0) && Nat.ble (j + cs.length) osz) = true) (hf : Nat.ble ofz i = true) (hs : sg (ev e x) ∧ sg (ev e y))
    (hn : WL P nt lo ops rest ⟨e, (id, some ⟨oty, osz, ofz, (xs.set q v').map f⟩) :: O, K, nx⟩ Q) : WL P nt lo ops (⟨none, .store t x y, ty, pos, after, none⟩ :: rest) ⟨e, O, K, nx⟩ Q := by
  subst hq
  exact L_store_row hT hx hob hv hcs hp hone hes hk hi hf hs hn
theorem map_dem {α : Type} {f : α → List AV} (hf : ∀ x, (f x).map demC = f x) (xs : List α) : (xs.map f).map (·.map demC) = xs.map f := by
  rw [List.map_map]; exact List.map_congr_left (fun x _ => hf x)
theorem map_gr {α : Type} {f : α → List AV} (hg : ∀ x, (f x).all grC = true) (xs : List α) : (xs.map f).all (fun c => c.all grC) = true := by
  rw [List.all_eq_true]; intro c hc; obtain ⟨x, _, rfl⟩ := List.mem_map.1 hc; exact hg x
theorem L_give {α : Type} {f : α → List AV} {xs : List α} {l0 : List Oper} (t : Nat) {id n oty osz ofz : Nat} (hg : get e t = .row id 0 n) (hob : lk O id = some ⟨oty, osz, ofz, xs.map f⟩) (hn : n = xs.length) (hfz : Nat.ble ofz n = true) (hsz : Nat.blt 0 osz = true) (hf : ∀ x, (f x).map demC = f x) (hgr : ∀ x, (f x).all grC = true)
    (h : WL P nt lo ops l0 ⟨(t, .ro (xs.map f)) :: e, (id, none) :: O, K, nx + 1⟩ Q) : WL P nt lo ops l0 ⟨e, O, K, nx⟩ Q :=
  L_freeze hg hob (by rw [hn]; simp) hfz hsz (map_dem hf xs) (map_gr hgr xs) h
theorem W_give {α : Type} {f : α → List AV} {xs : List α} {c : Code} (t : Nat) {id n oty osz ofz : Nat} (hg : get e t = .row id 0 n) (hob : lk O id = some ⟨oty, osz, ofz, xs.map f⟩) (hn : n = xs.length) (hfz : Nat.ble ofz n = true) (hsz : Nat.blt 0 osz = true) (hf : ∀ x, (f x).map demC = f x) (hgr : ∀ x, (f x).all grC = true)
    (h : W P nt lo c ⟨(t, .ro (xs.map f)) :: e, (id, none) :: O, K, nx + 1⟩ Q) : W P nt lo c ⟨e, O, K, nx⟩ Q :=
  W.of_le (le_freeze hg hob (by rw [hn]; simp) hfz hsz (map_dem hf xs) (map_gr hgr xs)) h
theorem L_slice_map (hT : Tab.Ok P T) {α : Type} {f : α → List AV} {xs : List α} (a c : Nat) {t el sz : Nat} {x y z : Operand} {ky kz : IntKind} {p q : Int} (hx : strip (ev e x) = .ro (xs.map f)) (hy : strip (ev e y) = .int ky p) (hz : strip (ev e z) = .int kz q)
    (hk : (T.at t).kind = .slice el) (hsz : (T.at el).size = sz) (hpos : Nat.blt 0 sz = true) (hl : ∀ x, (f x).length = sz) (ha : p = (a : Int)) (hc : q = (c : Int)) (h1 : a ≤ c) (h2 : c ≤ xs.length) (hs : sg (ev e x) ∧ sg (ev e y) ∧ sg (ev e z)) (hd : Nat.blt d nt = true)
    (hn : WL P nt lo ops rest ⟨(d, .ro (((xs.drop a).take (c - a)).map f)) :: e, O, K, nx⟩ Q) : WL P nt lo ops (⟨some d, .slice t x (some y) (some z) none, ty, pos, after, none⟩ :: rest) ⟨e, O, K, nx⟩ Q := by
  subst ha hc
  refine L_slice hT hx hy hz hk hsz hpos (fun c hc => by obtain ⟨x, _, rfl⟩ := List.mem_map.1 hc; exact hl x) (by omega) (by omega) (by rw [List.length_map]; omega) hs hd ?_
  rw [Int.toNat_natCast, Int.toNat_natCast, ← List.map_drop, ← List.map_take]
  exact hn
theorem L_slice_mapto (hT : Tab.Ok P T) {α : Type} {f : α → List AV} {xs : List α} (c : Nat) {t el sz : Nat} {x z : Operand} {kz : IntKind} {q : Int} (hx : strip (ev e x) = .ro (xs.map f)) (hz : strip (ev e z) = .int kz q)
    (hk : (T.at t).kind = .slice el) (hsz : (T.at el).size = sz) (hpos : Nat.blt 0 sz = true) (hl : ∀ x, (f x).length = sz) (hc : q = (c : Int)) (h2 : c ≤ xs.length) (hs : sg (ev e x) ∧ sg (ev e z)) (hd : Nat.blt d nt = true)
    (hn : WL P nt lo ops rest ⟨(d, .ro ((xs.take c).map f)) :: e, O, K, nx⟩ Q) : WL P nt lo ops (⟨some d, .slice t x none (some z) none, ty, pos, after, none⟩ :: rest) ⟨e, O, K, nx⟩ Q := by
  subst hc
  refine L_slice_to hT hx hz hk hsz hpos (fun c hc => by obtain ⟨x, _, rfl⟩ := List.mem_map.1 hc; exact hl x) (by omega) (by rw [List.length_map]; omega) hs hd ?_
  rw [Int.toNat_natCast, ← List.map_take]
  exact hn
theorem L_slice_mapfrom (hT : Tab.Ok P T) {α : Type} {f : α → List AV} {xs : List α} (a : Nat) {t el sz : Nat} {x y : Operand} {ky : IntKind} {p : Int} (hx : strip (ev e x) = .ro (xs.map f)) (hy : strip (ev e y) = .int ky p)
    (hk : (T.at t).kind = .slice el) (hsz : (T.at el).size = sz) (hpos : Nat.blt 0 sz = true) (hl : ∀ x, (f x).length = sz) (ha : p = (a : Int)) (h2 : a ≤ xs.length) (hs : sg (ev e x) ∧ sg (ev e y)) (hd : Nat.blt d nt = true)
    (hn : WL P nt lo ops rest ⟨(d, .ro ((xs.drop a).map f)) :: e, O, K, nx⟩ Q) : WL P nt lo ops (⟨some d, .slice t x (some y) none none, ty, pos, after, none⟩ :: rest) ⟨e, O, K, nx⟩ Q := by
  subst ha
  refine L_slice_from hT hx hy hk hsz hpos (fun c hc => by obtain ⟨x, _, rfl⟩ := List.mem_map.1 hc; exact hl x) (by omega) (by rw [List.length_map]; omega) hs hd ?_
  rw [Int.toNat_natCast, ← List.map_drop]
  exact hn
end
end Go.AM
end
section
open Go Go.AM Go.Proofs
set_option maxRecDepth 10000
set_option linter.unusedVariables false
set_option linter.unusedSimpArgs false
namespace Go.AM
def upC (up : Bool) (w : Int) : Bool := decide (w > 0) == up
theorem i8w {x : Int} (h : -128 ≤ x ∧ x ≤ 127) : IntKind.i8.wrap x = x := by simp [IntKind.wrap, IntKind.bits, IntKind.signed]; split <;> omega
def elemsW (s : Shape) : Int := s.H * s.W * s.C
theorem elems_inW {s : Shape} (h : shapeB s = true) : w64 (w64 (s.H * s.W) * s.C) = elemsW s ∧ 0 ≤ elemsW s ∧ elemsW s ≤ 16384 := by
  have B := shapeB_iff.1 h
  have c0 : 0 ≤ s.H * s.W := Int.mul_nonneg (by omega) (by omega)
  have c1 : s.H * s.W ≤ 1024 * 1024 := Int.mul_le_mul B.1.2 B.2.1.2 (by omega) (by omega)
  have c2 : 0 ≤ s.H * s.W * s.C := Int.mul_nonneg c0 (by omega)
  unfold elemsW
  rw [show w64 (s.H * s.W) = _ from w64_id (by omega)]
  exact ⟨w64_id (by omega), c2, by omega⟩
theorem witness_numbers (T : List Term) (s : Span) (M : Nat) (up : Bool) (hs : -128 ≤ s.Lo ∧ s.Lo ≤ s.Hi ∧ s.Hi ≤ 127) (hM : M ≤ 16384) (hT : T.length ≤ 512) (hat : ∀ t ∈ T, t.At < (M : Int)) :
    Ok Try.prog 53 [.ro (T.map termC), .agg (spanC s), .int .i64 (M : Int), .bool up] (.ro ((rowT (upC up) s.Lo s.Hi M T).map i8C)) := by
  have mk1 : (0 : Int) ≤ (M : Int) := by omega
  have mk3 : ((Tb.at 60).bytes : Int) * (M : Int) ≤ 281474976710656 := by rw [show (Tb.at 60).bytes = 1 from rfl]; omega
  have wl : IntKind.i8.wrap s.Lo = s.Lo := i8w (by omega)
  have wh : IntKind.i8.wrap s.Hi = s.Hi := i8w (by omega)
  have hR := rowT_len (upC up) s.Lo s.Hi M
  --@@1
  skip
  refine fn_ok Tb_ok (fn := Try.f53) Try.func53 rfl rfl (e := [(0, _), (1, _), (2, _), (3, _)]) rfl (by decide) rfl ?_
  refine zs ?_
  refine zR ?_
  refine zbx [.int _ _, .int _ _] 2 ?_
  refine zLN ?_
  refine zn ?_
  refine zs ?_
  refine zR ?_
  refine zLI ?_
  refine L_make Tb_ok (el := 60) (sz := 1) (z := [.int .i8 0]) rfl rfl rfl rfl rfl rfl rfl rfl ⟨trivial, trivial⟩ (by omega) (by omega) rfl ?_
  refine zLW ?_
  refine zn ?_
  refine zs ?_
  refine zs ?_
  refine zR ?_
  refine zLW ?_
  refine zLI ?_
  refine zLI ?_
  refine zn ?_
  refine W_block ?_
  refine W_forE (M) [(0, .ro _), (3, .bool _), (5, .ptr 0 0 0), (9, .row 1 0 _), (16, .int _ _)] (fun (i : Nat) => [(17, .int .i64 (i : Int))]) [(0, some ⟨_, _, _, _⟩)] (fun (i : Nat) => [(1, some ⟨60, 1, 0, (fillL s.Lo M i).map i8C⟩)]) [] (fun (i : Nat) => []) 2 (le_fit (sub_cat ⟨rfl, trivial⟩ ⟨rfl, rfl, rfl, rfl, rfl, trivial⟩) (subO_cat ⟨.inr (by show some (Ob.mk 60 1 0 (List.replicate (((M : Nat) : Int)).toNat [AV.int .i8 0])) = _; rw [Int.toNat_natCast]; simp [fillL, i8C]), trivial⟩ ⟨.inr rfl, trivial⟩) (subK_cat trivial trivial) rfl rfl rfl (by simp [ltOB, i8C, AV.lt, spanC]) rfl) ?_
  intro i hi
  refine W.of_le (s' := ⟨[(17, .int .i64 (i : Int)), (0, .ro _), (3, .bool _), (5, .ptr 0 0 0), (9, .row 1 0 _), (16, .int _ _)], [(1, some ⟨60, 1, 0, (fillL s.Lo M i).map i8C⟩), (0, some ⟨_, _, _, _⟩)], [], 2⟩) (le_fit ⟨rfl, rfl, rfl, rfl, rfl, rfl, trivial⟩ ⟨.inr rfl, .inr rfl, trivial⟩ trivial rfl rfl rfl (by simp [ltOB, i8C, AV.lt, spanC]) rfl) ?_
  refine zs ?_
  refine zR ?_
  refine zLB ?_
  refine zn ?_
  refine zs ?_
  refine W_cond (b := _) rfl (fun h18 => ?_) (fun h18 => ?_)
  · have hit : i < M := by (have := of_decide_eq_true h18; omega)
    refine zk ?_
    refine zs ?_
    refine W_block ?_
    refine zs ?_
    refine zR ?_
    refine zLI ?_
    refine zLI ?_
    refine zn ?_
    refine zR ?_
    refine zLW ?_
    refine zLI ?_
    refine zLP ?_
    refine zLI ?_
    refine zLI ?_
    (refine L_v Tb_ok (v := _) (ave_index_row rfl rfl rfl rfl rfl rfl (by first | omega | assumption | decide | (simp_all; done) | (simp_all; omega)) (by first | omega | assumption | decide | (simp_all; done) | (simp_all; omega)) trivial) rfl ?_)
    refine L_store_at Tb_ok (f := i8C) (xs := fillL s.Lo M i) (i) (s.Lo) rfl rfl (by simp) (by rw [fillL_len (by omega)]; omega) rfl rfl rfl rfl (by show [AV.int .i8 _] = [AV.int .i8 _]; rw [wl]) rfl rfl ⟨trivial, trivial⟩ ?_
    refine zn ?_
    refine zR ?_
    refine zLI ?_
    refine zLI ?_
    refine zn ?_
    refine for_end hit (le_fit (sub_cat ⟨congrArg _ (w_succ hit (by omega)), trivial⟩ ⟨rfl, rfl, rfl, rfl, rfl, trivial⟩) (subO_cat ⟨.inr (by rw [← fillL_set hit]; rfl), trivial⟩ ⟨.inr rfl, trivial⟩) (subK_cat trivial trivial) rfl rfl rfl (by simp [ltOB, i8C, AV.lt, spanC]) rfl)
  · have hie : i = M := by (have := of_decide_eq_false h18; omega)
    refine W_exit ?_
    repeat (first | refine pass_then ?_ | refine pass_for ?_)
    refine blockQ_hit ?_
    refine zs ?_
    refine zs ?_
    refine zR ?_
    refine zLO ?_
    refine zLI ?_
    refine zLI ?_
    refine zn ?_
    refine W_block ?_
    -- slot 37 changes in the loop: hint wanted
    -- slot 38 changes in the loop: hint wanted
    -- slot 39 changes in the loop: hint wanted
    -- slot 40 changes in the loop: hint wanted
    -- slot 41 changes in the loop: hint wanted
    refine W_forE (T.length) [(3, .bool _), (5, .ptr 0 0 0), (9, .row 1 0 _), (27, .ro _), (28, .int _ _)] (fun (j : Nat) => [(29, .int .i64 (j : Int))]) [(0, some ⟨_, _, _, _⟩)] (fun (j : Nat) => [(1, some ⟨60, 1, 0, (rowT (upC up) s.Lo s.Hi M (T.take j)).map i8C⟩)]) [] (fun (j : Nat) => []) 2 (le_fit (sub_cat ⟨rfl, trivial⟩ ⟨rfl, rfl, rfl, rfl, rfl, trivial⟩) (subO_cat ⟨.inr (by show some (Ob.mk 60 1 0 ((fillL s.Lo M i).map i8C)) = _; rw [hie]; simp [fillL, rowT]), trivial⟩ ⟨.inr rfl, trivial⟩) (subK_cat trivial trivial) rfl rfl rfl (by simp [ltOB, i8C, AV.lt, spanC]) rfl) ?_
    intro j hj
    refine W.of_le (s' := ⟨[(29, .int .i64 (j : Int)), (3, .bool _), (5, .ptr 0 0 0), (9, .row 1 0 _), (27, .ro _), (28, .int _ _)], [(1, some ⟨60, 1, 0, (rowT (upC up) s.Lo s.Hi M (T.take j)).map i8C⟩), (0, some ⟨_, _, _, _⟩)], [], 2⟩) (le_fit ⟨rfl, rfl, rfl, rfl, rfl, rfl, trivial⟩ ⟨.inr rfl, .inr rfl, trivial⟩ trivial rfl rfl rfl (by simp [ltOB, i8C, AV.lt, spanC]) rfl) ?_
    refine zs ?_
    refine zR ?_
    refine zLB ?_
    refine zn ?_
    refine zs ?_
    refine W_cond (b := _) rfl (fun h30 => ?_) (fun h30 => ?_)
    · have hjt : j < T.length := by (have := of_decide_eq_true h30; simp only [List.length_map, List.length_take, List.length_drop] at this; omega)
      have hm := hat (T.getD j default) (by rw [List.getD_eq_getElem?_getD, List.getElem?_eq_getElem hjt]; exact List.getElem_mem hjt)
      have hsu := rowT_succ (upC up) s.Lo s.Hi M hjt
      have hl := hR (T.take j)
      refine zk ?_
      refine zs ?_
      refine W_block ?_
      refine zs ?_
      refine zR ?_
      (refine L_v Tb_ok (v := _) (ave_index_ro rfl rfl rfl (fun _ => rfl) rfl (by first | omega | assumption | decide | (simp_all; done) | (simp_all; omega)) (by first | omega | assumption | decide | (simp_all; done) | (simp_all; omega)) trivial) rfl ?_)
      refine zLG [.int _ _, .int _ _] ?_
      refine zal [.int .i64 0, .int .i64 0] 2 ?_
      refine zst (.agg [.int _ _, .int _ _]) [_, _] [[_, _]] ?_
      refine zn ?_
      refine zs ?_
      refine zR ?_
      refine zLP ?_
      refine zLI ?_
      refine zLB ?_
      refine zLB ?_
      refine zgLP ?_
      refine zgLI ?_
      refine zgLB ?_
      refine zgLB ?_
      refine zgLB ?_
      refine zpLB ?_
      refine zn ?_
      refine W_cond (b := _) rfl (fun h42 => ?_) (fun h42 => ?_)
      · have hp : (0 ≤ (T.getD j default).At ∧ (T.getD j default).At < ((rowT (upC up) s.Lo s.Hi M (T.take j)).length : Int)) ∧ upC up (T.getD j default).W = true := by
          rw [hl]
          have h' : (bif decide ((T.getD j default).At ≥ 0) then decide ((T.getD j default).W > 0) == up else false) = true := h42
          by_cases c : (T.getD j default).At ≥ 0
          · refine ⟨⟨c, hm⟩, ?_⟩
            rw [decide_eq_true c] at h'; exact h'
          · rw [decide_eq_false c] at h'; cases h'
        have hp1 := hp.1.1
        refine zR ?_
        refine zLW ?_
        refine zLP ?_
        refine zLI ?_
        refine zLP ?_
        refine zLI ?_
        refine zLI ?_
        simp only [Int.toNat_natCast]
        (refine L_v Tb_ok (v := _) (ave_index_row rfl rfl rfl rfl rfl rfl (by first | exact hp.1.1 | omega) (by first | exact hp.1.1 | omega) trivial) rfl ?_)
        refine L_store_at Tb_ok (f := i8C) (xs := rowT (upC up) s.Lo s.Hi M (T.take j)) ((T.getD j default).At.toNat) (s.Hi) rfl rfl (by simp) (by rw [hl]; omega) rfl rfl rfl rfl (by show [AV.int .i8 _] = [AV.int .i8 _]; rw [wh]) rfl rfl ⟨trivial, trivial⟩ ?_
        refine zn ?_
        refine zR ?_
        refine zLI ?_
        refine zLI ?_
        refine zn ?_
        refine for_end hjt (le_fit (sub_cat ⟨congrArg _ (w_succ hjt (by omega)), trivial⟩ ⟨rfl, rfl, rfl, rfl, rfl, trivial⟩) (subO_cat ⟨.inr (by rw [hsu]; unfold setT; (rw [if_pos hp]; rfl)), trivial⟩ ⟨.inr rfl, trivial⟩) (subK_cat trivial trivial) rfl rfl rfl (by simp [ltOB, i8C, AV.lt, spanC]) rfl)
      · have hp : ¬ ((0 ≤ (T.getD j default).At ∧ (T.getD j default).At < ((rowT (upC up) s.Lo s.Hi M (T.take j)).length : Int)) ∧ upC up (T.getD j default).W = true) := fun q => by
          have h' : (bif decide ((T.getD j default).At ≥ 0) then decide ((T.getD j default).W > 0) == up else false) = false := h42
          rw [decide_eq_true (show (T.getD j default).At ≥ 0 from q.1.1)] at h'
          have h2 : upC up (T.getD j default).W = false := h'
          rw [q.2] at h2; cases h2
        refine zk ?_
        refine zR ?_
        refine zLI ?_
        refine zLI ?_
        refine zn ?_
        refine for_end hjt (le_fit (sub_cat ⟨congrArg _ (w_succ hjt (by omega)), trivial⟩ ⟨rfl, rfl, rfl, rfl, rfl, trivial⟩) (subO_cat ⟨.inr (by rw [hsu]; unfold setT; (rw [if_neg hp]; rfl)), trivial⟩ ⟨.inr rfl, trivial⟩) (subK_cat trivial trivial) rfl rfl rfl (by simp [ltOB, i8C, AV.lt, spanC]) rfl)
    · have hje : j = T.length := by (have := of_decide_eq_false h30; simp only [List.length_map, List.length_take, List.length_drop] at this; omega)
      refine W_exit ?_
      repeat (first | refine pass_then ?_ | refine pass_for ?_)
      refine blockQ_hit ?_
      refine zs ?_
      refine zR ?_
      refine L_give (f := i8C) (xs := rowT (upC up) s.Lo s.Hi M (T.take j)) 9 rfl rfl (by rw [hR]; exact Int.toNat_natCast M) rfl rfl (fun _ => rfl) (fun _ => rfl) ?_
      refine zLO ?_
      refine zLO ?_
      refine zn ?_
      refine zt ?_
      (refine ends (l := [.ro _]) (q := .ro _) (.inr rfl) rfl ⟨trivial, trivial⟩ rfl rfl ?_)
      rw [hje, List.take_length]
/-- what the terms make of numbers -/
theorem witness_sum (T : List Term) (x : List Int) (pad : Int) (hT : T.length ≤ 512) (hat : ∀ t ∈ T, t.At < (x.length : Int)) :
    Ok Try.prog 54 [.ro (T.map termC), .ro (x.map i8C), .int .i64 pad] (.int .i64 (sumT 0 T x pad)) := by
  --@@2
  skip
  refine fn_ok Tb_ok (fn := Try.f54) Try.func54 rfl rfl (e := [(0, _), (1, _), (2, _)]) rfl (by decide) rfl ?_
  refine zs ?_
  refine zR ?_
  refine zLI ?_
  refine zn ?_
  refine zs ?_
  refine zR ?_
  refine zLI ?_
  refine zn ?_
  refine zs ?_
  refine zs ?_
  refine zR ?_
  refine zLO ?_
  refine zLI ?_
  refine zLI ?_
  refine zn ?_
  refine W_block ?_
  refine W_forE (T.length) [(1, .ro _), (2, .int _ _), (10, .ro _), (11, .int _ _)] (fun (j : Nat) => [(12, .int .i64 (j : Int)), (7, .int .i64 (sumT 0 (T.take j) x pad))]) [] (fun (j : Nat) => []) [] (fun (j : Nat) => []) 0 (le_fit (sub_cat ⟨rfl, rfl, trivial⟩ ⟨rfl, rfl, rfl, rfl, trivial⟩) (subO_cat trivial trivial) (subK_cat trivial trivial) rfl rfl rfl (by rfl) rfl) ?_
  intro j hj
  refine W.of_le (s' := ⟨[(12, .int .i64 (j : Int)), (7, .int .i64 (sumT 0 (T.take j) x pad)), (1, .ro _), (2, .int _ _), (10, .ro _), (11, .int _ _)], [], [], 0⟩) (le_fit ⟨rfl, rfl, rfl, rfl, rfl, rfl, trivial⟩ trivial trivial rfl rfl rfl (by rfl) rfl) ?_
  refine zs ?_
  refine zR ?_
  refine zLB ?_
  refine zn ?_
  refine zs ?_
  refine W_cond (b := _) rfl (fun h13 => ?_) (fun h13 => ?_)
  · have hjt : j < T.length := by (have := of_decide_eq_true h13; simp only [List.length_map, List.length_take, List.length_drop] at this; omega)
    have hm := hat (T.getD j default) (by rw [List.getD_eq_getElem?_getD, List.getElem?_eq_getElem hjt]; exact List.getElem_mem hjt)
    refine zk ?_
    refine zs ?_
    refine W_block ?_
    refine zs ?_
    refine zR ?_
    (refine L_v Tb_ok (v := _) (ave_index_ro rfl rfl rfl (fun _ => rfl) rfl (by first | omega | assumption | decide | (simp_all; done) | (simp_all; omega)) (by first | omega | assumption | decide | (simp_all; done) | (simp_all; omega)) trivial) rfl ?_)
    refine zLG [.int _ _, .int _ _] ?_
    refine zal [.int .i64 0, .int .i64 0] 2 ?_
    refine zst (.agg [.int _ _, .int _ _]) [_, _] [[_, _]] ?_
    refine zn ?_
    refine zs ?_
    refine zR ?_
    refine zLP ?_
    refine zLI ?_
    refine zLB ?_
    refine zn ?_
    refine W_cond (b := _) rfl (fun h18 => ?_) (fun h18 => ?_)
    · have hp : ¬ (T.getD j default).At ≥ 0 := by have : (T.getD j default).At < 0 := of_decide_eq_true h18; omega
      refine zR ?_
      refine zLI ?_
      refine zLP ?_
      refine zLI ?_
      refine zLI ?_
      refine zLI ?_
      refine zLI ?_
      refine zLI ?_
      refine zn ?_
      refine zR ?_
      refine zLI ?_
      refine zLI ?_
      refine zn ?_
      refine for_end hjt (le_fit (sub_cat ⟨congrArg _ (w_succ hjt (by omega)), congrArg (AV.int .i64) (by unfold sumT; rw [foldl_take' _ _ _ _ hjt, vT]; (rw [if_neg hp]; rfl)), trivial⟩ ⟨rfl, rfl, rfl, rfl, trivial⟩) (subO_cat trivial trivial) (subK_cat trivial trivial) rfl rfl rfl (by rfl) rfl)
    · have hp : (T.getD j default).At ≥ 0 := by have : ¬ (T.getD j default).At < 0 := of_decide_eq_false h18; omega
      refine W_draw 12 Tb_mixed rfl (by decide) (by kernel_rfl) (by kernel_rfl) ?_
      refine zEI ?_
      refine zEP ?_
      refine zEI ?_
      refine zEO ?_
      refine zEP ?_
      refine zEI ?_
      (refine E_v Tb_ok (v := _) (ave_index_ro rfl rfl rfl (fun _ => rfl) rfl (by first | exact hp | exact hm | omega) (by first | exact hp | exact hm | omega) trivial) rfl ?_)
      refine zEI ?_
      refine zEI ?_
      refine zEI ?_
      refine zEI ?_
      refine zEI ?_
      refine LexE_nil ?_
      refine zn ?_
      refine zR ?_
      refine zLI ?_
      refine zLI ?_
      refine zn ?_
      refine for_end hjt (le_fit (sub_cat ⟨congrArg _ (w_succ hjt (by omega)), congrArg (AV.int .i64) (by unfold sumT; rw [foldl_take' _ _ _ _ hjt, vT]; (rw [if_pos hp]; rfl)), trivial⟩ ⟨rfl, rfl, rfl, rfl, trivial⟩) (subO_cat trivial trivial) (subK_cat trivial trivial) rfl rfl rfl (by rfl) rfl)
  · have hje : j = T.length := by (have := of_decide_eq_false h13; simp only [List.length_map, List.length_take, List.length_drop] at this; omega)
    refine W_exit ?_
    repeat (first | refine pass_then ?_ | refine pass_for ?_)
    refine blockQ_hit ?_
    refine zs ?_
    refine zR ?_
    refine zLI ?_
    refine zLI ?_
    refine zn ?_
    refine zt ?_
    refine ends (l := [.int _ _]) (q := .int _ _) (.inr rfl) rfl ⟨trivial, trivial⟩ rfl rfl ?_
    rw [hje, List.take_length]
theorem witness_size {m : Model} {op : Int} (h0 : findE m op = 0) {M : Nat} (hM : (M : Int) = elemsW (findS m op).In) : Ok Try.prog 50 [.agg (modelC m), .int .i64 op] (.int .i64 (M : Int)) := by
  obtain ⟨hS, ⟨o1, o2⟩, hop, he, e⟩ := site_ok h0
  have hn := whole_ok he
  have ow : IntKind.i64.wrap (op - 1) = op - 1 := w64_id (by omega)
  have el := (elems_inW hS.inB).1
  have i0 : 0 ≤ IntKind.i64.wrap (op - 1) := by rw [ow]; omega
  have i1 : IntKind.i64.wrap (op - 1) < (m.Ops.length : Int) := by rw [ow]; omega
  have hA := whole_A he (i := (IntKind.i64.wrap (op - 1)).toNat) (by omega)
  have hA2 : (m.Ops.getD (IntKind.i64.wrap (op - 1)).toNat default).A < ((wholeF m).1.length : Int) := by rw [hn.2.2.2.1]; omega
  have hin : (findS m op).In = (wholeF m).1.getD (m.Ops.getD (IntKind.i64.wrap (op - 1)).toNat default).A.toNat default := by
    rw [e, ow]; rfl
  --@@3
  skip
  refine fn_ok Tb_ok (fn := Try.f50) Try.func50 rfl rfl (e := [(0, _), (1, _)]) rfl (by decide) rfl ?_
  refine zs ?_
  refine zR ?_
  refine zbx [.int _ _, .int _ _, .int _ _, .int _ _, .int _ _, _, .int _ _] 7 ?_
  refine zLI ?_
  refine zn ?_
  refine zs ?_
  refine zR ?_
  refine zLG [.int _ _, .int _ _, .int _ _, .int _ _, .int _ _, _, .int _ _] ?_
  refine zLc (model_Shapes m) ?_
  refine zLT [_, _] ?_
  refine zLO ?_
  refine zLG [.int _ _, .int _ _, .int _ _] ?_
  refine zal [.int .i64 0, .int .i64 0, .int .i64 0] 3 ?_
  refine zLO ?_
  refine zst (.agg [.int _ _, .int _ _, .int _ _]) [_, _, _] [[_, _, _]] ?_
  refine zn ?_
  refine zs ?_
  refine zR ?_
  refine zLO ?_
  refine zLP ?_
  refine zLO ?_
  refine zLI ?_
  refine zLI ?_
  (refine L_v Tb_ok (v := _) (ave_index_ro rfl rfl rfl (fun _ => rfl) rfl (by first | exact i0 | exact i1 | (rw [List.length_map]; exact i1)) (by first | exact i0 | exact i1 | (rw [List.length_map]; exact i1)) trivial) rfl ?_)
  refine zLQ ?_
  refine zLI ?_
  (refine L_v Tb_ok (v := _) (ave_index_ro rfl rfl rfl (fun _ => rfl) rfl (by first | exact hA.1 | exact hA2 | (rw [List.length_map]; exact hA2)) (by first | exact hA.1 | exact hA2 | (rw [List.length_map]; exact hA2)) trivial) rfl ?_)
  refine zLG [.int _ _, .int _ _, .int _ _] ?_
  refine zal [.int .i64 0, .int .i64 0, .int .i64 0] 3 ?_
  refine zst (.agg [.int _ _, .int _ _, .int _ _]) [_, _, _] [[_, _, _]] ?_
  refine zn ?_
  refine zs ?_
  refine zR ?_
  refine zLP ?_
  refine zLI ?_
  refine zLP ?_
  refine zLI ?_
  refine zLI ?_
  refine zLP ?_
  refine zLI ?_
  refine zLI ?_
  refine zLI ?_
  refine zn ?_
  refine zt ?_
  refine ends (l := [.int _ _]) (q := .int _ _) (.inr rfl) rfl ⟨trivial, trivial⟩ rfl rfl ?_
  congr 1
  rw [hM, ← el, hin]; rfl
end Go.AM
end
section
open Go Go.AM Go.Proofs
set_option maxRecDepth 10000
set_option linter.unusedVariables false
set_option linter.unusedSimpArgs false
namespace Go.AM
structure Wit where
  (At : Int) (X : List Int)
def witC (w : Wit) : List AV := [.int .i64 w.At, .ro (w.X.map i8C)]
theorem sumT_shift (b : Int) (T : List Term) (a : List Int) (pad : Int) (hb : I64 b) : w64 (b + sumT 0 T a pad) = sumT b T a pad := by
  have k : ∀ (T : List Term) (c : Int), T.foldl (fun s t => w64 (s + w64 (t.W * vT a pad t))) (w64 (b + c)) = w64 (b + T.foldl (fun s t => w64 (s + w64 (t.W * vT a pad t))) c) := by
    intro T
    induction T with
    | nil => intro c; rfl
    | cons t T ih =>
      intro c
      simp only [List.foldl_cons]
      rw [← ih]
      congr 1
      simp only [w64, IntKind.wrap_i64]; omega
  unfold sumT
  rw [← k T 0, show w64 (b + 0) = b by rw [Int.add_zero]; exact w64_id (by have := I64.iff.1 hb; omega)]
theorem exists_first {P : Nat → Prop} : ∀ n, P n → ∃ N, N ≤ n ∧ P N ∧ ∀ k, k < N → ¬ P k := by
  intro n
  induction n using Nat.strongRecOn with
  | _ n ih =>
    intro h
    by_cases c : ∃ k, k < n ∧ P k
    · obtain ⟨k, hk, hp⟩ := c
      obtain ⟨N, h1, h2, h3⟩ := ih k hk hp
      exact ⟨N, by omega, h2, h3⟩
    · exact ⟨n, Nat.le_refl n, h, fun k hk hp => c ⟨k, hk, hp⟩⟩
/-- what is known where the model, the op, the channel and the span are asked of rightly -/
structure AskH (m : Model) (op ch : Int) (s : Span) (M : Nat) : Prop where
  f0 : findE m op = 0
  hs : -128 ≤ s.Lo ∧ s.Lo ≤ s.Hi ∧ s.Hi ≤ 127
  hch : 1 ≤ ch ∧ ch ≤ (findS m op).Out.C
  eM : (M : Int) = elemsW (findS m op).In
  M1 : M ≤ 16384
  Of : ∀ k : Nat, k < posN m op → Ok Try.prog 52 [.agg (modelC m), .int .i64 op, .int .i64 ch, .int .i64 (k : Int)] (.tup [.ro ((termsF m op ch k).map termC), .int .i64 (biasF m op ch 0), .int .i64 0])
  tl : ∀ k : Nat, (termsF m op ch k).length ≤ 512
  tat : ∀ k : Nat, ∀ t ∈ termsF m op ch k, t.At < (M : Int)
  ends : ∀ k : Nat, k < posN m op → sumT (biasF m op ch 0) (termsF m op ch k) (rowT (upC false) s.Lo s.Hi M (termsF m op ch k)) (findS m op).Op.Pad = (sumS (biasF m op ch 0) ((rowsF m op ch s).getD k default)).Lo ∧
    sumT (biasF m op ch 0) (termsF m op ch k) (rowT (upC true) s.Lo s.Hi M (termsF m op ch k)) (findS m op).Op.Pad = (sumS (biasF m op ch 0) ((rowsF m op ch s).getD k default)).Hi
  lo : ∃ k : Nat, k < posN m op ∧ (sumS (biasF m op ch 0) ((rowsF m op ch s).getD k default)).Lo = (totS m op ch s).Lo
  hi : ∃ k : Nat, k < posN m op ∧ (sumS (biasF m op ch 0) ((rowsF m op ch s).getD k default)).Hi = (totS m op ch s).Hi
  pn : posN m op ≤ 1048576
  pos : (posN m op : Int) = (findS m op).Out.H * (findS m op).Out.W
  bias : I64 (biasF m op ch 0)
  biasE : ∀ k : Nat, k < posN m op → biasF m op ch k = biasF m op ch 0
  bad : ∀ k : Nat, k < posN m op → ofBad (findS m op) ch k = false
theorem ask_h {m : Model} (hm : m.Wf) {op ch : Int} {s : Span} (hz : askE m op ch s = 0) : ∃ M, AskH m op ch s M := by
  obtain ⟨z, hs, f0⟩ := askE_zero hz
  obtain ⟨_, fb, _⟩ := ofE_op z
  obtain ⟨hS, ⟨o1, o2⟩, hop, _⟩ := site_ok f0
  obtain ⟨hch, hat0⟩ := (ofBad_iff hS).1 fb
  obtain ⟨p1, p2, p3⟩ := out_pos hS
  have el := (elems_inW hS.inB).2
  obtain ⟨M, hM⟩ : ∃ M : Nat, (M : Int) = elemsW (findS m op).In := ⟨_, Int.toNat_of_nonneg el.1⟩
  have hM' : (M : Int) = (findS m op).In.H * (findS m op).In.W * (findS m op).In.C := hM
  have hk2 : ∀ k : Nat, k < posN m op → 0 ≤ (k : Int) ∧ (k : Int) < (findS m op).Out.H * (findS m op).Out.W := fun k hk => ⟨by omega, by unfold posN at hk; omega⟩
  have hbk : ∀ k : Nat, k < posN m op → ofBad (findS m op) ch k = false := fun k hk => (ofBad_iff hS).2 ⟨hch, hk2 k hk⟩
  have heq : ∀ k : Nat, k < posN m op → biasF m op ch k = biasF m op ch 0 := fun k hk => by
    have h1 := hbk k hk
    have hb0 : ofBad (findS m op) ch 0 = false := fb
    simp [biasF, f0, h1, hb0]
  have hOf : ∀ k : Nat, k < posN m op → Ok Try.prog 52 [.agg (modelC m), .int .i64 op, .int .i64 ch, .int .i64 (k : Int)] (.tup [.ro ((termsF m op ch k).map termC), .int .i64 (biasF m op ch 0), .int .i64 0]) := fun k hk => by
    have h := terms_Of m op ch k
    rw [heq k hk, show ofE m op ch k = 0 by unfold ofE; rw [if_pos f0, if_neg (by rw [hbk k hk]; simp)]] at h
    exact h
  have hve := fun (k : Nat) (hk : k < posN m op) => val_ends hS hch (hk2 k hk) hs hM' (by have h := termsF_W hm op ch k; rw [termsF_eq f0 (hbk k hk)] at h; exact h)
  have hrow : ∀ k : Nat, k < posN m op → (rowsF m op ch s).getD k default = (termsF m op ch k).map (endF (findS m op).Op.Pad s) := fun k hk => by simp [rowsF, rowF, List.getD_eq_getElem?_getD, hk]
  have hrl : (rowsF m op ch s).length = posN m op := by simp [rowsF]
  have hp1 := posN_pos f0
  have hnb := rowsF_len hz
  rw [hrl] at hnb
  obtain ⟨⟨k1, hk1, e1⟩, k2, hk2', e2⟩ := tot_ends (biasF m op ch 0) (l := rowsF m op ch s) (fun h => by rw [h] at hrl; simp at hrl; omega)
  rw [hrl] at hk1 hk2'
  have hts : totS m op ch s = hullS (totH (biasF m op ch 0) (rowsF m op ch s)) := by rw [totS, if_pos hz]
  have u0 : upC false = fun w => !decide (w > 0) := by funext w; unfold upC; cases decide (w > 0) <;> rfl
  have u1 : upC true = fun w => decide (w > 0) := by funext w; unfold upC; cases decide (w > 0) <;> rfl
  refine ⟨M, f0, hs, hch, hM, by omega, hOf, fun k => termsF_len _ _ _ _, fun k t ht => ?_, fun k hk => ⟨?_, ?_⟩, ⟨k1, hk1, by rw [hts]; simp [hullS, e1]⟩, ⟨k2, hk2', by rw [hts]; simp [hullS, e2]⟩, hnb, by unfold posN; omega, ?_, heq, hbk⟩
  · rcases terms_in f0 ch k t ht with h | h
    · omega
    · rw [hM']; exact h
  · rw [u0, hrow k hk]
    refine sumT_lo _ _ _ ?_
    rw [termsF_eq f0 (hbk k hk)]; exact (hve k hk).1
  · rw [u1, hrow k hk]
    refine sumT_hi _ _ _ ?_
    rw [termsF_eq f0 (hbk k hk)]; exact (hve k hk).2
  · have hB := bb hm op ch; unfold bS at hB; dsimp only at hB
    exact I64.iff.2 (by omega)
end Go.AM
end
section
open Go Go.AM Go.Proofs
set_option maxRecDepth 10000
set_option linter.unusedVariables false
set_option linter.unusedSimpArgs false
namespace Go.AM
def endQ (m : Model) (op ch : Int) (s : Span) (up : Bool) : Int := bif up then (totS m op ch s).Hi else (totS m op ch s).Lo
/-- a witness of an end -/
def WitOk (m : Model) (op ch : Int) (s : Span) (up : Bool) (w : Wit) : Prop :=
  (askE m op ch s ≠ 0 → w = ⟨0, []⟩) ∧ (askE m op ch s = 0 → ∃ M k : Nat, AskH m op ch s M ∧ k < posN m op ∧ w = ⟨(k : Int), rowT (upC up) s.Lo s.Hi M (termsF m op ch k)⟩ ∧ sumT (biasF m op ch 0) (termsF m op ch k) w.X (findS m op).Op.Pad = endQ m op ch s up)
theorem witness_end (m : Model) (hm : m.Wf) (op ch : Int) (s : Span) (up : Bool) : ∃ w, WitOk m op ch s up w ∧ Ok Try.prog 39 [.agg (modelC m), .int .i64 op, .int .i64 ch, .agg (spanC s), .bool up] (.tup [.agg (witC w), .int .i64 (askE m op ch s)]) := by
  have hTo := bound_Total m hm op ch s
  by_cases hz : askE m op ch s = 0
  · obtain ⟨M, H⟩ := ask_h hm hz
    have hM1 := H.M1
    have hpn := H.pn
    obtain ⟨hS, ⟨o1, o2⟩, hop, he, _⟩ := site_ok H.f0
    have hn := (whole_ok he).1
    have ow : IntKind.i64.wrap (op - 1) = op - 1 := w64_id (by omega)
    have i0 : 0 ≤ IntKind.i64.wrap (op - 1) := by rw [ow]; omega
    have i1 : IntKind.i64.wrap (op - 1) < (m.Ops.length : Int) := by rw [ow]; omega
    have hpad : (m.Ops.getD (IntKind.i64.wrap (op - 1)).toNat default).Pad = (findS m op).Op.Pad := by rw [ow, hop]
    obtain ⟨X, hX⟩ : ∃ X : Nat → List Int, X = fun k : Nat => rowT (upC up) s.Lo s.Hi M (termsF m op ch k) := ⟨_, rfl⟩
    have hXl : ∀ k : Nat, (X k).length = M := fun k => by rw [hX]; exact rowT_len _ _ _ _ _
    have hex : ∃ n, n < posN m op ∧ sumT (biasF m op ch 0) (termsF m op ch n) (X n) (findS m op).Op.Pad = endQ m op ch s up := by
      cases up with
      | false => obtain ⟨k, h1, h2⟩ := H.lo; exact ⟨k, h1, by rw [hX]; exact (H.ends k h1).1.trans h2⟩
      | true => obtain ⟨k, h1, h2⟩ := H.hi; exact ⟨k, h1, by rw [hX]; exact (H.ends k h1).2.trans h2⟩
    obtain ⟨n, hn1, hn2⟩ := hex
    obtain ⟨N, hN1, hN2, hN3⟩ := exists_first (P := fun k => sumT (biasF m op ch 0) (termsF m op ch k) (X k) (findS m op).Op.Pad = endQ m op ch s up) n hn2
    refine ⟨⟨(N : Int), X N⟩, ⟨fun h => absurd hz h, fun _ => ⟨M, N, H, by omega, by rw [hX], hN2⟩⟩, ?_⟩
    have hsz := witness_size H.f0 H.eM
    have hnum : ∀ k : Nat, Ok Try.prog 53 [.ro ((termsF m op ch k).map termC), .agg (spanC s), .int .i64 (M : Int), .bool up] (.ro ((X k).map i8C)) := fun k => by
      rw [hX]; exact witness_numbers _ s M up H.hs H.M1 (H.tl k) (H.tat k)
    have hsum : ∀ k : Nat, Ok Try.prog 54 [.ro ((termsF m op ch k).map termC), .ro ((X k).map i8C), .int .i64 (findS m op).Op.Pad] (.int .i64 (sumT 0 (termsF m op ch k) (X k) (findS m op).Op.Pad)) := fun k =>
      witness_sum _ _ _ (H.tl k) (by rw [hXl]; exact H.tat k)
    have hsh := fun k : Nat => sumT_shift (biasF m op ch 0) (termsF m op ch k) (X k) (findS m op).Op.Pad H.bias
    rw [hz] at hTo
    --@@1
    skip
    refine fn_ok Tb_ok (fn := Try.f39) Try.func39 rfl rfl (e := [(0, _), (1, _), (2, _), (3, _), (4, _)]) rfl (by decide) rfl ?_
    refine zs ?_
    refine zR ?_
    refine zbx [.int _ _, .int _ _, .int _ _, .int _ _, .int _ _, _, .int _ _] 7 ?_
    refine zbx [.int _ _, .int _ _] 2 ?_
    refine zal [.int .i64 0, .nils] 2 ?_
    refine zLI ?_
    refine zn ?_
    refine zs ?_
    refine zR ?_
    refine zLG [.int _ _, .int _ _, .int _ _, .int _ _, .int _ _, _, .int _ _] ?_
    refine zLI ?_
    refine zLI ?_
    refine zLG [.int _ _, .int _ _] ?_
    refine zLc (hTo) ?_
    refine zLT [_, _] ?_
    refine zLG [.int _ _, .int _ _] ?_
    refine zLI ?_
    refine zal [.int .i64 0, .int .i64 0] 2 ?_
    refine zst (.agg [.int _ _, .int _ _]) [_, _] [[_, _]] ?_
    refine zLI ?_
    refine zn ?_
    refine zs ?_
    refine zs ?_
    refine zR ?_
    refine zLI ?_
    refine zLB ?_
    refine zn ?_
    refine W_cond_f (b := _) rfl (by rfl) ?_
    refine zk ?_
    refine zs ?_
    refine zR ?_
    refine zLP ?_
    refine zLI ?_
    refine zLI ?_
    refine zn ?_
    refine zs ?_
    refine zs ?_
    refine zR ?_
    refine zLB ?_
    refine zn ?_
    refine W_iftB (b := _) rfl [(1, .int _ _), (2, .int _ _), (4, .bool _), (5, .ptr 0 0 0), (8, .ptr 1 0 0), (10, .ptr 2 0 0)] (fun (z : Bool) => [(14, .int .i64 (bif z then (totS m op ch s).Hi else (totS m op ch s).Lo))]) [(0, some ⟨_, _, _, _⟩), (1, some ⟨_, _, _, _⟩), (2, some ⟨_, _, _, _⟩)] (fun (z : Bool) => []) [] (fun (z : Bool) => []) 3 ⟨rfl, rfl, rfl, rfl, rfl, rfl, trivial⟩ ⟨.inr rfl, .inr rfl, .inr rfl, trivial⟩ trivial (fun h36 => ?_) (fun h36 => ?_) ?_
    · refine zR ?_
      refine zLP ?_
      refine zLI ?_
      refine zLI ?_
      refine zn ?_
      exact ⟨trivial, (le_fit (sub_cat ⟨rfl, trivial⟩ ⟨rfl, rfl, rfl, rfl, rfl, rfl, trivial⟩) (subO_cat trivial ⟨.inr rfl, .inr rfl, .inr rfl, trivial⟩) (subK_cat trivial trivial) rfl rfl rfl (by rfl) rfl)⟩
    · refine zk ?_
      exact ⟨trivial, (le_fit (sub_cat ⟨rfl, trivial⟩ ⟨rfl, rfl, rfl, rfl, rfl, rfl, trivial⟩) (subO_cat trivial ⟨.inr rfl, .inr rfl, .inr rfl, trivial⟩) (subK_cat trivial trivial) rfl rfl rfl (by rfl) rfl)⟩
    refine W.of_le (s' := ⟨[(14, .int .i64 (bif _ then (totS m op ch s).Hi else (totS m op ch s).Lo)), (1, .int _ _), (2, .int _ _), (4, .bool _), (5, .ptr 0 0 0), (8, .ptr 1 0 0), (10, .ptr 2 0 0)], [(0, some ⟨_, _, _, _⟩), (1, some ⟨_, _, _, _⟩), (2, some ⟨_, _, _, _⟩)], [], 3⟩) (le_fit ⟨rfl, rfl, rfl, rfl, rfl, rfl, rfl, trivial⟩ ⟨.inr rfl, .inr rfl, .inr rfl, trivial⟩ trivial rfl rfl rfl (by rfl) rfl) ?_
    refine zs ?_
    refine W_draw 12 Tb_mixed rfl (by decide) (by kernel_rfl) (by kernel_rfl) ?_
    refine zEG [.int _ _, .int _ _, .int _ _, .int _ _, .int _ _, _, .int _ _] ?_
    refine zEI ?_
    refine zEc (hsz) ?_
    refine zEP ?_
    refine zEO ?_
    refine zEI ?_
    refine zEI ?_
    (refine E_v Tb_ok (v := _) (ave_index_ro rfl rfl rfl (fun _ => rfl) rfl (by first | exact i0 | exact i1 | (rw [List.length_map]; exact i1)) (by first | exact i0 | exact i1 | (rw [List.length_map]; exact i1)) trivial) rfl ?_)
    refine zEQ ?_
    refine zEI ?_
    refine zEI ?_
    simp only [hpad]
    refine zEI ?_
    refine LexE_nil ?_
    refine zn ?_
    refine zs ?_
    refine zR ?_
    refine zLI ?_
    refine zn ?_
    refine W_block ?_
    refine W_inv (ι := {k : Nat // k ≤ N}) (fun k => ⟨[(1, .int .i64 op), (2, .int .i64 ch), (4, .bool up), (5, .ptr 0 0 0), (8, .ptr 1 0 0), (10, .ptr 2 0 0), (14, .int .i64 (endQ m op ch s up)), (15, .int .i64 (M : Int)), (16, .int .i64 (findS m op).Op.Pad), (17, .int .i64 (k.1 : Int))], [(0, some ⟨26, 7, 0, [modelC m]⟩), (1, some ⟨28, 2, 0, [spanC s]⟩), (2, some ⟨33, 2, 0, [[.int .i64 0, .nils]]⟩)], [], 3⟩) (fun k => N - k.1) ⟨0, Nat.zero_le _⟩ (le_fit ⟨rfl, rfl, rfl, rfl, rfl, rfl, rfl, rfl, rfl, rfl, trivial⟩ ⟨.inr rfl, .inr rfl, .inr rfl, trivial⟩ trivial rfl rfl rfl rfl rfl) ?_
    rintro ⟨k, hk⟩
    dsimp only
    refine zs ?_
    refine W_block ?_
    refine zs ?_
    refine zR ?_
    refine zLG [.int _ _, .int _ _, .int _ _, .int _ _, .int _ _, _, .int _ _] ?_
    refine zLI ?_
    refine zLI ?_
    refine zLI ?_
    refine zLc (H.Of k (by omega)) ?_
    refine zLT [_, _, _] ?_
    refine zLO ?_
    refine zLI ?_
    refine zLI ?_
    refine zLO ?_
    refine zLI ?_
    refine zLI ?_
    refine zn ?_
    refine zs ?_
    refine zs ?_
    refine zR ?_
    refine zLI ?_
    refine zLB ?_
    refine zn ?_
    refine W_cond_f (b := _) rfl (by rfl) ?_
    refine zk ?_
    refine zs ?_
    refine zR ?_
    refine zLO ?_
    refine zLG [.int _ _, .int _ _] ?_
    refine zLI ?_
    refine zLB ?_
    refine zLc (hnum k) ?_
    refine zLO ?_
    refine zn ?_
    refine zs ?_
    refine zR ?_
    refine zLI ?_
    refine zLO ?_
    refine zLO ?_
    refine zLI ?_
    refine zLc (hsum k) ?_
    refine zLI ?_
    refine zLI ?_
    refine zLB ?_
    refine zn ?_
    refine W_cond (b := _) rfl (fun h76 => ?_) (fun h76 => ?_)
    · have hkN : k = N := by
        have h' : (IntKind.i64.wrap (biasF m op ch 0 + sumT 0 (termsF m op ch k) (X k) (findS m op).Op.Pad) == endQ m op ch s up) = true := h76
        by_cases c : k < N
        · exact absurd ((hsh k).symm.trans (eq_of_beq h')) (hN3 k c)
        · omega
      refine zs ?_
      refine zR ?_
      refine zLI ?_
      refine zLO ?_
      refine zLG [.int _ _, _] ?_
      refine zst (.agg [.int _ _, _]) [_, _] [[_, _]] ?_
      refine zLI ?_
      refine zn ?_
      refine zt ?_
      refine ends (l := [.agg [.int _ _, _], .int _ _]) (q := .tup [.agg [.int _ _, _], .int _ _]) (.inr rfl) rfl ⟨rfl, trivial, trivial⟩ rfl rfl ?_
      rw [hkN, hz]; rfl
    · have hkt : k < N := by
        have h' : (IntKind.i64.wrap (biasF m op ch 0 + sumT 0 (termsF m op ch k) (X k) (findS m op).Op.Pad) == endQ m op ch s up) = false := h76
        by_cases c : k < N
        · exact c
        · have e : k = N := by omega
          rw [show IntKind.i64.wrap (biasF m op ch 0 + sumT 0 (termsF m op ch k) (X k) (findS m op).Op.Pad) = endQ m op ch s up by rw [e]; exact (hsh N).trans hN2] at h'
          simp at h'
      refine zk ?_
      refine zR ?_
      refine zLI ?_
      refine zLI ?_
      refine zLI ?_
      refine zn ?_
      refine round_end (Q := fun _ _ => True) ⟨k + 1, hkt⟩ (by dsimp only; omega) (le_fit ⟨rfl, rfl, rfl, rfl, rfl, rfl, rfl, rfl, rfl, congrArg _ (w_succ hkt (by omega)), trivial⟩ ⟨.inr rfl, .inr rfl, .inr rfl, trivial⟩ trivial rfl rfl rfl rfl rfl)
  · refine ⟨⟨0, []⟩, ⟨fun _ => rfl, fun h => absurd h hz⟩, ?_⟩
    have hc31 : (askE m op ch s != 0) = true := by simp [hz]
    --@@2
    skip
    refine fn_ok Tb_ok (fn := Try.f39) Try.func39 rfl rfl (e := [(0, _), (1, _), (2, _), (3, _), (4, _)]) rfl (by decide) rfl ?_
    refine zs ?_
    refine zR ?_
    refine zbx [.int _ _, .int _ _, .int _ _, .int _ _, .int _ _, _, .int _ _] 7 ?_
    refine zbx [.int _ _, .int _ _] 2 ?_
    refine zal [.int .i64 0, .nils] 2 ?_
    refine zLI ?_
    refine zn ?_
    refine zs ?_
    refine zR ?_
    refine zLG [.int _ _, .int _ _, .int _ _, .int _ _, .int _ _, _, .int _ _] ?_
    refine zLI ?_
    refine zLI ?_
    refine zLG [.int _ _, .int _ _] ?_
    refine zLc (hTo) ?_
    refine zLT [_, _] ?_
    refine zLG [.int _ _, .int _ _] ?_
    refine zLI ?_
    refine zal [.int .i64 0, .int .i64 0] 2 ?_
    refine zst (.agg [.int _ _, .int _ _]) [_, _] [[_, _]] ?_
    refine zLI ?_
    refine zn ?_
    refine zs ?_
    refine zs ?_
    refine zR ?_
    refine zLI ?_
    refine zLB ?_
    refine zn ?_
    refine W_cond_t (b := _) rfl (by exact hc31) ?_
    refine zs ?_
    refine zR ?_
    refine zLG [.int _ _, _] ?_
    refine zLI ?_
    refine zst (.agg [.int _ _, _]) [_, _] [[_, _]] ?_
    refine zLI ?_
    refine zn ?_
    refine zt ?_
    refine ends (l := [.agg [.int _ _, _], .int _ _]) (q := .tup [.agg [.int _ _, _], .int _ _]) (.inr rfl) rfl ⟨rfl, trivial, trivial⟩ rfl rfl ?_
    rfl
theorem witness_Low (m : Model) (hm : m.Wf) (op ch : Int) (s : Span) : ∃ w, WitOk m op ch s false w ∧ Ok Try.prog 14 [.agg (modelC m), .int .i64 op, .int .i64 ch, .agg (spanC s)] (.tup [.agg (witC w), .int .i64 (askE m op ch s)]) := by
  obtain ⟨w, hw, hE⟩ := witness_end m hm op ch s false
  refine ⟨w, hw, ?_⟩
  --@@3
  skip
  refine fn_ok Tb_ok (fn := Try.f14) Try.func14 rfl rfl (e := [(0, _), (1, _), (2, _), (3, _)]) rfl (by decide) rfl ?_
  refine zs ?_
  refine zR ?_
  refine zbx [.int _ _, .int _ _, .int _ _, .int _ _, .int _ _, _, .int _ _] 7 ?_
  refine zbx [.int _ _, .int _ _] 2 ?_
  refine zal [.int .i64 0, .nils] 2 ?_
  refine zLI ?_
  refine zn ?_
  refine zs ?_
  refine zR ?_
  refine zLG [.int _ _, .int _ _, .int _ _, .int _ _, .int _ _, _, .int _ _] ?_
  refine zLI ?_
  refine zLI ?_
  refine zLG [.int _ _, .int _ _] ?_
  refine zLc (hE) ?_
  refine zLG [.int _ _, _] ?_
  refine zLI ?_
  refine zst (.agg [.int _ _, _]) [_, _] [[_, _]] ?_
  refine zLI ?_
  refine zn ?_
  refine zt ?_
  refine ends (l := [.agg [.int _ _, _], .int _ _]) (q := .tup [.agg [.int _ _, _], .int _ _]) (.inr rfl) rfl ⟨rfl, trivial, trivial⟩ rfl rfl ?_
  rfl
theorem witness_High (m : Model) (hm : m.Wf) (op ch : Int) (s : Span) : ∃ w, WitOk m op ch s true w ∧ Ok Try.prog 15 [.agg (modelC m), .int .i64 op, .int .i64 ch, .agg (spanC s)] (.tup [.agg (witC w), .int .i64 (askE m op ch s)]) := by
  obtain ⟨w, hw, hE⟩ := witness_end m hm op ch s true
  refine ⟨w, hw, ?_⟩
  --@@4
  skip
  refine fn_ok Tb_ok (fn := Try.f15) Try.func15 rfl rfl (e := [(0, _), (1, _), (2, _), (3, _)]) rfl (by decide) rfl ?_
  refine zs ?_
  refine zR ?_
  refine zbx [.int _ _, .int _ _, .int _ _, .int _ _, .int _ _, _, .int _ _] 7 ?_
  refine zbx [.int _ _, .int _ _] 2 ?_
  refine zal [.int .i64 0, .nils] 2 ?_
  refine zLI ?_
  refine zn ?_
  refine zs ?_
  refine zR ?_
  refine zLG [.int _ _, .int _ _, .int _ _, .int _ _, .int _ _, _, .int _ _] ?_
  refine zLI ?_
  refine zLI ?_
  refine zLG [.int _ _, .int _ _] ?_
  refine zLc (hE) ?_
  refine zLG [.int _ _, _] ?_
  refine zLI ?_
  refine zst (.agg [.int _ _, _]) [_, _] [[_, _]] ?_
  refine zLI ?_
  refine zn ?_
  refine zt ?_
  refine ends (l := [.agg [.int _ _, _], .int _ _]) (q := .tup [.agg [.int _ _, _], .int _ _]) (.inr rfl) rfl ⟨rfl, trivial, trivial⟩ rfl rfl ?_
  rfl
end Go.AM
end
