/- The law BoundParts answers true, whatever its arguments: part 5 of 5 of its proof. -/
import Derived.Test.YtlomapfdjdhmfaaRows
import Derived.WalkKit
import Derived.Test.YtlomapfdjdhmfaaZBoundParts3
section
open Go Go.AM Go.Proofs
set_option maxRecDepth 10000
set_option linter.unusedVariables false
set_option linter.unusedSimpArgs false
namespace Go.AM
/-- the hull and the block's sum, k terms told -/
def partG (D : Nat) (h : Hull) (r : List Span) : Nat → Hull × Span
  | 0 => (h, ⟨0, 0⟩)
  | k + 1 => (takeH (takeH (partG D h r k).1 (plusS (if k % D = 0 then ⟨0, 0⟩ else (partG D h r k).2) (r.getD k default))) (r.getD k default), plusS (if k % D = 0 then ⟨0, 0⟩ else (partG D h r k).2) (r.getD k default))
def partH (D : Nat) (l : List (List Span)) : Hull := l.foldl (fun h r => (partG D h r r.length).1) ⟨0, 0, false⟩
def partE (m : Model) (op ch : Int) (s : Span) (d : Int) : Int := if askE m op ch s = 0 then if d < 1 ∨ d > (findS m op).Len then 151 else 0 else askE m op ch s
def partS (m : Model) (op ch : Int) (s : Span) (d : Int) : Span := if partE m op ch s d = 0 then hullS (partH d.toNat (rowsF m op ch s)) else ⟨0, 0⟩
/-- a block -/
theorem part_block (D : Nat) (h : Hull) (r : List Span) {p n : Nat} (hD : 0 < D) (hp : p % D = 0) (hn : n ≤ D) (hl : p + n ≤ r.length) : ∃ (G : Nat → Hull) (Q : Nat → Span), G 0 = (partG D h r p).1 ∧ Q 0 = ⟨0, 0⟩ ∧
    (∀ j, j < n → G (j + 1) = takeH (takeH (G j) (plusS (Q j) (((r.drop p).take n).getD j default))) (((r.drop p).take n).getD j default) ∧ Q (j + 1) = plusS (Q j) (((r.drop p).take n).getD j default)) ∧ G n = (partG D h r (p + n)).1 := by
  refine ⟨fun j => (partG D h r (p + j)).1, fun j => if j = 0 then ⟨0, 0⟩ else (partG D h r (p + j)).2, rfl, rfl, fun j hj => ?_, rfl⟩
  have hx : ((r.drop p).take n).getD j default = r.getD (p + j) default := by
    simp [List.getD_eq_getElem?_getD, List.getElem?_take, hj]
  have hm : (p + j) % D = 0 ↔ j = 0 := by
    rw [Nat.add_mod, hp, Nat.zero_add, Nat.mod_mod, Nat.mod_eq_of_lt (by omega)]
  have e : (if (p + j) % D = 0 then (⟨0, 0⟩ : Span) else (partG D h r (p + j)).2) = if j = 0 then ⟨0, 0⟩ else (partG D h r (p + j)).2 := by
    by_cases c : j = 0
    · rw [if_pos (hm.2 c), if_pos c]
    · rw [if_neg (fun q => c (hm.1 q)), if_neg c]
  rw [hx]
  refine ⟨?_, ?_⟩
  · dsimp only; rw [← e]; rfl
  · dsimp only; rw [if_neg (Nat.succ_ne_zero j), ← e]; rfl
theorem bound_Part (m : Model) (hm : m.Wf) (op ch : Int) (s : Span) (d : Int) : Ok Try.prog 17 [.agg (modelC m), .int .i64 op, .int .i64 ch, .agg (spanC s), .int .i64 d] (.tup [.agg (spanC (partS m op ch s d)), .int .i64 (partE m op ch s d)]) := by
  cases hc31 : askE m op ch s != 0 with
  | true =>
    have hz : ¬ askE m op ch s = 0 := by simpa using hc31
    --@@1
    skip
    refine fn_ok Tb_ok (fn := Try.f17) Try.func17 rfl rfl (e := [(0, _), (1, _), (2, _), (3, _), (4, _)]) rfl (by decide) rfl ?_
    refine zs ?_
    refine zR ?_
    refine zbx [.int _ _, .int _ _, .int _ _, .int _ _, .int _ _, _, .int _ _] 7 ?_
    refine zbx [.int _ _, .int _ _] 2 ?_
    refine L_box1 Tb_ok (v := .int _ _) rfl rfl rfl trivial ?_
    refine zal [.int .i64 0, .int .i64 0] 2 ?_
    refine zLI ?_
    refine zn ?_
    refine zs ?_
    refine zs ?_
    refine zR ?_
    refine zLG [.int _ _, .int _ _, .int _ _, .int _ _, .int _ _, _, .int _ _] ?_
    refine zLI ?_
    refine zLI ?_
    refine zLG [.int _ _, .int _ _] ?_
    refine zLc (bound_ask m op ch s) ?_
    refine zLT [_, _] ?_
    refine zLI ?_
    refine zLI ?_
    refine zLI ?_
    refine zLI ?_
    refine zn ?_
    refine zs ?_
    refine zR ?_
    refine zLI ?_
    refine zLB ?_
    refine zn ?_
    refine W_cond_t (b := _) rfl (by exact hc31) ?_
    refine zs ?_
    refine zR ?_
    refine zLG [.int _ _, .int _ _] ?_
    refine zLI ?_
    refine zst (.agg [.int _ _, .int _ _]) [_, _] [[_, _]] ?_
    refine zLI ?_
    refine zn ?_
    refine zt ?_
    refine ends (l := [.agg [.int _ _, .int _ _], .int _ _]) (q := .tup [.agg [.int _ _, .int _ _], .int _ _]) (.inr rfl) rfl ⟨rfl, trivial, trivial⟩ rfl rfl ?_
    have he : partE m op ch s d = askE m op ch s := by rw [partE, if_neg hz]
    rw [partS, if_neg (by rw [he]; exact hz), he]; rfl
  | false =>
  have hz : askE m op ch s = 0 := by simpa using hc31
  obtain ⟨z, hs, f0⟩ := askE_zero hz
  have hLn := terms_Length m op
  cases hc46 : (bif decide (d < 1) then true else decide (d > (findS m op).Len)) with
  | true =>
    have he : partE m op ch s d = 151 := by
      rw [partE, if_pos hz, if_pos]
      by_cases c : d < 1
      · exact .inl c
      · right; simpa [c] using hc46
    --@@2
    skip
    refine fn_ok Tb_ok (fn := Try.f17) Try.func17 rfl rfl (e := [(0, _), (1, _), (2, _), (3, _), (4, _)]) rfl (by decide) rfl ?_
    refine zs ?_
    refine zR ?_
    refine zbx [.int _ _, .int _ _, .int _ _, .int _ _, .int _ _, _, .int _ _] 7 ?_
    refine zbx [.int _ _, .int _ _] 2 ?_
    refine L_box1 Tb_ok (v := .int _ _) rfl rfl rfl trivial ?_
    refine zal [.int .i64 0, .int .i64 0] 2 ?_
    refine zLI ?_
    refine zn ?_
    refine zs ?_
    refine zs ?_
    refine zR ?_
    refine zLG [.int _ _, .int _ _, .int _ _, .int _ _, .int _ _, _, .int _ _] ?_
    refine zLI ?_
    refine zLI ?_
    refine zLG [.int _ _, .int _ _] ?_
    refine zLc (bound_ask m op ch s) ?_
    refine zLT [_, _] ?_
    refine zLI ?_
    refine zLI ?_
    refine zLI ?_
    refine zLI ?_
    refine zn ?_
    refine zs ?_
    refine zR ?_
    refine zLI ?_
    refine zLB ?_
    refine zn ?_
    refine W_cond_f (b := _) rfl (by exact hc31) ?_
    refine zk ?_
    refine zs ?_
    refine zs ?_
    refine zR ?_
    refine zLG [.int _ _, .int _ _, .int _ _, .int _ _, .int _ _, _, .int _ _] ?_
    refine zLI ?_
    refine zLc (hLn) ?_
    refine zLT [_, _] ?_
    refine zLI ?_
    refine zLI ?_
    refine zLI ?_
    refine zLI ?_
    refine zn ?_
    refine zs ?_
    refine zR ?_
    refine zLI ?_
    refine zLB ?_
    refine zLB ?_
    refine zgLI ?_
    refine zgLI ?_
    refine zgLB ?_
    refine zpLB ?_
    refine zn ?_
    refine W_cond_t (b := _) rfl (by exact hc46) ?_
    refine zs ?_
    refine zR ?_
    refine zLG [.int _ _, .int _ _] ?_
    refine zst (.agg [.int _ _, .int _ _]) [_, _] [[_, _]] ?_
    refine zLI ?_
    refine zn ?_
    refine zt ?_
    refine ends (l := [.agg [.int _ _, .int _ _], .int _ _]) (q := .tup [.agg [.int _ _, .int _ _], .int _ _]) (.inr rfl) rfl ⟨rfl, trivial, trivial⟩ rfl rfl ?_
    rw [partS, if_neg (by rw [he]; decide), he]; rfl
  | false =>
    have hdd : 1 ≤ d ∧ d ≤ (findS m op).Len := by
      by_cases c : d < 1
      · simp [c] at hc46
      · simp [c] at hc46; omega
    have he : partE m op ch s d = 0 := by rw [partE, if_pos hz, if_neg (by omega)]
    have hLb := (site_ok f0).1.len
    have hA := bound_ask m op ch s
    have hR := bound_rows1 m hm op ch s z hs
    have hlen := fun k hk => @rowsF_len512 m op ch s k hk
    have hX := fun k x hx => @rowsX_inv m op ch s k x hx
    have hXl := rowsX_len m op ch s
    generalize hL : rowsF m op ch s = L at *
    obtain ⟨D, hD⟩ : ∃ D, D = d.toNat := ⟨_, rfl⟩
    have hD0 : 0 < D := by omega
    have hDd : d = (D : Int) := by omega
    --@@3
    skip
    refine fn_ok Tb_ok (fn := Try.f17) Try.func17 rfl rfl (e := [(0, _), (1, _), (2, _), (3, _), (4, _)]) rfl (by decide) rfl ?_
    refine zs ?_
    refine zR ?_
    refine zbx [.int _ _, .int _ _, .int _ _, .int _ _, .int _ _, _, .int _ _] 7 ?_
    refine zbx [.int _ _, .int _ _] 2 ?_
    refine L_box1 Tb_ok (v := .int _ _) rfl rfl rfl trivial ?_
    refine zal [.int .i64 0, .int .i64 0] 2 ?_
    refine zLI ?_
    refine zn ?_
    refine zs ?_
    refine zs ?_
    refine zR ?_
    refine zLG [.int _ _, .int _ _, .int _ _, .int _ _, .int _ _, _, .int _ _] ?_
    refine zLI ?_
    refine zLI ?_
    refine zLG [.int _ _, .int _ _] ?_
    refine zLc (hA) ?_
    refine zLT [_, _] ?_
    refine zLI ?_
    refine zLI ?_
    refine zLI ?_
    refine zLI ?_
    refine zn ?_
    refine zs ?_
    refine zR ?_
    refine zLI ?_
    refine zLB ?_
    refine zn ?_
    refine W_cond_f (b := _) rfl (by exact hc31) ?_
    refine zk ?_
    refine zs ?_
    refine zs ?_
    refine zR ?_
    refine zLG [.int _ _, .int _ _, .int _ _, .int _ _, .int _ _, _, .int _ _] ?_
    refine zLI ?_
    refine zLc (hLn) ?_
    refine zLT [_, _] ?_
    refine zLI ?_
    refine zLI ?_
    refine zLI ?_
    refine zLI ?_
    refine zn ?_
    refine zs ?_
    refine zR ?_
    refine zLI ?_
    refine zLB ?_
    refine zLB ?_
    refine zgLI ?_
    refine zgLI ?_
    refine zgLB ?_
    refine zpLB ?_
    refine zn ?_
    refine W_cond_f (b := _) rfl (by exact hc46) ?_
    refine zk ?_
    refine zs ?_
    refine zR ?_
    refine zal [.int .i64 0, .int .i64 0, .bool false] 3 ?_
    refine zn ?_
    refine zs ?_
    refine zs ?_
    refine zR ?_
    refine zLG [.int _ _, .int _ _, .int _ _, .int _ _, .int _ _, _, .int _ _] ?_
    refine zLI ?_
    refine zLI ?_
    refine zLG [.int _ _, .int _ _] ?_
    refine zLc (bound_rows m op ch s f0) ?_
    refine zn ?_
    refine W_block ?_
    refine W_range (xs := rowsX m op ch s) rfl trivial rfl rfl hR rfl (fun x hx => by obtain ⟨k, hk⟩ := List.getElem?_of_mem hx; rw [(hX k x hk).2]; rfl)
      (fun k => ([(0, some ⟨26, 7, 0, [modelC m]⟩), (1, some ⟨28, 2, 0, [spanC s]⟩), (2, some ⟨3, 1, 0, [[.int .i64 d]]⟩), (3, some ⟨28, 2, 0, [[.int .i64 0, .int .i64 0]]⟩), (4, some ⟨71, 3, 0, [hullC (partH D (L.take k))]⟩)], [], 5))
      (le_fit trivial ⟨.inr rfl, .inr rfl, .inr rfl, .inr rfl, .inr rfl, trivial⟩ trivial rfl rfl rfl rfl rfl) ?_ ?_
    · intro k x hx
      obtain ⟨hk, rfl⟩ := hX k x hx
      have hr := hlen k hk
      have hnx : partH D (L.take (k + 1)) = (partG D (partH D (L.take k)) (L.getD k default) (L.getD k default).length).1 := take_fold _ _ hk
      generalize L.getD k default = r at *
      generalize partH D (L.take k) = H at *
      refine zR ?_
      refine zLO ?_
      refine zn ?_
      refine W_block ?_
      refine W_block ?_
      refine W_inv (ι := {p : Nat // p ≤ r.length ∧ (p % D = 0 ∨ p = r.length)}) (fun p => ⟨[(9, .ptr 2 0 0), (16, .ptr 4 0 0), (17, .ro ((r.drop p.1).map spanC))], [(0, some ⟨26, 7, 0, [modelC m]⟩), (1, some ⟨28, 2, 0, [spanC s]⟩), (2, some ⟨3, 1, 0, [[.int .i64 d]]⟩), (3, some ⟨28, 2, 0, [[.int .i64 0, .int .i64 0]]⟩), (4, some ⟨71, 3, 0, [hullC (partG D H r p.1).1]⟩)], [], 5⟩) (fun p => r.length - p.1) ⟨0, Nat.zero_le _, .inl (Nat.zero_mod _)⟩ (le_fit ⟨rfl, rfl, rfl, trivial⟩ ⟨.inr rfl, .inr rfl, .inr rfl, .inr rfl, .inr rfl, trivial⟩ trivial rfl rfl rfl rfl rfl) ?_
      rintro ⟨p, hp, hpm⟩
      dsimp only
      refine zs ?_
      refine zs ?_
      refine zR ?_
      refine zLO ?_
      refine zLI ?_
      refine zLB ?_
      refine zn ?_
      refine W_cond (b := _) rfl (fun h56 => ?_) (fun h56 => ?_)
      · have hlt : p < r.length := by have := of_decide_eq_true h56; rw [List.length_map, List.length_drop] at this; omega
        have hpm0 : p % D = 0 := by rcases hpm with h | h; exact h; omega
        obtain ⟨n, hn⟩ : ∃ n, n = min D (r.length - p) := ⟨_, rfl⟩
        have hn1 : 0 < n ∧ n ≤ D ∧ p + n ≤ r.length := by omega
        obtain ⟨G, Q, hG0, hQ0, hGs, hGn⟩ := part_block D H r hD0 hpm0 hn1.2.1 hn1.2.2
        have hmin : (if ((List.map spanC (List.drop p r)).length : Int) < d then ((List.map spanC (List.drop p r)).length : Int) else d) = (n : Int) := by rw [List.length_map, List.length_drop, hDd]; split <;> omega
        refine zk ?_
        refine W_block ?_
        refine zs ?_
        refine zR ?_
        refine zLI ?_
        refine zLO ?_
        refine zLI ?_
        refine zLI ?_
        refine zLI ?_
        refine zn ?_
        refine zs ?_
        refine zR ?_
        simp only [hmin]
        refine zLG [.int _ _, .int _ _] ?_
        refine zal [.int .i64 0, .int .i64 0] 2 ?_
        refine zst (.agg [.int _ _, .int _ _]) [_, _] [[_, _]] ?_
        refine zn ?_
        refine zs ?_
        refine zs ?_
        refine zR ?_
        refine zLO ?_
        refine zLI ?_
        refine L_slice_to Tb_ok (el := 28) (sz := 2) rfl rfl rfl rfl rfl (fun c hc => by obtain ⟨x, _, rfl⟩ := List.mem_map.1 hc; rfl) (by omega) (by omega) ⟨trivial, trivial⟩ rfl ?_
        simp only [Int.toNat_natCast, ← List.map_take]
        have hRl : ((r.drop p).take n).length = n := by rw [List.length_take, List.length_drop]; omega
        generalize (r.drop p).take n = R at *
        refine zLI ?_
        refine zLI ?_
        refine zn ?_
        refine W_block ?_
        refine W_for n (fun j => ⟨[(9, .ptr 2 0 0), (16, .ptr 4 0 0), (17, .ro ((r.drop p).map spanC)), (18, .int .i64 (n : Int)), (19, .ptr 5 0 0), (64, .ro (R.map spanC)), (65, .int .i64 ((R.map spanC).length : Int)), (66, .int .i64 (j : Int))], [(0, some ⟨26, 7, 0, [modelC m]⟩), (1, some ⟨28, 2, 0, [spanC s]⟩), (2, some ⟨3, 1, 0, [[.int .i64 d]]⟩), (3, some ⟨28, 2, 0, [[.int .i64 0, .int .i64 0]]⟩), (4, some ⟨71, 3, 0, [hullC (G j)]⟩), (5, some ⟨28, 2, 0, [spanC (Q j)]⟩)], [], 6⟩) (le_fit ⟨rfl, rfl, rfl, rfl, rfl, rfl, rfl, rfl, trivial⟩ ⟨.inr rfl, .inr rfl, .inr rfl, .inr rfl, .inr (by rw [hG0]; rfl), .inr (by rw [hQ0]; rfl), trivial⟩ trivial rfl rfl rfl rfl rfl) ?_
        intro j hj
        refine zs ?_
        refine zR ?_
        refine zLB ?_
        refine zn ?_
        refine zs ?_
        refine W_cond (b := _) rfl (fun h67 => ?_) (fun h67 => ?_)
        · have hjt : j < n := by have := of_decide_eq_true h67; rw [List.length_map, hRl] at this; omega
          refine zk ?_
          refine zs ?_
          refine W_block ?_
          refine zs ?_
          refine zR ?_
          (refine L_v Tb_ok (v := _) (ave_index_ro rfl rfl rfl (fun _ => rfl) rfl (by first | omega | (rw [hRl]; omega) | (rw [List.length_map, hRl]; omega)) (by first | omega | (rw [hRl]; omega) | (rw [List.length_map, hRl]; omega)) trivial) rfl ?_)
          refine zLG [.int _ _, .int _ _] ?_
          refine zal [.int .i64 0, .int .i64 0] 2 ?_
          refine zst (.agg [.int _ _, .int _ _]) [_, _] [[_, _]] ?_
          refine zn ?_
          refine zs ?_
          refine zR ?_
          refine zLG [.int _ _, .int _ _] ?_
          refine zLG [.int _ _, .int _ _] ?_
          refine zLc (bound_plus _ _) ?_
          refine zst (.agg [.int _ _, .int _ _]) [_, _] [[_, _]] ?_
          refine zn ?_
          refine zs ?_
          refine zR ?_
          refine zLG [.int _ _, .int _ _] ?_
          refine L_inl Tb_ok (fn := Try.f30) (e' := [(0, _), (1, _)]) Try.func30 rfl rfl rfl rfl rfl trivial (by decide) rfl ?_
          refine zs ?_
          refine zR ?_
          refine zbx [.int _ _, .int _ _] 2 ?_
          refine zn ?_
          refine zs ?_
          refine zs ?_
          refine zR ?_
          refine zLP ?_
          refine zLP ?_
          refine zLP ?_
          refine zLB ?_
          refine zn ?_
          refine W_ift (b := _) (M := ⟨[(0, .ptr 4 0 0), (3, .ptr 7 0 0)], [(0, some ⟨26, 7, 0, [modelC m]⟩), (1, some ⟨28, 2, 0, [spanC s]⟩), (2, some ⟨3, 1, 0, [[.int .i64 d]]⟩), (3, some ⟨28, 2, 0, [[.int .i64 0, .int .i64 0]]⟩), (4, some ⟨71, 3, 0, [hullC (G j)]⟩), (5, some ⟨28, 2, 0, [spanC (plusS (Q j) (R.getD j default))]⟩), (6, some ⟨28, 2, 0, [spanC (R.getD j default)]⟩), (7, some ⟨28, 2, 0, [spanC (bif (G j).some then ⟨mn (G j).Lo (plusS (Q j) (R.getD j default)).Lo, mx (G j).Hi (plusS (Q j) (R.getD j default)).Hi⟩ else plusS (Q j) (R.getD j default))]⟩)], [], 8⟩) (p := True) rfl (fun h7 => ?_) (fun h7 => ?_) (fun m7 => ?_)
          · refine W_draw 17 Tb_mixed rfl (by decide) (by kernel_rfl) (by kernel_rfl) ?_
            refine zEP ?_
            refine zEP ?_
            refine zEP ?_
            refine zEP ?_
            refine zEI ?_
            refine zEP ?_
            refine zEI ?_
            refine zEI ?_
            refine zEP ?_
            refine zEP ?_
            refine zEP ?_
            refine zEP ?_
            refine zEI ?_
            refine zEP ?_
            refine zEI ?_
            refine zEI ?_
            refine zEG [.int _ _, .int _ _] ?_
            refine LexE_nil ?_
            refine zst (.agg [.int _ _, .int _ _]) [_, _] [[_, _]] ?_
            refine zn ?_
            exact ⟨trivial, le_t (F := fun X => ⟨[(0, .ptr 4 0 0), (3, .ptr 7 0 0)], [(0, some ⟨26, 7, 0, [modelC m]⟩), (1, some ⟨28, 2, 0, [spanC s]⟩), (2, some ⟨3, 1, 0, [[.int .i64 d]]⟩), (3, some ⟨28, 2, 0, [[.int .i64 0, .int .i64 0]]⟩), (4, some ⟨71, 3, 0, [hullC (G j)]⟩), (5, some ⟨28, 2, 0, [spanC (plusS (Q j) (R.getD j default))]⟩), (6, some ⟨28, 2, 0, [spanC (R.getD j default)]⟩), (7, some ⟨28, 2, 0, [spanC X]⟩)], [], 8⟩) (x := ⟨mn (G j).Lo (plusS (Q j) (R.getD j default)).Lo, mx (G j).Hi (plusS (Q j) (R.getD j default)).Hi⟩) (y := plusS (Q j) (R.getD j default)) h7 (le_fit ⟨rfl, rfl, trivial⟩ ⟨.inr rfl, .inr rfl, .inr rfl, .inr rfl, .inr rfl, .inr rfl, .inr rfl, .inr rfl, trivial⟩ trivial rfl rfl rfl rfl rfl)⟩
          · refine zk ?_
            exact ⟨trivial, le_f (F := fun X => ⟨[(0, .ptr 4 0 0), (3, .ptr 7 0 0)], [(0, some ⟨26, 7, 0, [modelC m]⟩), (1, some ⟨28, 2, 0, [spanC s]⟩), (2, some ⟨3, 1, 0, [[.int .i64 d]]⟩), (3, some ⟨28, 2, 0, [[.int .i64 0, .int .i64 0]]⟩), (4, some ⟨71, 3, 0, [hullC (G j)]⟩), (5, some ⟨28, 2, 0, [spanC (plusS (Q j) (R.getD j default))]⟩), (6, some ⟨28, 2, 0, [spanC (R.getD j default)]⟩), (7, some ⟨28, 2, 0, [spanC X]⟩)], [], 8⟩) (x := ⟨mn (G j).Lo (plusS (Q j) (R.getD j default)).Lo, mx (G j).Hi (plusS (Q j) (R.getD j default)).Hi⟩) (y := plusS (Q j) (R.getD j default)) h7 (le_fit ⟨rfl, rfl, trivial⟩ ⟨.inr rfl, .inr rfl, .inr rfl, .inr rfl, .inr rfl, .inr rfl, .inr rfl, .inr rfl, trivial⟩ trivial rfl rfl rfl rfl rfl)⟩
          refine zR ?_
          refine zLP ?_
          refine zLP ?_
          refine zLG [.int _ _, .int _ _] ?_
          refine zLP ?_
          refine zLP ?_
          refine zst (.agg [.int _ _, .int _ _]) [_, _] _ ?_
          refine zLP ?_
          refine zLP ?_
          refine zst (.bool _) [_] _ ?_
          refine zn ?_
          refine endsW (by exact .inl rfl) rfl trivial rfl ?_
          refine zn ?_
          refine zR ?_
          refine zLG [.int _ _, .int _ _] ?_
          refine L_inl Tb_ok (fn := Try.f30) (e' := [(0, _), (1, _)]) Try.func30 rfl rfl rfl rfl rfl trivial (by decide) rfl ?_
          refine zs ?_
          refine zR ?_
          refine zbx [.int _ _, .int _ _] 2 ?_
          refine zn ?_
          refine zs ?_
          refine zs ?_
          refine zR ?_
          refine zLP ?_
          refine zLP ?_
          refine zLP ?_
          refine zLB ?_
          refine zn ?_
          refine W_ift (b := _) (M := ⟨[(0, .ptr 4 0 0), (3, .ptr 8 0 0)], [(0, some ⟨26, 7, 0, [modelC m]⟩), (1, some ⟨28, 2, 0, [spanC s]⟩), (2, some ⟨3, 1, 0, [[.int .i64 d]]⟩), (3, some ⟨28, 2, 0, [[.int .i64 0, .int .i64 0]]⟩), (4, some ⟨71, 3, 0, [hullC (takeH (G j) (plusS (Q j) (R.getD j default)))]⟩), (5, some ⟨28, 2, 0, [spanC (plusS (Q j) (R.getD j default))]⟩), (6, some ⟨28, 2, 0, [spanC (R.getD j default)]⟩), (8, some ⟨28, 2, 0, [spanC (bif (takeH (G j) (plusS (Q j) (R.getD j default))).some then ⟨mn (takeH (G j) (plusS (Q j) (R.getD j default))).Lo (R.getD j default).Lo, mx (takeH (G j) (plusS (Q j) (R.getD j default))).Hi (R.getD j default).Hi⟩ else R.getD j default)]⟩)], [], 9⟩) (p := True) rfl (fun h7_1 => ?_) (fun h7_1 => ?_) (fun m7 => ?_)
          · refine W_draw 17 Tb_mixed rfl (by decide) (by kernel_rfl) (by kernel_rfl) ?_
            refine zEP ?_
            refine zEP ?_
            refine zEP ?_
            refine zEP ?_
            refine zEI ?_
            refine zEP ?_
            refine zEI ?_
            refine zEI ?_
            refine zEP ?_
            refine zEP ?_
            refine zEP ?_
            refine zEP ?_
            refine zEI ?_
            refine zEP ?_
            refine zEI ?_
            refine zEI ?_
            refine zEG [.int _ _, .int _ _] ?_
            refine LexE_nil ?_
            refine zst (.agg [.int _ _, .int _ _]) [_, _] [[_, _]] ?_
            refine zn ?_
            exact ⟨trivial, le_t (F := fun X => ⟨[(0, .ptr 4 0 0), (3, .ptr 8 0 0)], [(0, some ⟨26, 7, 0, [modelC m]⟩), (1, some ⟨28, 2, 0, [spanC s]⟩), (2, some ⟨3, 1, 0, [[.int .i64 d]]⟩), (3, some ⟨28, 2, 0, [[.int .i64 0, .int .i64 0]]⟩), (4, some ⟨71, 3, 0, [hullC (takeH (G j) (plusS (Q j) (R.getD j default)))]⟩), (5, some ⟨28, 2, 0, [spanC (plusS (Q j) (R.getD j default))]⟩), (6, some ⟨28, 2, 0, [spanC (R.getD j default)]⟩), (8, some ⟨28, 2, 0, [spanC X]⟩)], [], 9⟩) (x := ⟨mn (takeH (G j) (plusS (Q j) (R.getD j default))).Lo (R.getD j default).Lo, mx (takeH (G j) (plusS (Q j) (R.getD j default))).Hi (R.getD j default).Hi⟩) (y := R.getD j default) h7_1 (le_fit ⟨rfl, rfl, trivial⟩ ⟨.inr rfl, .inr rfl, .inr rfl, .inr rfl, .inr rfl, .inr rfl, .inr rfl, .inr rfl, trivial⟩ trivial rfl rfl rfl rfl rfl)⟩
          · refine zk ?_
            exact ⟨trivial, le_f (F := fun X => ⟨[(0, .ptr 4 0 0), (3, .ptr 8 0 0)], [(0, some ⟨26, 7, 0, [modelC m]⟩), (1, some ⟨28, 2, 0, [spanC s]⟩), (2, some ⟨3, 1, 0, [[.int .i64 d]]⟩), (3, some ⟨28, 2, 0, [[.int .i64 0, .int .i64 0]]⟩), (4, some ⟨71, 3, 0, [hullC (takeH (G j) (plusS (Q j) (R.getD j default)))]⟩), (5, some ⟨28, 2, 0, [spanC (plusS (Q j) (R.getD j default))]⟩), (6, some ⟨28, 2, 0, [spanC (R.getD j default)]⟩), (8, some ⟨28, 2, 0, [spanC X]⟩)], [], 9⟩) (x := ⟨mn (takeH (G j) (plusS (Q j) (R.getD j default))).Lo (R.getD j default).Lo, mx (takeH (G j) (plusS (Q j) (R.getD j default))).Hi (R.getD j default).Hi⟩) (y := R.getD j default) h7_1 (le_fit ⟨rfl, rfl, trivial⟩ ⟨.inr rfl, .inr rfl, .inr rfl, .inr rfl, .inr rfl, .inr rfl, .inr rfl, .inr rfl, trivial⟩ trivial rfl rfl rfl rfl rfl)⟩
          refine zR ?_
          refine zLP ?_
          refine zLP ?_
          refine zLG [.int _ _, .int _ _] ?_
          refine zLP ?_
          refine zLP ?_
          refine zst (.agg [.int _ _, .int _ _]) [_, _] _ ?_
          refine zLP ?_
          refine zLP ?_
          refine zst (.bool _) [_] _ ?_
          refine zn ?_
          refine endsW (by exact .inl rfl) rfl trivial rfl ?_
          refine zn ?_
          refine zR ?_
          refine zLI ?_
          refine zLI ?_
          refine zn ?_
          refine for_end hjt (le_fit ⟨rfl, rfl, rfl, rfl, rfl, rfl, rfl, congrArg _ (w_succ hjt (by omega)), trivial⟩ ⟨.inr rfl, .inr rfl, .inr rfl, .inr rfl, .inr ?_, .inr ?_, trivial⟩ trivial rfl rfl rfl rfl rfl)
          · rw [(hGs j hjt).1]; rfl
          · rw [(hGs j hjt).2]; rfl
        · have hje : j = n := by have := of_decide_eq_false h67; rw [List.length_map, hRl] at this; omega
          refine W_exit ?_
          repeat (first | refine pass_then ?_ | refine pass_for ?_)
          refine blockQ_hit ?_
          refine zR ?_
          refine zLO ?_
          refine zLI ?_
          refine L_slice_from Tb_ok (el := 28) (sz := 2) rfl rfl rfl rfl rfl (fun c hc => by obtain ⟨x, _, rfl⟩ := List.mem_map.1 hc; rfl) (by omega) (by omega) ⟨trivial, trivial⟩ rfl ?_
          refine zLO ?_
          refine zn ?_
          refine round_end (Q := fun _ _ => True) ⟨p + n, hn1.2.2, ?_⟩ (by dsimp only; omega) (le_fit ⟨rfl, rfl, congrArg AV.ro ?_, trivial⟩ ⟨.inr rfl, .inr rfl, .inr rfl, .inr rfl, .inr ?_, trivial⟩ trivial rfl rfl rfl rfl rfl)
          · by_cases c : D ≤ r.length - p
            · left; rw [show n = D by omega, Nat.add_mod_right]; exact hpm0
            · right; omega
          · rw [Int.toNat_natCast, ← List.map_drop, List.drop_drop]
          · show some (Ob.mk 71 3 0 [hullC (G j)]) = some (Ob.mk 71 3 0 [hullC (partG D H r (p + n)).1])
            rw [hje, hGn]
      · have hpe : p = r.length := by have := of_decide_eq_false h56; rw [List.length_map, List.length_drop] at this; omega
        refine W_exit ?_
        repeat (first | refine pass_then ?_ | refine pass_round ?_)
        refine blockQ_hit ?_
        refine le_fit trivial ⟨.inr rfl, .inr rfl, .inr rfl, .inr rfl, .inr ?_, trivial⟩ trivial rfl rfl rfl rfl rfl
        show some (Ob.mk 71 3 0 [hullC (partG D H r p).1]) = _
        rw [hpe, hnx]
    refine zs ?_
    refine zR ?_
    refine zLP ?_
    refine zLG [.int _ _, .int _ _] ?_
    refine zst (.agg [.int _ _, .int _ _]) [_, _] [[_, _]] ?_
    refine zLI ?_
    refine zn ?_
    refine zt ?_
    refine ends (l := [.agg [.int _ _, .int _ _], .int _ _]) (q := .tup [.agg [.int _ _, .int _ _], .int _ _]) (.inr rfl) rfl ⟨rfl, trivial, trivial⟩ rfl rfl ?_
    rw [partS, if_pos he, he, hL, hXl, List.take_length, ← hD]; rfl
theorem bound_Product (m : Model) (hm : m.Wf) (op ch : Int) (s : Span) : Ok Try.prog 10 [.agg (modelC m), .int .i64 op, .int .i64 ch, .agg (spanC s)] (.tup [.agg (spanC (partS m op ch s 1)), .int .i64 (partE m op ch s 1)]) := by
  refine fn_ok Tb_ok (fn := Try.f10) Try.func10 rfl rfl (e := [(0, _), (1, _), (2, _), (3, _)]) rfl (by decide) rfl ?_
  refine zs ?_
  refine zR ?_
  refine zbx [.int _ _, .int _ _, .int _ _, .int _ _, .int _ _, _, .int _ _] 7 ?_
  refine zbx [.int _ _, .int _ _] 2 ?_
  refine zal [.int .i64 0, .int .i64 0] 2 ?_
  refine zLI ?_
  refine zn ?_
  refine zs ?_
  refine zR ?_
  refine zLG [.int _ _, .int _ _, .int _ _, .int _ _, .int _ _, _, .int _ _] ?_
  refine zLI ?_
  refine zLI ?_
  refine zLG [.int _ _, .int _ _] ?_
  refine zLc (bound_Part m hm op ch s 1) ?_
  refine zLG [.int _ _, .int _ _] ?_
  refine zLI ?_
  refine zst (.agg [.int _ _, .int _ _]) [_, _] [[_, _]] ?_
  refine zLI ?_
  refine zn ?_
  refine zt ?_
  refine ends (l := [.agg [.int _ _, .int _ _], .int _ _]) (q := .tup [.agg [.int _ _, .int _ _], .int _ _]) (.inr rfl) rfl ⟨rfl, trivial, trivial⟩ rfl rfl ?_
  rfl
end Go.AM
end
section
open Go Go.AM Go.Proofs
set_option maxRecDepth 10000
set_option linter.unusedVariables false
set_option linter.unusedSimpArgs false
namespace Go.AM
theorem mp_terms : termsF mPlain 1 1 0 = [⟨3, 0⟩, ⟨-2, 1⟩] := by decide +kernel
theorem mp_ofE : ofE mPlain 1 1 0 = 0 := by decide +kernel
theorem mp_bias : biasF mPlain 1 1 0 = 1 := by decide +kernel
end Go.AM
end
section
open Go Go.AM Go.Proofs
set_option maxRecDepth 10000
set_option linter.unusedVariables false
set_option linter.unusedSimpArgs false
namespace Go.AM
theorem ref03_Values (s : Span) : Ok Try.prog 32 [.agg (spanC s)] (.bool (!qBad s)) := by
  refine fn_ok Tb_ok (fn := Try.f32) Try.func32 rfl rfl (e := [(0, _)]) rfl (by decide) rfl ?_
  refine W_seq ?_
  refine W_region rfl ?_
  refine L_box Tb_ok (cs := [.int _ _, .int _ _]) (n := 2) rfl rfl rfl rfl trivial ?_
  refine L_v Tb_ok (v := .bool _) (av rfl ⟨trivial, trivial⟩) rfl ?_
  refine WL_nil ?_
  refine W_seq ?_
  refine W_region rfl ?_
  refine L_v Tb_ok (v := .ptr _ _ _) (av rfl ⟨trivial, trivial⟩) rfl ?_
  refine L_v Tb_ok (v := .int _ _) (av rfl ⟨trivial, rfl⟩) rfl ?_
  refine L_v Tb_ok (v := .bool _) (av rfl ⟨trivial, trivial⟩) rfl ?_
  refine L_v Tb_ok (v := .bool _) (av rfl ⟨trivial, trivial⟩) rfl ?_
  refine L_g Tb_ok (v := .ptr _ _ _) rfl rfl ((fun hg => (av rfl ⟨trivial, trivial⟩))) rfl rfl ?_
  refine L_g Tb_ok (v := .int _ _) rfl rfl ((fun hg => (av rfl ⟨⟨⟨(by first | exact hg | (simp_all; done) | (simp at hg ⊢; simp [hg])), True.intro⟩, True.intro⟩, rfl⟩))) rfl rfl ?_
  refine L_g Tb_ok (v := .ptr _ _ _) rfl rfl ((fun hg => (av rfl ⟨trivial, trivial⟩))) rfl rfl ?_
  refine L_g Tb_ok (v := .int _ _) rfl rfl ((fun hg => (av rfl ⟨⟨⟨(by first | exact hg | (simp_all; done) | (simp at hg ⊢; simp [hg])), True.intro⟩, True.intro⟩, rfl⟩))) rfl rfl ?_
  refine L_g Tb_ok (v := .bool _) rfl rfl ((fun hg => (av rfl ⟨⟨⟨(by first | exact hg | (simp_all; done) | (simp at hg ⊢; simp [hg])), True.intro⟩, ⟨⟨(by first | exact hg | (simp_all; done) | (simp at hg ⊢; simp [hg])), True.intro⟩, True.intro⟩⟩, trivial⟩))) rfl rfl ?_
  refine L_v Tb_ok (v := .bool _) (av rfl (by refine ⟨?_, fun h => ?_, fun h => ?_⟩ <;> first | exact True.intro | exact ⟨h, True.intro⟩ | (refine ⟨?_, True.intro⟩; first | (rw [h]; done) | (rw [h]; rfl) | (simp [h]; done) | (simp at h hg ⊢; simp [h, hg]; done) | (simp_all; done) | (simp_all; omega)))) rfl ?_
  refine L_v Tb_ok (v := .bool _) (av rfl ⟨trivial, trivial⟩) rfl ?_
  refine L_g Tb_ok (v := .ptr _ _ _) rfl rfl ((fun hg => (av rfl ⟨trivial, trivial⟩))) rfl rfl ?_
  refine L_g Tb_ok (v := .int _ _) rfl rfl ((fun hg => (av rfl ⟨⟨⟨(by first | exact hg | (simp_all; done) | (simp at hg ⊢; simp [hg])), True.intro⟩, True.intro⟩, rfl⟩))) rfl rfl ?_
  refine L_g Tb_ok (v := .bool _) rfl rfl ((fun hg => (av rfl ⟨⟨⟨(by first | exact hg | (simp_all; done) | (simp at hg ⊢; simp [hg])), True.intro⟩, True.intro⟩, trivial⟩))) rfl rfl ?_
  refine L_v Tb_ok (v := .bool _) (av rfl (by refine ⟨?_, fun h => ?_, fun h => ?_⟩ <;> first | exact True.intro | exact ⟨h, True.intro⟩ | (refine ⟨?_, True.intro⟩; first | (rw [h]; done) | (rw [h]; rfl) | (simp [h]; done) | (simp at h hg ⊢; simp [h, hg]; done) | (simp_all; done) | (simp_all; omega)))) rfl ?_
  refine L_v Tb_ok (v := .bool _) (av rfl ⟨trivial, trivial⟩) rfl ?_
  refine WL_nil ?_
  refine W_ret ?_
  refine ends (l := [.bool _]) (q := .bool _) (.inr rfl) rfl ⟨trivial, trivial⟩ rfl rfl ?_
  unfold qBad
  have d1 : decide (s.Lo ≥ -128) = !decide (s.Lo < -128) := by by_cases h : s.Lo < -128 <;> simp [h] <;> omega
  have d2 : decide (s.Lo ≤ s.Hi) = !decide (s.Lo > s.Hi) := by by_cases h : s.Lo > s.Hi <;> simp [h] <;> omega
  have d3 : decide (s.Hi ≤ 127) = !decide (s.Hi > 127) := by by_cases h : s.Hi > 127 <;> simp [h] <;> omega
  rw [d1, d2, d3]
  cases decide (s.Lo < -128) <;> cases decide (s.Lo > s.Hi) <;> cases decide (s.Hi > 127) <;> rfl
def rReach (o : MOp) (s : Span) : Int := bif decide (w64 (w64 (w64 (o.Win.Top + o.Win.Left) + o.Win.Bottom) + o.Win.Right) > 0) then mx (mx (mx s.Lo (w64 (0 - s.Lo))) (mx s.Hi (w64 (0 - s.Hi)))) (mx o.Pad (w64 (0 - o.Pad))) else mx (mx s.Lo (w64 (0 - s.Lo))) (mx s.Hi (w64 (0 - s.Hi)))
def rUp (l : List Term) : Int := l.foldl (fun s t => if t.W > 0 then w64 (s + t.W) else s) 0
def rDown (l : List Term) : Int := l.foldl (fun s t => if t.W > 0 then s else w64 (s + t.W)) 0
/-- the sums are the same -/
theorem rUp_eq (l : List Term) (h : ∀ t ∈ l, -32768 ≤ t.W ∧ t.W ≤ 32767) (hl : l.length ≤ 512) : rUp l = upF l ∧ rDown l = downF l := by
  have up : ∀ (l : List Term), (∀ t ∈ l, -32768 ≤ t.W ∧ t.W ≤ 32767) → ∀ s : Int, 0 ≤ s → s + 32767 * l.length ≤ 4611686018427387904 → l.foldl (fun s t => if t.W > 0 then w64 (s + t.W) else s) s = l.foldl (fun s t => w64 (s + mx t.W 0)) s := by
    intro l
    induction l with
    | nil => intro _ s _ _; rfl
    | cons t r ih =>
      intro h s h0 h1
      have ht := h t (by simp)
      have hlen : ((t :: r).length : Int) = r.length + 1 := by simp
      rw [hlen] at h1
      rw [List.foldl_cons, List.foldl_cons]
      have e : (if t.W > 0 then w64 (s + t.W) else s) = w64 (s + mx t.W 0) := by
        rw [mx_eq]
        split
        · rw [Int.max_eq_left (by omega)]
        · rw [Int.max_eq_right (by omega), Int.add_zero]; exact (w64_id (by omega)).symm
      rw [e]
      have hm : 0 ≤ mx t.W 0 ∧ mx t.W 0 ≤ 32767 := by rw [mx_eq]; omega
      exact ih (fun u hu => h u (by simp [hu])) _ (by rw [show w64 _ = _ from w64_id (by omega)]; omega) (by rw [show w64 _ = _ from w64_id (by omega)]; omega)
  have down : ∀ (l : List Term), (∀ t ∈ l, -32768 ≤ t.W ∧ t.W ≤ 32767) → ∀ s : Int, s ≤ 0 → -4611686018427387904 ≤ s - 32768 * l.length → l.foldl (fun s t => if t.W > 0 then s else w64 (s + t.W)) s = l.foldl (fun s t => w64 (s + mn t.W 0)) s := by
    intro l
    induction l with
    | nil => intro _ s _ _; rfl
    | cons t r ih =>
      intro h s h0 h1
      have ht := h t (by simp)
      have hlen : ((t :: r).length : Int) = r.length + 1 := by simp
      rw [hlen] at h1
      rw [List.foldl_cons, List.foldl_cons]
      have e : (if t.W > 0 then s else w64 (s + t.W)) = w64 (s + mn t.W 0) := by
        rw [mn_eq]
        split
        · rw [Int.min_eq_right (by omega), Int.add_zero]; exact (w64_id (by omega)).symm
        · rw [Int.min_eq_left (by omega)]
      rw [e]
      have hm : mn t.W 0 ≤ 0 ∧ -32768 ≤ mn t.W 0 := by rw [mn_eq]; omega
      exact ih (fun u hu => h u (by simp [hu])) _ (by rw [show w64 _ = _ from w64_id (by omega)]; omega) (by rw [show w64 _ = _ from w64_id (by omega)]; omega)
  exact ⟨up l h 0 (by omega) (by omega), down l h 0 (by omega) (by omega)⟩
theorem rReach_eq {S : Site} (hS : SiteOk S) {s : Span} (hs : -128 ≤ s.Lo ∧ s.Lo ≤ s.Hi ∧ s.Hi ≤ 127) : rReach S.Op s = reachV S.Op s := by
  have hp := (pad_bd hS).1
  have e1 : w64 (0 - s.Lo) = -s.Lo := by rw [show w64 _ = _ from w64_id (by omega)]; omega
  have e2 : w64 (0 - s.Hi) = -s.Hi := by rw [show w64 _ = _ from w64_id (by omega)]; omega
  have e3 : w64 (0 - S.Op.Pad) = -S.Op.Pad := by rw [show w64 _ = _ from w64_id (by omega)]; omega
  have hW : (0 ≤ S.Op.Win.Top ∧ S.Op.Win.Top ≤ 32) ∧ (0 ≤ S.Op.Win.Left ∧ S.Op.Win.Left ≤ 32) ∧ (0 ≤ S.Op.Win.Bottom ∧ S.Op.Win.Bottom ≤ 32) ∧ (0 ≤ S.Op.Win.Right ∧ S.Op.Win.Right ≤ 32) := by
    by_cases k1 : S.Op.Kind = 1
    · have he := hS.emp
      unfold op3 at he
      simp only [k1, ofU, bareF, bare8, bare7, bare6, bare5, bare4, bare3, bare2, bare1, emptyB, winEq] at he
      simp at he
      omega
    · have W := windowB_iff (hS.win k1).1; omega
  have eP : qPads S.Op.Win = decide (w64 (w64 (w64 (S.Op.Win.Top + S.Op.Win.Left) + S.Op.Win.Bottom) + S.Op.Win.Right) > 0) := by
    rw [show w64 (S.Op.Win.Top + S.Op.Win.Left) = _ from w64_id (by omega), show w64 (S.Op.Win.Top + S.Op.Win.Left + S.Op.Win.Bottom) = _ from w64_id (by omega), show w64 _ = _ from w64_id (by omega)]
    unfold qPads
    simp only [mx_eq]
    exact decide_eq_decide.2 (by omega)
  unfold rReach reachV
  rw [← eP, e1, e2, e3]
  simp only [mx_eq]
  cases qPads S.Op.Win <;> simp <;> omega
end Go.AM
end
section
open Go Go.AM Go.Proofs
set_option maxRecDepth 10000
set_option linter.unusedVariables false
set_option linter.unusedSimpArgs false
namespace Go.AM
theorem mul_small {a b : Int} (ha : -32768 ≤ a ∧ a ≤ 32767) (hb : -128 ≤ b ∧ b ≤ 127) : -4194304 ≤ a * b ∧ a * b ≤ 4194304 := by
  have h := Nat.mul_le_mul (show a.natAbs ≤ 32768 by omega) (show b.natAbs ≤ 128 by omega)
  rw [← Int.natAbs_mul] at h; omega
theorem ends_eq {w a b : Int} (hw : -32768 ≤ w ∧ w ≤ 32767) (h : a ≤ b) (ha : -128 ≤ a ∧ a ≤ 127) (hb : -128 ≤ b ∧ b ≤ 127) : mn (w64 (w * a)) (w64 (w * b)) = (tmS ⟨a, b⟩ w).Lo ∧ mx (w64 (w * a)) (w64 (w * b)) = (tmS ⟨a, b⟩ w).Hi := by
  have h1 := mul_small hw ha
  have h2 := mul_small hw hb
  rw [show w64 (w * a) = w * a from w64_id (by omega), show w64 (w * b) = w * b from w64_id (by omega), mn_eq, mx_eq]
  unfold tmS
  by_cases c : w < 0
  · have : w * b ≤ w * a := Int.mul_le_mul_of_nonpos_left (by omega) h
    rw [if_pos c]; dsimp only; rw [Int.mul_comm b w, Int.mul_comm a w]; omega
  · have : w * a ≤ w * b := Int.mul_le_mul_of_nonneg_left h (by omega)
    rw [if_neg c]; dsimp only; rw [Int.mul_comm b w, Int.mul_comm a w]; omega
theorem ref13_Ends (S : Site) (t : Term) (s : Span) (hs : -128 ≤ s.Lo ∧ s.Lo ≤ s.Hi ∧ s.Hi ≤ 127) (hw : -32768 ≤ t.W ∧ t.W ≤ 32767) (hp : -128 ≤ S.Op.Pad ∧ S.Op.Pad ≤ 127) : Ok Try.prog 52 [.agg (rsiteC S), .agg (termC t), .agg (spanC s)] (.agg (spanC (endF S.Op.Pad s t))) := by
  obtain ⟨a1, a2⟩ := ends_eq hw hs.2.1 (by omega) (by omega)
  obtain ⟨b1, b2⟩ := ends_eq hw (Int.le_refl S.Op.Pad) hp hp
  refine fn_ok Tb_ok (fn := Try.f52) Try.func52 rfl rfl (e := [(0, _), (1, _), (2, _)]) rfl (by decide) rfl ?_
  refine zs ?_
  refine zR ?_
  refine zbx [.int _ _, .int _ _, .int _ _, .int _ _, .int _ _, .int _ _, .int _ _, .int _ _, .int _ _, .int _ _, .int _ _, .int _ _, _, _, .int _ _, .int _ _, .int _ _, .int _ _, .int _ _, .int _ _, .int _ _, .int _ _, .int _ _, .int _ _, .int _ _, .int _ _, .int _ _, .int _ _] 28 ?_
  refine zbx [.int _ _, .int _ _] 2 ?_
  refine zbx [.int _ _, .int _ _] 2 ?_
  refine zal [.int .i64 0, .int .i64 0] 2 ?_
  refine zn ?_
  refine zs ?_
  refine W_draw 12 Tb_mixed rfl (by decide) (by kernel_rfl) (by kernel_rfl) ?_
  refine zEP ?_
  refine zEI ?_
  refine zEP ?_
  refine zEI ?_
  refine zEI ?_
  refine zEP ?_
  refine zEI ?_
  refine zEP ?_
  refine zEI ?_
  refine zEI ?_
  refine zEI ?_
  refine zEI ?_
  refine LexE_nil ?_
  refine zn ?_
  refine zs ?_
  refine zs ?_
  refine zR ?_
  refine zLP ?_
  refine zLI ?_
  refine zLB ?_
  refine zn ?_
  refine W_cond (b := _) rfl (fun h21 => ?_) (fun h21 => ?_)
  · refine zs ?_
    refine zR ?_
    refine zLP ?_
    refine zLI ?_
    refine zLP ?_
    refine zLP ?_
    refine zLI ?_
    refine zLI ?_
    refine zLI ?_
    refine zn ?_
    refine zR ?_
    refine zLI ?_
    refine zLI ?_
    refine zn ?_
    refine zs ?_
    refine zR ?_
    refine zLI ?_
    refine zLI ?_
    refine zLI ?_
    refine zLI ?_
    refine zLI ?_
    refine zLI ?_
    refine zLG [.int _ _, .int _ _] ?_
    refine zst (.agg [.int _ _, .int _ _]) [_, _] [[_, _]] ?_
    refine zn ?_
    refine zt ?_
    refine ends (l := [.agg [.int _ _, .int _ _]]) (q := .agg [.int _ _, .int _ _]) (.inr rfl) rfl ⟨rfl, trivial⟩ rfl rfl ?_
    have c : t.At < 0 := by simpa using h21
    have e : endF S.Op.Pad s t = ⟨mn (w64 (t.W * S.Op.Pad)) (w64 (t.W * S.Op.Pad)), mx (w64 (t.W * S.Op.Pad)) (w64 (t.W * S.Op.Pad))⟩ := by unfold endF; rw [if_pos c, b1, b2]
    rw [e]; rfl
  · refine zk ?_
    refine zs ?_
    refine zR ?_
    refine zLI ?_
    refine zLI ?_
    refine zLI ?_
    refine zLI ?_
    refine zLI ?_
    refine zLI ?_
    refine zLG [.int _ _, .int _ _] ?_
    refine zst (.agg [.int _ _, .int _ _]) [_, _] [[_, _]] ?_
    refine zn ?_
    refine zt ?_
    refine ends (l := [.agg [.int _ _, .int _ _]]) (q := .agg [.int _ _, .int _ _]) (.inr rfl) rfl ⟨rfl, trivial⟩ rfl rfl ?_
    have c : ¬ t.At < 0 := by simpa using h21
    have e : endF S.Op.Pad s t = ⟨mn (w64 (t.W * s.Lo)) (w64 (t.W * s.Hi)), mx (w64 (t.W * s.Lo)) (w64 (t.W * s.Hi))⟩ := by unfold endF; rw [if_neg c, a1, a2]
    rw [e]; rfl
theorem ref13_plus (a b : Span) : Ok Try.prog 36 [.agg (spanC a), .agg (spanC b)] (.agg (spanC (plusS a b))) := by
  refine fn_ok Tb_ok (fn := Try.f36) Try.func36 rfl rfl (e := [(0, _), (1, _)]) rfl (by decide) rfl ?_
  refine zs ?_
  refine zR ?_
  refine zbx [.int _ _, .int _ _] 2 ?_
  refine zbx [.int _ _, .int _ _] 2 ?_
  refine zal [.int .i64 0, .int .i64 0] 2 ?_
  refine zn ?_
  refine zs ?_
  refine zR ?_
  refine zLP ?_
  refine zLI ?_
  refine zLP ?_
  refine zLI ?_
  refine zLI ?_
  refine zLP ?_
  refine zLI ?_
  refine zLP ?_
  refine zLI ?_
  refine zLI ?_
  refine zLG [.int _ _, .int _ _] ?_
  refine zst (.agg [.int _ _, .int _ _]) [_, _] [[_, _]] ?_
  refine zn ?_
  refine zt ?_
  refine ends (l := [.agg [.int _ _, .int _ _]]) (q := .agg [.int _ _, .int _ _]) (.inr rfl) rfl ⟨rfl, trivial⟩ rfl rfl ?_
  rfl
theorem ref13_begin (S : Site) (ch b : Int) (hB : Ok Try.prog 53 [.agg (rsiteC S), .int .i64 ch] (.int .i64 b)) : Ok Try.prog 35 [.agg (rsiteC S), .int .i64 ch] (.agg (spanC ⟨b, b⟩)) := by
  refine fn_ok Tb_ok (fn := Try.f35) Try.func35 rfl rfl (e := [(0, _), (1, _)]) rfl (by decide) rfl ?_
  refine zs ?_
  refine zR ?_
  refine zbx [.int _ _, .int _ _, .int _ _, .int _ _, .int _ _, .int _ _, .int _ _, .int _ _, .int _ _, .int _ _, .int _ _, .int _ _, _, _, .int _ _, .int _ _, .int _ _, .int _ _, .int _ _, .int _ _, .int _ _, .int _ _, .int _ _, .int _ _, .int _ _, .int _ _, .int _ _, .int _ _] 28 ?_
  refine zal [.int .i64 0, .int .i64 0] 2 ?_
  refine zn ?_
  refine zs ?_
  refine W_draw 7 Tb_mixed rfl (by decide) (by kernel_rfl) (by kernel_rfl) ?_
  refine zEG [.int _ _, .int _ _, .int _ _, .int _ _, .int _ _, .int _ _, .int _ _, .int _ _, .int _ _, .int _ _, .int _ _, .int _ _, _, _, .int _ _, .int _ _, .int _ _, .int _ _, .int _ _, .int _ _, .int _ _, .int _ _, .int _ _, .int _ _, .int _ _, .int _ _, .int _ _, .int _ _] ?_
  refine zEI ?_
  refine zEc (hB) ?_
  refine zEG [.int _ _, .int _ _, .int _ _, .int _ _, .int _ _, .int _ _, .int _ _, .int _ _, .int _ _, .int _ _, .int _ _, .int _ _, _, _, .int _ _, .int _ _, .int _ _, .int _ _, .int _ _, .int _ _, .int _ _, .int _ _, .int _ _, .int _ _, .int _ _, .int _ _, .int _ _, .int _ _] ?_
  refine zEI ?_
  refine zEc (hB) ?_
  refine zEG [.int _ _, .int _ _] ?_
  refine LexE_nil ?_
  refine zst (.agg [.int _ _, .int _ _]) [_, _] [[_, _]] ?_
  refine zn ?_
  refine zt ?_
  refine ends (l := [.agg [.int _ _, .int _ _]]) (q := .agg [.int _ _, .int _ _]) (.inr rfl) rfl ⟨rfl, trivial⟩ rfl rfl ?_
  rfl
theorem holds_q (s : Span) : holdsF ⟨-128, 127⟩ s = !qBad s := by
  unfold holdsF qBad
  by_cases a : s.Lo < -128 <;> by_cases b : s.Lo > s.Hi <;> by_cases c : s.Hi > 127 <;> simp [a, b, c] <;> omega
theorem ref13_Find (m : Model) (hm : m.Wf) (op ch : Int) (s : Span) : Ok Try.prog 11 [.agg (modelC m), .int .i64 op, .int .i64 ch, .agg (spanC s)] (.tup [.agg (rsiteC (rcS m op ch)), .int .i64 (askE m op ch s)]) := by
  have hE := ofE_rc0 (m := m) (op := op) (ch := ch)
  refine fn_ok Tb_ok (fn := Try.f11) Try.func11 rfl rfl (e := [(0, _), (1, _), (2, _), (3, _)]) rfl (by decide) rfl ?_
  refine zs ?_
  refine zR ?_
  refine zbx [.int _ _, .int _ _, .int _ _, .int _ _, .int _ _, _, .int _ _] 7 ?_
  refine zbx [.int _ _, .int _ _] 2 ?_
  refine zal [.int .i64 0, .int .i64 0, .int .i64 0, .int .i64 0, .int .i64 0, .int .i64 0, .int .i64 0, .int .i64 0, .int .i64 0, .int .i64 0, .int .i64 0, .int .i64 0, .nils, .nils, .int .i64 0, .int .i64 0, .int .i64 0, .int .i64 0, .int .i64 0, .int .i64 0, .int .i64 0, .int .i64 0, .int .i64 0, .int .i64 0, .int .i64 0, .int .i64 0, .int .i64 0, .int .i64 0] 28 ?_
  refine zLI ?_
  refine zn ?_
  refine zs ?_
  refine zR ?_
  refine zLG [.int _ _, .int _ _, .int _ _, .int _ _, .int _ _, _, .int _ _] ?_
  refine zLI ?_
  refine zLI ?_
  refine zLc (ref10_FindChan m hm op ch) ?_
  refine zLT [_, _] ?_
  refine zLG [.int _ _, .int _ _, .int _ _, .int _ _, .int _ _, .int _ _, .int _ _, .int _ _, .int _ _, .int _ _, .int _ _, .int _ _, _, _, .int _ _, .int _ _, .int _ _, .int _ _, .int _ _, .int _ _, .int _ _, .int _ _, .int _ _, .int _ _, .int _ _, .int _ _, .int _ _, .int _ _] ?_
  refine zLI ?_
  refine zal [.int .i64 0, .int .i64 0, .int .i64 0, .int .i64 0, .int .i64 0, .int .i64 0, .int .i64 0, .int .i64 0, .int .i64 0, .int .i64 0, .int .i64 0, .int .i64 0, .nils, .nils, .int .i64 0, .int .i64 0, .int .i64 0, .int .i64 0, .int .i64 0, .int .i64 0, .int .i64 0, .int .i64 0, .int .i64 0, .int .i64 0, .int .i64 0, .int .i64 0, .int .i64 0, .int .i64 0] 28 ?_
  refine zst (.agg [.int _ _, .int _ _, .int _ _, .int _ _, .int _ _, .int _ _, .int _ _, .int _ _, .int _ _, .int _ _, .int _ _, .int _ _, _, _, .int _ _, .int _ _, .int _ _, .int _ _, .int _ _, .int _ _, .int _ _, .int _ _, .int _ _, .int _ _, .int _ _, .int _ _, .int _ _, .int _ _]) [_, _, _, _, _, _, _, _, _, _, _, _, _, _, _, _, _, _, _, _, _, _, _, _, _, _, _, _] [[_, _, _, _, _, _, _, _, _, _, _, _, _, _, _, _, _, _, _, _, _, _, _, _, _, _, _, _]] ?_
  refine zLI ?_
  refine zn ?_
  refine zs ?_
  refine zs ?_
  refine zR ?_
  refine zLI ?_
  refine zLB ?_
  refine zLB ?_
  refine zgLG [.int _ _, .int _ _] ?_
  refine L_callg (hr := fun hg => ref03_Values s) rfl rfl rfl rfl rfl (fun hg => ⟨⟨(by exact hg), True.intro⟩, True.intro⟩) rfl rfl ?_
  refine zgLB ?_
  refine zpLB ?_
  refine zn ?_
  refine W_cond (b := _) rfl (fun h25 => ?_) (fun h25 => ?_)
  · refine zR ?_
    refine zLI ?_
    refine zn ?_
    refine zs ?_
    refine zR ?_
    refine zLG [.int _ _, .int _ _, .int _ _, .int _ _, .int _ _, .int _ _, .int _ _, .int _ _, .int _ _, .int _ _, .int _ _, .int _ _, _, _, .int _ _, .int _ _, .int _ _, .int _ _, .int _ _, .int _ _, .int _ _, .int _ _, .int _ _, .int _ _, .int _ _, .int _ _, .int _ _, .int _ _] ?_
    refine zLI ?_
    refine zst (.agg [.int _ _, .int _ _, .int _ _, .int _ _, .int _ _, .int _ _, .int _ _, .int _ _, .int _ _, .int _ _, .int _ _, .int _ _, _, _, .int _ _, .int _ _, .int _ _, .int _ _, .int _ _, .int _ _, .int _ _, .int _ _, .int _ _, .int _ _, .int _ _, .int _ _, .int _ _, .int _ _]) [_, _, _, _, _, _, _, _, _, _, _, _, _, _, _, _, _, _, _, _, _, _, _, _, _, _, _, _] [[_, _, _, _, _, _, _, _, _, _, _, _, _, _, _, _, _, _, _, _, _, _, _, _, _, _, _, _]] ?_
    refine zLI ?_
    refine zn ?_
    refine zt ?_
    refine ends (l := [.agg [.int _ _, .int _ _, .int _ _, .int _ _, .int _ _, .int _ _, .int _ _, .int _ _, .int _ _, .int _ _, .int _ _, .int _ _, _, _, .int _ _, .int _ _, .int _ _, .int _ _, .int _ _, .int _ _, .int _ _, .int _ _, .int _ _, .int _ _, .int _ _, .int _ _, .int _ _, .int _ _], .int _ _]) (q := .tup [.agg [.int _ _, .int _ _, .int _ _, .int _ _, .int _ _, .int _ _, .int _ _, .int _ _, .int _ _, .int _ _, .int _ _, .int _ _, _, _, .int _ _, .int _ _, .int _ _, .int _ _, .int _ _, .int _ _, .int _ _, .int _ _, .int _ _, .int _ _, .int _ _, .int _ _, .int _ _, .int _ _], .int _ _]) (.inr rfl) rfl ⟨rfl, trivial, trivial⟩ rfl rfl ?_
    have h' : (bif rcE m op ch == 0 then !!qBad s else false) = true := h25
    by_cases z : rcE m op ch = 0
    · have hq : qBad s = true := by simpa [z] using h'
      rw [show askE m op ch s = 30 by simp [askE, hE, z, holds_q, hq]]; rfl
    · simp [z] at h'
  · refine zk ?_
    refine zs ?_
    refine zR ?_
    refine zLG [.int _ _, .int _ _, .int _ _, .int _ _, .int _ _, .int _ _, .int _ _, .int _ _, .int _ _, .int _ _, .int _ _, .int _ _, _, _, .int _ _, .int _ _, .int _ _, .int _ _, .int _ _, .int _ _, .int _ _, .int _ _, .int _ _, .int _ _, .int _ _, .int _ _, .int _ _, .int _ _] ?_
    refine zLI ?_
    refine zst (.agg [.int _ _, .int _ _, .int _ _, .int _ _, .int _ _, .int _ _, .int _ _, .int _ _, .int _ _, .int _ _, .int _ _, .int _ _, _, _, .int _ _, .int _ _, .int _ _, .int _ _, .int _ _, .int _ _, .int _ _, .int _ _, .int _ _, .int _ _, .int _ _, .int _ _, .int _ _, .int _ _]) [_, _, _, _, _, _, _, _, _, _, _, _, _, _, _, _, _, _, _, _, _, _, _, _, _, _, _, _] [[_, _, _, _, _, _, _, _, _, _, _, _, _, _, _, _, _, _, _, _, _, _, _, _, _, _, _, _]] ?_
    refine zLI ?_
    refine zn ?_
    refine zt ?_
    refine ends (l := [.agg [.int _ _, .int _ _, .int _ _, .int _ _, .int _ _, .int _ _, .int _ _, .int _ _, .int _ _, .int _ _, .int _ _, .int _ _, _, _, .int _ _, .int _ _, .int _ _, .int _ _, .int _ _, .int _ _, .int _ _, .int _ _, .int _ _, .int _ _, .int _ _, .int _ _, .int _ _, .int _ _], .int _ _]) (q := .tup [.agg [.int _ _, .int _ _, .int _ _, .int _ _, .int _ _, .int _ _, .int _ _, .int _ _, .int _ _, .int _ _, .int _ _, .int _ _, _, _, .int _ _, .int _ _, .int _ _, .int _ _, .int _ _, .int _ _, .int _ _, .int _ _, .int _ _, .int _ _, .int _ _, .int _ _, .int _ _, .int _ _], .int _ _]) (.inr rfl) rfl ⟨rfl, trivial, trivial⟩ rfl rfl ?_
    have h' : (bif rcE m op ch == 0 then !!qBad s else false) = false := h25
    by_cases z : rcE m op ch = 0
    · have hq : qBad s = false := by simpa [z] using h'
      rw [show askE m op ch s = 0 by simp [askE, hE, z, holds_q, hq], z]; rfl
    · rw [show askE m op ch s = rcE m op ch by simp [askE, hE, z]]; rfl
end Go.AM
end
section
open Go Go.AM Go.Proofs
set_option maxRecDepth 10000
set_option linter.unusedVariables false
set_option linter.unusedSimpArgs false
namespace Go.AM
def rowC (r : List Span) : List AV := [.ro (r.map spanC)]
theorem ref13_Rows {m : Model} (hm : m.Wf) {op ch : Int} {s : Span} (z : ofE m op ch 0 = 0) (hs : -128 ≤ s.Lo ∧ s.Lo ≤ s.Hi ∧ s.Hi ≤ 127) : Ok Try.prog 34 [.agg (rsiteC (findS m op)), .int .i64 ch, .agg (spanC s)] (.ro ((rowsF m op ch s).map rowC)) := by
  obtain ⟨f0, fb, _⟩ := ofE_op z
  obtain ⟨hS, _⟩ := site_ok f0
  obtain ⟨hch, _⟩ := (ofBad_iff hS).1 fb
  have hpd := (pad_bd hS).1
  have hln := lenF_site f0
  obtain ⟨p1, p2, p3⟩ := out_pos hS
  have hP := ref10_Positions (findS m op)
  rw [p1, show (findS m op).Out.H * (findS m op).Out.W = (posN m op : Int) by unfold posN; omega] at hP
  have hN : posN m op ≤ 1048576 := by
    have O := shapeB_iff.1 hS.outB
    have : (findS m op).Out.H * (findS m op).Out.W ≤ 1024 * 1024 := Int.mul_le_mul O.1.2 O.2.1.2 (by omega) (by omega)
    unfold posN; omega
  have hT : ∀ k : Nat, k < posN m op → Ok Try.prog 51 [.agg (rsiteC (findS m op)), .int .i64 ch, .int .i64 (k : Int)] (.ro ((termsF m op ch k).map termC)) := fun k hk => by
    have hb : ofBad (findS m op) ch k = false := (ofBad_iff hS).2 ⟨hch, by omega, by unfold posN at hk; omega⟩
    rw [termsF_eq f0 hb]; exact ref10_Terms hS hln hch ⟨by omega, by unfold posN at hk; omega⟩
  have hget : ∀ k, k < posN m op → (rowsF m op ch s).getD k default = (termsF m op ch k).map (endF (findS m op).Op.Pad s) := fun k hk => by simp [rowsF, rowF, List.getD_eq_getElem?_getD, hk]
  have hLl : (rowsF m op ch s).length = posN m op := by simp [rowsF]
  generalize rowsF m op ch s = L at *
  --@@1
  skip
  refine fn_ok Tb_ok (fn := Try.f34) Try.func34 rfl rfl (e := [(0, _), (1, _), (2, _)]) rfl (by decide) rfl ?_
  refine zs ?_
  refine zR ?_
  refine zbx [.int _ _, .int _ _, .int _ _, .int _ _, .int _ _, .int _ _, .int _ _, .int _ _, .int _ _, .int _ _, .int _ _, .int _ _, _, _, .int _ _, .int _ _, .int _ _, .int _ _, .int _ _, .int _ _, .int _ _, .int _ _, .int _ _, .int _ _, .int _ _, .int _ _, .int _ _, .int _ _] 28 ?_
  refine zbx [.int _ _, .int _ _] 2 ?_
  refine zLN ?_
  refine zn ?_
  refine zs ?_
  refine zR ?_
  refine zLN ?_
  refine zn ?_
  refine zs ?_
  refine zs ?_
  refine zR ?_
  refine zLI ?_
  refine zn ?_
  refine W_block ?_
  refine W_nils (t := 7) 75 1 rfl rfl ?_
  refine W_for (posN m op) (fun k => ⟨[(1, .int .i64 ch), (3, .ptr 0 0 0), (5, .ptr 1 0 0), (7, .app 2 ((L.take k).map rowC)), (8, .int .i64 (k : Int))], [(0, some ⟨44, 28, 0, [rsiteC (findS m op)]⟩), (1, some ⟨28, 2, 0, [spanC s]⟩)], [(2, some (75, 1, (L.take k).length))], 3⟩) (le_fit ⟨rfl, rfl, rfl, rfl, rfl, trivial⟩ ⟨.inr rfl, .inr rfl, trivial⟩ ⟨.inr rfl, trivial⟩ rfl rfl rfl rfl rfl) ?_
  intro k hk
  have hkl : (L.take k).length ≤ 1048576 := by rw [List.length_take]; omega
  refine zs ?_
  refine zs ?_
  refine zR ?_
  refine zLI ?_
  refine zLG [.int _ _, .int _ _, .int _ _, .int _ _, .int _ _, .int _ _, .int _ _, .int _ _, .int _ _, .int _ _, .int _ _, .int _ _, _, _, .int _ _, .int _ _, .int _ _, .int _ _, .int _ _, .int _ _, .int _ _, .int _ _, .int _ _, .int _ _, .int _ _, .int _ _, .int _ _, .int _ _] ?_
  refine zLc (hP) ?_
  refine zLB ?_
  refine zn ?_
  refine W_cond (b := _) rfl (fun h15 => ?_) (fun h15 => ?_)
  · have hkt : k < posN m op := by have := of_decide_eq_true h15; omega
    have hTk := hT k hkt
    have hg := hget k hkt
    have hW := termsF_W hm op ch k
    have hTl := termsF_len m op ch k
    generalize termsF m op ch k = T at *
    have hap := take_snoc' (by omega) hg
    refine zk ?_
    refine zs ?_
    refine W_block ?_
    refine zs ?_
    refine zR ?_
    refine zLN ?_
    refine zn ?_
    refine zs ?_
    refine zs ?_
    refine zR ?_
    refine zLG [.int _ _, .int _ _, .int _ _, .int _ _, .int _ _, .int _ _, .int _ _, .int _ _, .int _ _, .int _ _, .int _ _, .int _ _, _, _, .int _ _, .int _ _, .int _ _, .int _ _, .int _ _, .int _ _, .int _ _, .int _ _, .int _ _, .int _ _, .int _ _, .int _ _, .int _ _, .int _ _] ?_
    refine zLI ?_
    refine zLI ?_
    refine zLc (hTk) ?_
    refine zLI ?_
    refine zLI ?_
    refine zn ?_
    refine W_block ?_
    refine W_nils (t := 9) 28 2 rfl rfl ?_
    refine W_for T.length (fun j => ⟨[(1, .int .i64 ch), (3, .ptr 0 0 0), (5, .ptr 1 0 0), (7, .app 2 ((L.take k).map rowC)), (8, .int .i64 (k : Int)), (9, .app 3 (((T.map (endF (findS m op).Op.Pad s)).take j).map spanC)), (21, .ro (T.map termC)), (22, .int .i64 ((T.map termC).length : Int)), (23, .int .i64 (j : Int))], [(0, some ⟨44, 28, 0, [rsiteC (findS m op)]⟩), (1, some ⟨28, 2, 0, [spanC s]⟩)], [(2, some (75, 1, (L.take k).length)), (3, some (28, 2, ((T.map (endF (findS m op).Op.Pad s)).take j).length))], 4⟩) (le_fit ⟨rfl, rfl, rfl, rfl, rfl, rfl, rfl, rfl, rfl, trivial⟩ ⟨.inr rfl, .inr rfl, trivial⟩ ⟨.inr rfl, .inr rfl, trivial⟩ rfl rfl rfl rfl rfl) ?_
    intro j hj
    have hjl : ((T.map (endF (findS m op).Op.Pad s)).take j).length ≤ 512 := by rw [List.length_take, List.length_map]; omega
    refine zs ?_
    refine zR ?_
    refine zLB ?_
    refine zn ?_
    refine zs ?_
    refine W_cond (b := _) rfl (fun h24 => ?_) (fun h24 => ?_)
    · have hjt : j < T.length := by have := of_decide_eq_true h24; rw [List.length_map] at this; omega
      have haq : (T.map (endF (findS m op).Op.Pad s)).take j ++ [(endF (findS m op).Op.Pad s) (T.getD j default)] = (T.map (endF (findS m op).Op.Pad s)).take (j + 1) := take_snoc' (by rw [List.length_map]; exact hjt) (by simp [List.getD_eq_getElem?_getD, hjt])
      refine zk ?_
      refine zs ?_
      refine W_block ?_
      refine zs ?_
      refine zR ?_
      (refine L_v Tb_ok (v := _) (ave_index_ro rfl rfl rfl (fun _ => rfl) rfl (by first | omega | assumption | decide | (simp_all; done) | (simp_all; omega)) (by first | omega | assumption | decide | (simp_all; done) | (simp_all; omega)) trivial) rfl ?_)
      refine zLG [.int _ _, .int _ _] ?_
      refine zal [.int .i64 0, .int .i64 0] 2 ?_
      refine zst (.agg [.int _ _, .int _ _]) [_, _] [[_, _]] ?_
      refine zn ?_
      refine zR ?_
      refine zLA ?_
      refine zLG [.int _ _, .int _ _, .int _ _, .int _ _, .int _ _, .int _ _, .int _ _, .int _ _, .int _ _, .int _ _, .int _ _, .int _ _, _, _, .int _ _, .int _ _, .int _ _, .int _ _, .int _ _, .int _ _, .int _ _, .int _ _, .int _ _, .int _ _, .int _ _, .int _ _, .int _ _, .int _ _] ?_
      refine zLG [.int _ _, .int _ _] ?_
      refine zLG [.int _ _, .int _ _] ?_
      refine zLc (ref13_Ends (findS m op) (T.getD j default) s hs (hW _ (getD_in hjt)) hpd) ?_
      refine L_build Tb_ok (t := 75) (len := 1) (el := 28) (sz := 2) (es := [[_, _]]) (z := [.int .i64 0, .int .i64 0]) rfl rfl rfl rfl rfl (by decide) trivial rfl rfl rfl rfl rfl ?_
      refine L_app1 Tb_ok (f := spanC) (v := (endF (findS m op).Op.Pad s) (T.getD j default)) (tok := 3) (el := 28) (sz := 2) rfl rfl rfl rfl rfl ⟨trivial, trivial⟩ (fun _ => ⟨rfl, rfl⟩) (by rw [show (Tb.at 28).bytes = 16 from rfl]; omega) rfl ?_
      refine zLA ?_
      refine zn ?_
      refine zR ?_
      refine zLI ?_
      refine zLI ?_
      refine zn ?_
      refine for_end hjt (le_fit ⟨rfl, rfl, rfl, rfl, rfl, congrArg (fun z => AV.app 3 (List.map spanC z)) haq, rfl, rfl, congrArg _ (w_succ hjt (by omega)), trivial⟩ ⟨.inr rfl, .inr rfl, trivial⟩ ⟨.inr rfl, .inr (congrArg (fun z => some (28, 2, List.length z)) haq), trivial⟩ rfl rfl rfl rfl rfl)
    · have hje : j = T.length := by have := of_decide_eq_false h24; rw [List.length_map] at this; omega
      refine W_exit ?_
      repeat (first | refine pass_then ?_ | refine pass_for ?_)
      refine blockQ_hit ?_
      refine zR ?_
      refine zLA ?_
      refine zLA ?_
      refine L_build Tb_ok (t := 82) (len := 1) (el := 75) (sz := 1) (es := [[_]]) (z := [.nils]) rfl rfl rfl rfl rfl (by decide) trivial rfl rfl rfl rfl rfl ?_
      refine L_app1 Tb_ok (f := rowC) (v := T.map (endF (findS m op).Op.Pad s)) (tok := 2) (el := 75) (sz := 1) rfl rfl rfl (by rw [hje, List.take_of_length_le (by rw [List.length_map]; omega)]; rfl) rfl ⟨trivial, trivial⟩ (fun _ => ⟨rfl, rfl⟩) (by rw [show (Tb.at 75).bytes = 24 from rfl]; omega) rfl ?_
      refine zLA ?_
      refine zn ?_
      refine zR ?_
      refine zLI ?_
      refine zLI ?_
      refine zLI ?_
      refine zn ?_
      refine for_end hkt (le_fit ⟨rfl, rfl, rfl, congrArg (fun z => AV.app 2 (List.map rowC z)) hap, congrArg _ (w_succ hkt (by omega)), trivial⟩ ⟨.inr rfl, .inr rfl, trivial⟩ ⟨.inr (congrArg (fun z => some (75, 1, List.length z)) hap), trivial⟩ rfl rfl rfl rfl rfl)
  · have hke : k = posN m op := by have := of_decide_eq_false h15; omega
    refine W_exit ?_
    repeat (first | refine pass_then ?_ | refine pass_for ?_)
    refine blockQ_hit ?_
    refine zs ?_
    refine zR ?_
    refine zLA ?_
    refine zLA ?_
    refine zn ?_
    refine zt ?_
    (refine ends (l := [.app _ _]) (q := .ro _) (.inr rfl) rfl ⟨trivial, trivial⟩ rfl rfl ?_)
    rw [hke, ← hLl, List.take_length]
end Go.AM
end
section
open Go Go.AM Go.Proofs
set_option maxRecDepth 10000
set_option linter.unusedVariables false
set_option linter.unusedSimpArgs false
namespace Go.AM
theorem takeH_f {h : Hull} {s : Span} (c : h.some = false) : takeH h s = ⟨s.Lo, s.Hi, true⟩ := by unfold takeH joinS; rw [c]; rfl
theorem takeH_t {h : Hull} {s : Span} (c : h.some = true) : takeH h s = ⟨mn h.Lo s.Lo, mx h.Hi s.Hi, true⟩ := by unfold takeH joinS; rw [c]; rfl
theorem ref13_Total (S : Site) (ch b : Int) (s : Span) (L : List (List Span)) (hR : Ok Try.prog 34 [.agg (rsiteC S), .int .i64 ch, .agg (spanC s)] (.ro (L.map rowC))) (hB : Ok Try.prog 35 [.agg (rsiteC S), .int .i64 ch] (.agg (spanC ⟨b, b⟩))) (hlen : ∀ k, k < L.length → (L.getD k default).length ≤ 512) (hLL : L.length ≤ 1048576) : Ok Try.prog 13 [.agg (rsiteC S), .int .i64 ch, .agg (spanC s)] (.agg (spanC (hullS (totH b L)))) := by
    --@@1
    skip
    refine fn_ok Tb_ok (fn := Try.f13) Try.func13 rfl rfl (e := [(0, _), (1, _), (2, _)]) rfl (by decide) rfl ?_
    refine zs ?_
    refine zR ?_
    refine zbx [.int _ _, .int _ _, .int _ _, .int _ _, .int _ _, .int _ _, .int _ _, .int _ _, .int _ _, .int _ _, .int _ _, .int _ _, _, _, .int _ _, .int _ _, .int _ _, .int _ _, .int _ _, .int _ _, .int _ _, .int _ _, .int _ _, .int _ _, .int _ _, .int _ _, .int _ _, .int _ _] 28 ?_
    refine zbx [.int _ _, .int _ _] 2 ?_
    refine zal [.int .i64 0, .int .i64 0] 2 ?_
    refine zn ?_
    refine zs ?_
    refine zR ?_
    refine zal [.int .i64 0, .int .i64 0, .bool false] 3 ?_
    refine zn ?_
    refine zs ?_
    refine zs ?_
    refine zR ?_
    refine zLG [.int _ _, .int _ _, .int _ _, .int _ _, .int _ _, .int _ _, .int _ _, .int _ _, .int _ _, .int _ _, .int _ _, .int _ _, _, _, .int _ _, .int _ _, .int _ _, .int _ _, .int _ _, .int _ _, .int _ _, .int _ _, .int _ _, .int _ _, .int _ _, .int _ _, .int _ _, .int _ _] ?_
    refine zLI ?_
    refine zLG [.int _ _, .int _ _] ?_
    refine zLc (hR) ?_
    refine zLI ?_
    refine zLI ?_
    refine zn ?_
    refine W_block ?_
    refine W_for L.length (fun k => ⟨[(1, .int .i64 ch), (3, .ptr 0 0 0), (6, .ptr 2 0 0), (7, .ptr 3 0 0), (16, .ro (L.map rowC)), (17, .int .i64 ((L.map rowC).length : Int)), (18, .int .i64 (k : Int))], [(0, some ⟨44, 28, 0, [rsiteC S]⟩), (1, some ⟨28, 2, 0, [spanC s]⟩), (2, some ⟨28, 2, 0, [[.int .i64 0, .int .i64 0]]⟩), (3, some ⟨81, 3, 0, [hullC (totH b (L.take k))]⟩)], [], 4⟩) (le_fit ⟨rfl, rfl, rfl, rfl, rfl, rfl, rfl, trivial⟩ ⟨.inr rfl, .inr rfl, .inr rfl, .inr rfl, trivial⟩ trivial rfl rfl rfl rfl rfl) ?_
    intro k hk
    refine zs ?_
    refine zR ?_
    refine zLB ?_
    refine zn ?_
    refine zs ?_
    refine W_cond (b := _) rfl (fun h19 => ?_) (fun h19 => ?_)
    · have hkt : k < L.length := by have := of_decide_eq_true h19; rw [List.length_map] at this; omega
      have hr := hlen k hkt
      have hrk : L.getD ((k : Nat) : Int).toNat default = L.getD k default := by rw [Int.toNat_natCast]
      have hnx : totH b (L.take (k + 1)) = takeH (totH b (L.take k)) (sumS b (L.getD k default)) := take_fold _ _ hkt
      generalize L.getD k default = r at *
      generalize totH b (L.take k) = H at *
      refine zk ?_
      refine zs ?_
      refine W_block ?_
      refine zs ?_
      refine zR ?_
      (refine L_v Tb_ok (v := _) (ave_index_ro rfl rfl rfl (fun _ => rfl) rfl (by first | omega | assumption | decide | (simp_all; done) | (simp_all; omega)) (by first | omega | assumption | decide | (simp_all; done) | (simp_all; omega)) trivial) rfl ?_)
      refine zLO ?_
      simp only [hrk]
      refine zLO ?_
      refine zn ?_
      refine zs ?_
      refine zR ?_
      refine zLG [.int _ _, .int _ _, .int _ _, .int _ _, .int _ _, .int _ _, .int _ _, .int _ _, .int _ _, .int _ _, .int _ _, .int _ _, _, _, .int _ _, .int _ _, .int _ _, .int _ _, .int _ _, .int _ _, .int _ _, .int _ _, .int _ _, .int _ _, .int _ _, .int _ _, .int _ _, .int _ _] ?_
      refine zLI ?_
      refine zLc (hB) ?_
      refine zal [.int .i64 0, .int .i64 0] 2 ?_
      refine zst (.agg [.int _ _, .int _ _]) [_, _] [[_, _]] ?_
      refine zn ?_
      refine zs ?_
      refine zs ?_
      refine zR ?_
      refine zLO ?_
      refine zLI ?_
      refine zLI ?_
      refine zn ?_
      refine W_block ?_
      refine W_for r.length (fun j => ⟨[(1, .int .i64 ch), (3, .ptr 0 0 0), (6, .ptr 2 0 0), (7, .ptr 3 0 0), (16, .ro (L.map rowC)), (17, .int .i64 ((L.map rowC).length : Int)), (18, .int .i64 (k : Int)), (10, .ptr 4 0 0), (25, .ro (r.map spanC)), (26, .int .i64 ((r.map spanC).length : Int)), (27, .int .i64 (j : Int))], [(0, some ⟨44, 28, 0, [rsiteC S]⟩), (1, some ⟨28, 2, 0, [spanC s]⟩), (2, some ⟨28, 2, 0, [[.int .i64 0, .int .i64 0]]⟩), (3, some ⟨81, 3, 0, [hullC H]⟩), (4, some ⟨28, 2, 0, [spanC (sumS b (r.take j))]⟩)], [], 5⟩) (le_fit ⟨rfl, rfl, rfl, rfl, rfl, rfl, rfl, rfl, rfl, rfl, rfl, trivial⟩ ⟨.inr rfl, .inr rfl, .inr rfl, .inr rfl, .inr rfl, trivial⟩ trivial rfl rfl rfl rfl rfl) ?_
      intro j hj
      refine zs ?_
      refine zR ?_
      refine zLB ?_
      refine zn ?_
      refine zs ?_
      refine W_cond (b := _) rfl (fun h28 => ?_) (fun h28 => ?_)
      · have hjt : j < r.length := by have := of_decide_eq_true h28; rw [List.length_map] at this; omega
        refine zk ?_
        refine zs ?_
        refine W_block ?_
        refine zs ?_
        refine zR ?_
        (refine L_v Tb_ok (v := _) (ave_index_ro rfl rfl rfl (fun _ => rfl) rfl (by first | omega | assumption | decide | (simp_all; done) | (simp_all; omega)) (by first | omega | assumption | decide | (simp_all; done) | (simp_all; omega)) trivial) rfl ?_)
        refine zLG [.int _ _, .int _ _] ?_
        refine zal [.int .i64 0, .int .i64 0] 2 ?_
        refine zst (.agg [.int _ _, .int _ _]) [_, _] [[_, _]] ?_
        refine zn ?_
        refine zR ?_
        refine zLG [.int _ _, .int _ _] ?_
        refine zLG [.int _ _, .int _ _] ?_
        refine zLc (ref13_plus _ _) ?_
        refine zst (.agg [.int _ _, .int _ _]) [_, _] [[_, _]] ?_
        refine zn ?_
        refine zR ?_
        refine zLI ?_
        refine zLI ?_
        refine zn ?_
        refine for_end hjt (le_fit ⟨rfl, rfl, rfl, rfl, rfl, rfl, rfl, rfl, rfl, rfl, congrArg _ (w_succ hjt (by omega)), trivial⟩ ⟨.inr rfl, .inr rfl, .inr rfl, .inr rfl, .inr (congrArg (fun z => some (Ob.mk 28 2 0 [spanC z])) (take_fold plusS _ hjt).symm), trivial⟩ trivial rfl rfl rfl rfl rfl)
      · have hje : j = r.length := by have := of_decide_eq_false h28; rw [List.length_map] at this; omega
        refine W_exit ?_
        repeat (first | refine pass_then ?_ | refine pass_for ?_)
        refine blockQ_hit ?_
        refine zR ?_
        refine zLG [.int _ _, .int _ _] ?_
        refine L_inlM Tb_ok ⟨[(1, .int .i64 ch), (3, .ptr 0 0 0), (6, .ptr 2 0 0), (7, .ptr 3 0 0), (16, .ro (L.map rowC)), (17, .int .i64 ((L.map rowC).length : Int)), (18, .int .i64 (k : Int))], [(0, some ⟨44, 28, 0, [rsiteC S]⟩), (1, some ⟨28, 2, 0, [spanC s]⟩), (2, some ⟨28, 2, 0, [[.int .i64 0, .int .i64 0]]⟩), (3, some ⟨81, 3, 0, [hullC (takeH H (sumS b (r.take j)))]⟩)], [], 4⟩ (fn := Try.f37) (e' := [(0, _), (1, _)]) Try.func37 rfl rfl rfl rfl rfl trivial (by decide) rfl ?_ ?_
        · refine zs ?_
          refine zR ?_
          refine zbx [.int _ _, .int _ _] 2 ?_
          refine zn ?_
          refine zs ?_
          refine zs ?_
          refine zR ?_
          refine zLP ?_
          refine zLP ?_
          refine zLP ?_
          refine zLB ?_
          refine zLB ?_
          refine zn ?_
          refine W_cond (b := _) rfl (fun h8 => ?_) (fun h8 => ?_)
          · have c8 : (H).some = false := by simpa using h8
            refine zs ?_
            refine zR ?_
            refine zLP ?_
            refine zLG [.int _ _, .int _ _] ?_
            refine zLP ?_
            refine zLP ?_
            refine zst (.agg [.int _ _, .int _ _]) [_, _] _ ?_
            refine zn ?_
            refine zs ?_
            refine zR ?_
            refine zLP ?_
            refine zLP ?_
            refine zLP ?_
            refine zst (.bool _) [_] _ ?_
            refine zn ?_
            refine zt ?_
            refine endsM (by exact .inr rfl) rfl trivial rfl ?_
            refine le_fit ⟨rfl, rfl, rfl, rfl, rfl, rfl, rfl, trivial⟩ ⟨.inr rfl, .inr rfl, .inr rfl, .inr ?_, trivial⟩ trivial rfl rfl rfl rfl rfl
            show some (Ob.mk 81 3 0 [[.int .i64 (sumS b (r.take j)).Lo, .int .i64 (sumS b (r.take j)).Hi, .bool true]]) = _
            rw [takeH_f c8]; rfl
          · have c8 : (H).some = true := by simpa using h8
            refine zk ?_
            refine zs ?_
            refine W_draw 9 Tb_mixed rfl (by decide) (by kernel_rfl) (by kernel_rfl) ?_
            refine zEP ?_
            refine zEP ?_
            refine zEP ?_
            refine zEP ?_
            refine zEP ?_
            refine zEI ?_
            refine zEP ?_
            refine zEI ?_
            refine zEI ?_
            refine LexE_nil ?_
            refine zLP ?_
            refine zLP ?_
            refine zLP ?_
            refine zst (.int _ _) [_] _ ?_
            refine zn ?_
            refine W_draw 9 Tb_mixed rfl (by decide) (by kernel_rfl) (by kernel_rfl) ?_
            refine zEP ?_
            refine zEP ?_
            refine zEP ?_
            refine zEP ?_
            refine zEP ?_
            refine zEI ?_
            refine zEP ?_
            refine zEI ?_
            refine zEI ?_
            refine LexE_nil ?_
            refine zLP ?_
            refine zLP ?_
            refine zLP ?_
            refine zst (.int _ _) [_] _ ?_
            refine zn ?_
            refine endsM (by exact .inl rfl) rfl trivial rfl ?_
            refine le_fit ⟨rfl, rfl, rfl, rfl, rfl, rfl, rfl, trivial⟩ ⟨.inr rfl, .inr rfl, .inr rfl, .inr ?_, trivial⟩ trivial rfl rfl rfl rfl rfl
            show some (Ob.mk 81 3 0 [[.int .i64 (mn (H).Lo (sumS b (r.take j)).Lo), .int .i64 (mx (H).Hi (sumS b (r.take j)).Hi), .bool (H).some]]) = _
            rw [c8, takeH_t c8]; rfl
        refine zn ?_
        refine zR ?_
        refine zLI ?_
        refine zLI ?_
        refine zn ?_
        refine for_end hkt (le_fit ⟨rfl, rfl, rfl, rfl, rfl, rfl, congrArg _ (w_succ hkt (by omega)), trivial⟩ ⟨.inr rfl, .inr rfl, .inr rfl, .inr ?_, trivial⟩ trivial rfl rfl rfl rfl rfl)
        show some (Ob.mk 81 3 0 [hullC (takeH H (sumS b (r.take j)))]) = _
        rw [hnx, hje, List.take_length]
    · have hke : k = L.length := by have := of_decide_eq_false h19; rw [List.length_map] at this; omega
      refine W_exit ?_
      repeat (first | refine pass_then ?_ | refine pass_for ?_)
      refine blockQ_hit ?_
      refine zs ?_
      refine zR ?_
      refine zLP ?_
      refine zLG [.int _ _, .int _ _] ?_
      refine zst (.agg [.int _ _, .int _ _]) [_, _] [[_, _]] ?_
      refine zn ?_
      refine zt ?_
      refine ends (l := [.agg [.int _ _, .int _ _]]) (q := .agg [.int _ _, .int _ _]) (.inr rfl) rfl ⟨rfl, trivial⟩ rfl rfl ?_
      rw [hke, List.take_length]; rfl
theorem ref13_Run (S : Site) (ch b : Int) (s : Span) (L : List (List Span)) (hR : Ok Try.prog 34 [.agg (rsiteC S), .int .i64 ch, .agg (spanC s)] (.ro (L.map rowC))) (hB : Ok Try.prog 35 [.agg (rsiteC S), .int .i64 ch] (.agg (spanC ⟨b, b⟩))) (hlen : ∀ k, k < L.length → (L.getD k default).length ≤ 512) (hLL : L.length ≤ 1048576) : Ok Try.prog 16 [.agg (rsiteC S), .int .i64 ch, .agg (spanC s)] (.agg (spanC (hullS (runH b L)))) := by
    --@@2
    skip
    refine fn_ok Tb_ok (fn := Try.f16) Try.func16 rfl rfl (e := [(0, _), (1, _), (2, _)]) rfl (by decide) rfl ?_
    refine zs ?_
    refine zR ?_
    refine zbx [.int _ _, .int _ _, .int _ _, .int _ _, .int _ _, .int _ _, .int _ _, .int _ _, .int _ _, .int _ _, .int _ _, .int _ _, _, _, .int _ _, .int _ _, .int _ _, .int _ _, .int _ _, .int _ _, .int _ _, .int _ _, .int _ _, .int _ _, .int _ _, .int _ _, .int _ _, .int _ _] 28 ?_
    refine zbx [.int _ _, .int _ _] 2 ?_
    refine zal [.int .i64 0, .int .i64 0] 2 ?_
    refine zn ?_
    refine zs ?_
    refine zR ?_
    refine zal [.int .i64 0, .int .i64 0, .bool false] 3 ?_
    refine zn ?_
    refine zs ?_
    refine zs ?_
    refine zR ?_
    refine zLG [.int _ _, .int _ _, .int _ _, .int _ _, .int _ _, .int _ _, .int _ _, .int _ _, .int _ _, .int _ _, .int _ _, .int _ _, _, _, .int _ _, .int _ _, .int _ _, .int _ _, .int _ _, .int _ _, .int _ _, .int _ _, .int _ _, .int _ _, .int _ _, .int _ _, .int _ _, .int _ _] ?_
    refine zLI ?_
    refine zLG [.int _ _, .int _ _] ?_
    refine zLc (hR) ?_
    refine zLI ?_
    refine zLI ?_
    refine zn ?_
    refine W_block ?_
    refine W_for L.length (fun k => ⟨[(1, .int .i64 ch), (3, .ptr 0 0 0), (6, .ptr 2 0 0), (7, .ptr 3 0 0), (16, .ro (L.map rowC)), (17, .int .i64 ((L.map rowC).length : Int)), (18, .int .i64 (k : Int))], [(0, some ⟨44, 28, 0, [rsiteC S]⟩), (1, some ⟨28, 2, 0, [spanC s]⟩), (2, some ⟨28, 2, 0, [[.int .i64 0, .int .i64 0]]⟩), (3, some ⟨81, 3, 0, [hullC (runH b (L.take k))]⟩)], [], 4⟩) (le_fit ⟨rfl, rfl, rfl, rfl, rfl, rfl, rfl, trivial⟩ ⟨.inr rfl, .inr rfl, .inr rfl, .inr rfl, trivial⟩ trivial rfl rfl rfl rfl rfl) ?_
    intro k hk
    refine zs ?_
    refine zR ?_
    refine zLB ?_
    refine zn ?_
    refine zs ?_
    refine W_cond (b := _) rfl (fun h19 => ?_) (fun h19 => ?_)
    · have hkt : k < L.length := by have := of_decide_eq_true h19; rw [List.length_map] at this; omega
      have hr := hlen k hkt
      have hrk : L.getD ((k : Nat) : Int).toNat default = L.getD k default := by rw [Int.toNat_natCast]
      have hnx : runH b (L.take (k + 1)) = ((L.getD k default).foldl runR (takeH (runH b (L.take k)) ⟨b, b⟩, ⟨b, b⟩)).1 := take_fold _ _ hkt
      generalize L.getD k default = r at *
      generalize runH b (L.take k) = H at *
      have hst := fun (j : Nat) (hj : j < r.length) => take_fold runR (takeH H ⟨b, b⟩, ⟨b, b⟩) hj
      obtain ⟨G, hG⟩ : ∃ G : Nat → Hull × Span, G = fun j => (r.take j).foldl runR (takeH H ⟨b, b⟩, ⟨b, b⟩) := ⟨_, rfl⟩
      have hG0 : G 0 = (takeH H ⟨b, b⟩, ⟨b, b⟩) := by rw [hG]; rfl
      have hGs : ∀ j, j < r.length → G (j + 1) = runR (G j) (r.getD j default) := fun j hj => by rw [hG]; exact hst j hj
      have hGn : (G r.length).1 = runH b (L.take (k + 1)) := by rw [hG, hnx]; simp only [List.take_length]
      clear hst
      refine zk ?_
      refine zs ?_
      refine W_block ?_
      refine zs ?_
      refine zR ?_
      (refine L_v Tb_ok (v := _) (ave_index_ro rfl rfl rfl (fun _ => rfl) rfl (by first | omega | assumption | decide | (simp_all; done) | (simp_all; omega)) (by first | omega | assumption | decide | (simp_all; done) | (simp_all; omega)) trivial) rfl ?_)
      refine zLO ?_
      simp only [hrk]
      refine zLO ?_
      refine zn ?_
      refine zs ?_
      refine zR ?_
      refine zLG [.int _ _, .int _ _, .int _ _, .int _ _, .int _ _, .int _ _, .int _ _, .int _ _, .int _ _, .int _ _, .int _ _, .int _ _, _, _, .int _ _, .int _ _, .int _ _, .int _ _, .int _ _, .int _ _, .int _ _, .int _ _, .int _ _, .int _ _, .int _ _, .int _ _, .int _ _, .int _ _] ?_
      refine zLI ?_
      refine zLc (hB) ?_
      refine zal [.int .i64 0, .int .i64 0] 2 ?_
      refine zst (.agg [.int _ _, .int _ _]) [_, _] [[_, _]] ?_
      refine zn ?_
      refine zs ?_
      refine zR ?_
      refine zLG [.int _ _, .int _ _] ?_
      refine L_inlM Tb_ok ⟨[(1, .int .i64 ch), (3, .ptr 0 0 0), (6, .ptr 2 0 0), (7, .ptr 3 0 0), (16, .ro (L.map rowC)), (17, .int .i64 ((L.map rowC).length : Int)), (18, .int .i64 (k : Int)), (10, .ptr 4 0 0), (9, .ro (r.map spanC))], [(0, some ⟨44, 28, 0, [rsiteC S]⟩), (1, some ⟨28, 2, 0, [spanC s]⟩), (2, some ⟨28, 2, 0, [[.int .i64 0, .int .i64 0]]⟩), (3, some ⟨81, 3, 0, [hullC (takeH H ⟨b, b⟩)]⟩), (4, some ⟨28, 2, 0, [spanC ⟨b, b⟩]⟩)], [], 5⟩ (fn := Try.f37) (e' := [(0, _), (1, _)]) Try.func37 rfl rfl rfl rfl rfl trivial (by decide) rfl ?_ ?_
      · refine zs ?_
        refine zR ?_
        refine zbx [.int _ _, .int _ _] 2 ?_
        refine zn ?_
        refine zs ?_
        refine zs ?_
        refine zR ?_
        refine zLP ?_
        refine zLP ?_
        refine zLP ?_
        refine zLB ?_
        refine zLB ?_
        refine zn ?_
        refine W_cond (b := _) rfl (fun h8 => ?_) (fun h8 => ?_)
        · have c8 : (H).some = false := by simpa using h8
          refine zs ?_
          refine zR ?_
          refine zLP ?_
          refine zLG [.int _ _, .int _ _] ?_
          refine zLP ?_
          refine zLP ?_
          refine zst (.agg [.int _ _, .int _ _]) [_, _] _ ?_
          refine zn ?_
          refine zs ?_
          refine zR ?_
          refine zLP ?_
          refine zLP ?_
          refine zLP ?_
          refine zst (.bool _) [_] _ ?_
          refine zn ?_
          refine zt ?_
          refine endsM (by exact .inr rfl) rfl trivial rfl ?_
          refine le_fit ⟨rfl, rfl, rfl, rfl, rfl, rfl, rfl, rfl, rfl, trivial⟩ ⟨.inr rfl, .inr rfl, .inr rfl, .inr ?_, .inr rfl, trivial⟩ trivial rfl rfl rfl rfl rfl
          show some (Ob.mk 81 3 0 [[.int .i64 ((⟨b, b⟩ : Span)).Lo, .int .i64 ((⟨b, b⟩ : Span)).Hi, .bool true]]) = _
          rw [takeH_f c8]; rfl
        · have c8 : (H).some = true := by simpa using h8
          refine zk ?_
          refine zs ?_
          refine W_draw 9 Tb_mixed rfl (by decide) (by kernel_rfl) (by kernel_rfl) ?_
          refine zEP ?_
          refine zEP ?_
          refine zEP ?_
          refine zEP ?_
          refine zEP ?_
          refine zEI ?_
          refine zEP ?_
          refine zEI ?_
          refine zEI ?_
          refine LexE_nil ?_
          refine zLP ?_
          refine zLP ?_
          refine zLP ?_
          refine zst (.int _ _) [_] _ ?_
          refine zn ?_
          refine W_draw 9 Tb_mixed rfl (by decide) (by kernel_rfl) (by kernel_rfl) ?_
          refine zEP ?_
          refine zEP ?_
          refine zEP ?_
          refine zEP ?_
          refine zEP ?_
          refine zEI ?_
          refine zEP ?_
          refine zEI ?_
          refine zEI ?_
          refine LexE_nil ?_
          refine zLP ?_
          refine zLP ?_
          refine zLP ?_
          refine zst (.int _ _) [_] _ ?_
          refine zn ?_
          refine endsM (by exact .inl rfl) rfl trivial rfl ?_
          refine le_fit ⟨rfl, rfl, rfl, rfl, rfl, rfl, rfl, rfl, rfl, trivial⟩ ⟨.inr rfl, .inr rfl, .inr rfl, .inr ?_, .inr rfl, trivial⟩ trivial rfl rfl rfl rfl rfl
          show some (Ob.mk 81 3 0 [[.int .i64 (mn (H).Lo ((⟨b, b⟩ : Span)).Lo), .int .i64 (mx (H).Hi ((⟨b, b⟩ : Span)).Hi), .bool (H).some]]) = _
          rw [c8, takeH_t c8]; rfl
      refine zn ?_
      refine zs ?_
      refine zR ?_
      refine zLO ?_
      refine zLI ?_
      refine zLI ?_
      refine zn ?_
      refine W_block ?_
      refine W_for r.length (fun j => ⟨[(1, .int .i64 ch), (3, .ptr 0 0 0), (6, .ptr 2 0 0), (7, .ptr 3 0 0), (16, .ro (L.map rowC)), (17, .int .i64 ((L.map rowC).length : Int)), (18, .int .i64 (k : Int)), (10, .ptr 4 0 0), (27, .ro (r.map spanC)), (28, .int .i64 ((r.map spanC).length : Int)), (29, .int .i64 (j : Int))], [(0, some ⟨44, 28, 0, [rsiteC S]⟩), (1, some ⟨28, 2, 0, [spanC s]⟩), (2, some ⟨28, 2, 0, [[.int .i64 0, .int .i64 0]]⟩), (3, some ⟨81, 3, 0, [hullC (G j).1]⟩), (4, some ⟨28, 2, 0, [spanC (G j).2]⟩)], [], 5⟩) (le_fit ⟨rfl, rfl, rfl, rfl, rfl, rfl, rfl, rfl, rfl, rfl, rfl, trivial⟩ ⟨.inr rfl, .inr rfl, .inr rfl, .inr (by rw [hG0]; rfl), .inr (by rw [hG0]; rfl), trivial⟩ trivial rfl rfl rfl rfl rfl) ?_
      intro j hj
      refine zs ?_
      refine zR ?_
      refine zLB ?_
      refine zn ?_
      refine zs ?_
      refine W_cond (b := _) rfl (fun h30 => ?_) (fun h30 => ?_)
      · have hjt : j < r.length := by have := of_decide_eq_true h30; rw [List.length_map] at this; omega
        refine zk ?_
        refine zs ?_
        refine W_block ?_
        refine zs ?_
        refine zR ?_
        (refine L_v Tb_ok (v := _) (ave_index_ro rfl rfl rfl (fun _ => rfl) rfl (by first | omega | assumption | decide | (simp_all; done) | (simp_all; omega)) (by first | omega | assumption | decide | (simp_all; done) | (simp_all; omega)) trivial) rfl ?_)
        refine zLG [.int _ _, .int _ _] ?_
        refine zal [.int .i64 0, .int .i64 0] 2 ?_
        refine zst (.agg [.int _ _, .int _ _]) [_, _] [[_, _]] ?_
        refine zn ?_
        refine zs ?_
        refine zR ?_
        refine zLG [.int _ _, .int _ _] ?_
        refine zLG [.int _ _, .int _ _] ?_
        refine zLc (ref13_plus _ _) ?_
        refine zst (.agg [.int _ _, .int _ _]) [_, _] [[_, _]] ?_
        refine zn ?_
        refine zR ?_
        refine zLG [.int _ _, .int _ _] ?_
        refine L_inlM Tb_ok ⟨[(1, .int .i64 ch), (3, .ptr 0 0 0), (6, .ptr 2 0 0), (7, .ptr 3 0 0), (16, .ro (L.map rowC)), (17, .int .i64 ((L.map rowC).length : Int)), (18, .int .i64 (k : Int)), (10, .ptr 4 0 0), (27, .ro (r.map spanC)), (28, .int .i64 ((r.map spanC).length : Int)), (29, .int .i64 (j : Int))], [(0, some ⟨44, 28, 0, [rsiteC S]⟩), (1, some ⟨28, 2, 0, [spanC s]⟩), (2, some ⟨28, 2, 0, [[.int .i64 0, .int .i64 0]]⟩), (3, some ⟨81, 3, 0, [hullC (takeH (G j).1 (plusS (G j).2 (r.getD j default)))]⟩), (4, some ⟨28, 2, 0, [spanC (plusS (G j).2 (r.getD j default))]⟩)], [], 5⟩ (fn := Try.f37) (e' := [(0, _), (1, _)]) Try.func37 rfl rfl rfl rfl rfl trivial (by decide) rfl ?_ ?_
        · refine zs ?_
          refine zR ?_
          refine zbx [.int _ _, .int _ _] 2 ?_
          refine zn ?_
          refine zs ?_
          refine zs ?_
          refine zR ?_
          refine zLP ?_
          refine zLP ?_
          refine zLP ?_
          refine zLB ?_
          refine zLB ?_
          refine zn ?_
          refine W_cond (b := _) rfl (fun h8_1 => ?_) (fun h8_1 => ?_)
          · have c8 : ((G j).1).some = false := by simpa using h8_1
            refine zs ?_
            refine zR ?_
            refine zLP ?_
            refine zLG [.int _ _, .int _ _] ?_
            refine zLP ?_
            refine zLP ?_
            refine zst (.agg [.int _ _, .int _ _]) [_, _] _ ?_
            refine zn ?_
            refine zs ?_
            refine zR ?_
            refine zLP ?_
            refine zLP ?_
            refine zLP ?_
            refine zst (.bool _) [_] _ ?_
            refine zn ?_
            refine zt ?_
            refine endsM (by exact .inr rfl) rfl trivial rfl ?_
            refine le_fit ⟨rfl, rfl, rfl, rfl, rfl, rfl, rfl, rfl, rfl, rfl, rfl, trivial⟩ ⟨.inr rfl, .inr rfl, .inr rfl, .inr ?_, .inr rfl, trivial⟩ trivial rfl rfl rfl rfl rfl
            show some (Ob.mk 81 3 0 [[.int .i64 (plusS (G j).2 (r.getD j default)).Lo, .int .i64 (plusS (G j).2 (r.getD j default)).Hi, .bool true]]) = _
            rw [takeH_f c8]; rfl
          · have c8 : ((G j).1).some = true := by simpa using h8_1
            refine zk ?_
            refine zs ?_
            refine W_draw 9 Tb_mixed rfl (by decide) (by kernel_rfl) (by kernel_rfl) ?_
            refine zEP ?_
            refine zEP ?_
            refine zEP ?_
            refine zEP ?_
            refine zEP ?_
            refine zEI ?_
            refine zEP ?_
            refine zEI ?_
            refine zEI ?_
            refine LexE_nil ?_
            refine zLP ?_
            refine zLP ?_
            refine zLP ?_
            refine zst (.int _ _) [_] _ ?_
            refine zn ?_
            refine W_draw 9 Tb_mixed rfl (by decide) (by kernel_rfl) (by kernel_rfl) ?_
            refine zEP ?_
            refine zEP ?_
            refine zEP ?_
            refine zEP ?_
            refine zEP ?_
            refine zEI ?_
            refine zEP ?_
            refine zEI ?_
            refine zEI ?_
            refine LexE_nil ?_
            refine zLP ?_
            refine zLP ?_
            refine zLP ?_
            refine zst (.int _ _) [_] _ ?_
            refine zn ?_
            refine endsM (by exact .inl rfl) rfl trivial rfl ?_
            refine le_fit ⟨rfl, rfl, rfl, rfl, rfl, rfl, rfl, rfl, rfl, rfl, rfl, trivial⟩ ⟨.inr rfl, .inr rfl, .inr rfl, .inr ?_, .inr rfl, trivial⟩ trivial rfl rfl rfl rfl rfl
            show some (Ob.mk 81 3 0 [[.int .i64 (mn ((G j).1).Lo (plusS (G j).2 (r.getD j default)).Lo), .int .i64 (mx ((G j).1).Hi (plusS (G j).2 (r.getD j default)).Hi), .bool ((G j).1).some]]) = _
            rw [c8, takeH_t c8]; rfl
        refine zn ?_
        refine zR ?_
        refine zLI ?_
        refine zLI ?_
        refine zn ?_
        refine for_end hjt (le_fit ⟨rfl, rfl, rfl, rfl, rfl, rfl, rfl, rfl, rfl, rfl, congrArg _ (w_succ hjt (by omega)), trivial⟩ ⟨.inr rfl, .inr rfl, .inr rfl, .inr (by rw [hGs j hjt]; rfl), .inr (by rw [hGs j hjt]; rfl), trivial⟩ trivial rfl rfl rfl rfl rfl)
      · have hje : j = r.length := by have := of_decide_eq_false h30; rw [List.length_map] at this; omega
        refine W_exit ?_
        repeat (first | refine pass_then ?_ | refine pass_for ?_)
        refine blockQ_hit ?_
        refine zR ?_
        refine zLI ?_
        refine zLI ?_
        refine zn ?_
        refine for_end hkt (le_fit ⟨rfl, rfl, rfl, rfl, rfl, rfl, congrArg _ (w_succ hkt (by omega)), trivial⟩ ⟨.inr rfl, .inr rfl, .inr rfl, .inr ?_, trivial⟩ trivial rfl rfl rfl rfl rfl)
        show some (Ob.mk 81 3 0 [hullC (G j).1]) = _
        rw [hje, hGn]
    · have hke : k = L.length := by have := of_decide_eq_false h19; rw [List.length_map] at this; omega
      refine W_exit ?_
      repeat (first | refine pass_then ?_ | refine pass_for ?_)
      refine blockQ_hit ?_
      refine zs ?_
      refine zR ?_
      refine zLP ?_
      refine zLG [.int _ _, .int _ _] ?_
      refine zst (.agg [.int _ _, .int _ _]) [_, _] [[_, _]] ?_
      refine zn ?_
      refine zt ?_
      refine ends (l := [.agg [.int _ _, .int _ _]]) (q := .agg [.int _ _, .int _ _]) (.inr rfl) rfl ⟨rfl, trivial⟩ rfl rfl ?_
      rw [hke, List.take_length]; rfl
end Go.AM
end
section
open Go Go.AM Go.Proofs
set_option maxRecDepth 10000
set_option linter.unusedVariables false
set_option linter.unusedSimpArgs false
namespace Go.AM
def blkY (d : Int) (j : Nat) (q : Span) : Span := bif (j : Int).tmod d == 0 then ⟨0, 0⟩ else q
theorem blkY_eq {d : Int} {D : Nat} (h : d = (D : Int)) (H : Hull) (r : List Span) (j : Nat) : partG D H r (j + 1) = (takeH (takeH (partG D H r j).1 (plusS (blkY d j (partG D H r j).2) (r.getD j default))) (r.getD j default), plusS (blkY d j (partG D H r j).2) (r.getD j default)) := by
  have e : blkY d j (partG D H r j).2 = if j % D = 0 then ⟨0, 0⟩ else (partG D H r j).2 := by
    unfold blkY
    rw [h, Int.tmod_eq_emod_of_nonneg (by omega), ← Int.natCast_emod]
    by_cases c : j % D = 0
    · rw [if_pos c, c]; rfl
    · rw [if_neg c, show ((((j % D : Nat)) : Int) == 0) = false by simpa using fun q => c (by omega)]; rfl
  rw [e]; rfl
theorem ref13_Part (S : Site) (ch d : Int) (s : Span) (L : List (List Span)) (hR : Ok Try.prog 34 [.agg (rsiteC S), .int .i64 ch, .agg (spanC s)] (.ro (L.map rowC))) (hlen : ∀ k, k < L.length → (L.getD k default).length ≤ 512) (hLL : L.length ≤ 1048576) (hd : 1 ≤ d) : Ok Try.prog 19 [.agg (rsiteC S), .int .i64 ch, .agg (spanC s), .int .i64 d] (.agg (spanC (hullS (partH d.toNat L)))) := by
    obtain ⟨D, hD⟩ : ∃ D, D = d.toNat := ⟨_, rfl⟩
    have hDd : d = (D : Int) := by omega
    have hd0 : d ≠ 0 := by omega
    rw [← hD]
    --@@3
    skip
    refine fn_ok Tb_ok (fn := Try.f19) Try.func19 rfl rfl (e := [(0, _), (1, _), (2, _), (3, _)]) rfl (by decide) rfl ?_
    refine zs ?_
    refine zR ?_
    refine zbx [.int _ _, .int _ _, .int _ _, .int _ _, .int _ _, .int _ _, .int _ _, .int _ _, .int _ _, .int _ _, .int _ _, .int _ _, _, _, .int _ _, .int _ _, .int _ _, .int _ _, .int _ _, .int _ _, .int _ _, .int _ _, .int _ _, .int _ _, .int _ _, .int _ _, .int _ _, .int _ _] 28 ?_
    refine zbx [.int _ _, .int _ _] 2 ?_
    refine zal [.int .i64 0, .int .i64 0] 2 ?_
    refine zn ?_
    refine zs ?_
    refine zR ?_
    refine zal [.int .i64 0, .int .i64 0, .bool false] 3 ?_
    refine zn ?_
    refine zs ?_
    refine zs ?_
    refine zR ?_
    refine zLG [.int _ _, .int _ _, .int _ _, .int _ _, .int _ _, .int _ _, .int _ _, .int _ _, .int _ _, .int _ _, .int _ _, .int _ _, _, _, .int _ _, .int _ _, .int _ _, .int _ _, .int _ _, .int _ _, .int _ _, .int _ _, .int _ _, .int _ _, .int _ _, .int _ _, .int _ _, .int _ _] ?_
    refine zLI ?_
    refine zLG [.int _ _, .int _ _] ?_
    refine zLc (hR) ?_
    refine zLI ?_
    refine zLI ?_
    refine zn ?_
    refine W_block ?_
    refine W_for L.length (fun k => ⟨[(1, .int .i64 ch), (3, .int .i64 d), (4, .ptr 0 0 0), (8, .ptr 2 0 0), (9, .ptr 3 0 0), (18, .ro (L.map rowC)), (19, .int .i64 ((L.map rowC).length : Int)), (20, .int .i64 (k : Int))], [(0, some ⟨44, 28, 0, [rsiteC S]⟩), (1, some ⟨28, 2, 0, [spanC s]⟩), (2, some ⟨28, 2, 0, [[.int .i64 0, .int .i64 0]]⟩), (3, some ⟨81, 3, 0, [hullC (partH D (L.take k))]⟩)], [], 4⟩) (le_fit ⟨rfl, rfl, rfl, rfl, rfl, rfl, rfl, rfl, trivial⟩ ⟨.inr rfl, .inr rfl, .inr rfl, .inr rfl, trivial⟩ trivial rfl rfl rfl rfl rfl) ?_
    intro k hk
    refine zs ?_
    refine zR ?_
    refine zLB ?_
    refine zn ?_
    refine zs ?_
    refine W_cond (b := _) rfl (fun h21 => ?_) (fun h21 => ?_)
    · have hkt : k < L.length := by have := of_decide_eq_true h21; rw [List.length_map] at this; omega
      have hr := hlen k hkt
      have hrk : L.getD ((k : Nat) : Int).toNat default = L.getD k default := by rw [Int.toNat_natCast]
      have hnx : partH D (L.take (k + 1)) = (partG D (partH D (L.take k)) (L.getD k default) (L.getD k default).length).1 := take_fold _ _ hkt
      generalize L.getD k default = r at *
      generalize partH D (L.take k) = H at *
      refine zk ?_
      refine zs ?_
      refine W_block ?_
      refine zs ?_
      refine zR ?_
      (refine L_v Tb_ok (v := _) (ave_index_ro rfl rfl rfl (fun _ => rfl) rfl (by first | omega | assumption | decide | (simp_all; done) | (simp_all; omega)) (by first | omega | assumption | decide | (simp_all; done) | (simp_all; omega)) trivial) rfl ?_)
      refine zLO ?_
      simp only [hrk]
      refine zLO ?_
      refine zn ?_
      refine zs ?_
      refine zR ?_
      refine zal [.int .i64 0, .int .i64 0] 2 ?_
      refine zn ?_
      refine zs ?_
      refine zR ?_
      refine zLO ?_
      refine zLI ?_
      refine zLI ?_
      refine zn ?_
      refine W_block ?_
      refine W_for r.length (fun j => ⟨[(1, .int .i64 ch), (3, .int .i64 d), (4, .ptr 0 0 0), (8, .ptr 2 0 0), (9, .ptr 3 0 0), (18, .ro (L.map rowC)), (19, .int .i64 ((L.map rowC).length : Int)), (20, .int .i64 (k : Int)), (12, .ptr 4 0 0), (24, .ro (r.map spanC)), (25, .int .i64 ((r.map spanC).length : Int)), (26, .int .i64 (j : Int))], [(0, some ⟨44, 28, 0, [rsiteC S]⟩), (1, some ⟨28, 2, 0, [spanC s]⟩), (2, some ⟨28, 2, 0, [[.int .i64 0, .int .i64 0]]⟩), (3, some ⟨81, 3, 0, [hullC (partG D H r j).1]⟩), (4, some ⟨28, 2, 0, [spanC (partG D H r j).2]⟩)], [], 5⟩) (le_fit ⟨rfl, rfl, rfl, rfl, rfl, rfl, rfl, rfl, rfl, rfl, rfl, rfl, trivial⟩ ⟨.inr rfl, .inr rfl, .inr rfl, .inr rfl, .inr rfl, trivial⟩ trivial rfl rfl rfl rfl rfl) ?_
      intro j hj
      refine zs ?_
      refine zR ?_
      refine zLB ?_
      refine zn ?_
      refine zs ?_
      refine W_cond (b := _) rfl (fun h27 => ?_) (fun h27 => ?_)
      · have hjt : j < r.length := by have := of_decide_eq_true h27; rw [List.length_map] at this; omega
        refine zk ?_
        refine zs ?_
        refine W_block ?_
        refine zs ?_
        refine zR ?_
        refine zLI ?_
        (refine L_v Tb_ok (v := _) (ave_index_ro rfl rfl rfl (fun _ => rfl) rfl (by first | omega | assumption | decide | (simp_all; done) | (simp_all; omega)) (by first | omega | assumption | decide | (simp_all; done) | (simp_all; omega)) trivial) rfl ?_)
        refine zLG [.int _ _, .int _ _] ?_
        refine zal [.int .i64 0, .int .i64 0] 2 ?_
        refine zLI ?_
        refine zst (.agg [.int _ _, .int _ _]) [_, _] [[_, _]] ?_
        refine zn ?_
        refine zs ?_
        refine zs ?_
        refine zR ?_
        refine zLI ?_
        refine zLI ?_
        refine L_v Tb_ok (v := .int _ _) (av rfl ⟨trivial, (by exact hd0)⟩) rfl ?_
        refine zLB ?_
        refine zn ?_
        refine W_ift (b := _) (M := ⟨[(1, .int .i64 ch), (3, .int .i64 d), (4, .ptr 0 0 0), (8, .ptr 2 0 0), (9, .ptr 3 0 0), (18, .ro (L.map rowC)), (19, .int .i64 ((L.map rowC).length : Int)), (20, .int .i64 (k : Int)), (12, .ptr 4 0 0), (24, .ro (r.map spanC)), (25, .int .i64 ((r.map spanC).length : Int)), (26, .int .i64 (j : Int)), (14, .ptr 5 0 0)], [(0, some ⟨44, 28, 0, [rsiteC S]⟩), (1, some ⟨28, 2, 0, [spanC s]⟩), (2, some ⟨28, 2, 0, [[.int .i64 0, .int .i64 0]]⟩), (3, some ⟨81, 3, 0, [hullC (partG D H r j).1]⟩), (4, some ⟨28, 2, 0, [spanC (bif (j : Int).tmod d == 0 then (⟨0, 0⟩ : Span) else (partG D H r j).2)]⟩), (5, some ⟨28, 2, 0, [spanC (r.getD j default)]⟩)], [], 6⟩) (p := True) rfl (fun h34 => ?_) (fun h34 => ?_) (fun m34 => ?_)
        · refine zR ?_
          refine zLG [.int _ _, .int _ _] ?_
          refine zst (.agg [.int _ _, .int _ _]) [_, _] [[_, _]] ?_
          refine zn ?_
          exact ⟨trivial, le_t (F := fun X => ⟨[(1, .int .i64 ch), (3, .int .i64 d), (4, .ptr 0 0 0), (8, .ptr 2 0 0), (9, .ptr 3 0 0), (18, .ro (L.map rowC)), (19, .int .i64 ((L.map rowC).length : Int)), (20, .int .i64 (k : Int)), (12, .ptr 4 0 0), (24, .ro (r.map spanC)), (25, .int .i64 ((r.map spanC).length : Int)), (26, .int .i64 (j : Int)), (14, .ptr 5 0 0)], [(0, some ⟨44, 28, 0, [rsiteC S]⟩), (1, some ⟨28, 2, 0, [spanC s]⟩), (2, some ⟨28, 2, 0, [[.int .i64 0, .int .i64 0]]⟩), (3, some ⟨81, 3, 0, [hullC (partG D H r j).1]⟩), (4, some ⟨28, 2, 0, [spanC X]⟩), (5, some ⟨28, 2, 0, [spanC (r.getD j default)]⟩)], [], 6⟩) (x := (⟨0, 0⟩ : Span)) (y := (partG D H r j).2) h34 (le_fit ⟨rfl, rfl, rfl, rfl, rfl, rfl, rfl, rfl, rfl, rfl, rfl, rfl, rfl, trivial⟩ ⟨.inr rfl, .inr rfl, .inr rfl, .inr rfl, .inr rfl, .inr rfl, trivial⟩ trivial rfl rfl rfl rfl rfl)⟩
        · refine zk ?_
          exact ⟨trivial, le_f (F := fun X => ⟨[(1, .int .i64 ch), (3, .int .i64 d), (4, .ptr 0 0 0), (8, .ptr 2 0 0), (9, .ptr 3 0 0), (18, .ro (L.map rowC)), (19, .int .i64 ((L.map rowC).length : Int)), (20, .int .i64 (k : Int)), (12, .ptr 4 0 0), (24, .ro (r.map spanC)), (25, .int .i64 ((r.map spanC).length : Int)), (26, .int .i64 (j : Int)), (14, .ptr 5 0 0)], [(0, some ⟨44, 28, 0, [rsiteC S]⟩), (1, some ⟨28, 2, 0, [spanC s]⟩), (2, some ⟨28, 2, 0, [[.int .i64 0, .int .i64 0]]⟩), (3, some ⟨81, 3, 0, [hullC (partG D H r j).1]⟩), (4, some ⟨28, 2, 0, [spanC X]⟩), (5, some ⟨28, 2, 0, [spanC (r.getD j default)]⟩)], [], 6⟩) (x := (⟨0, 0⟩ : Span)) (y := (partG D H r j).2) h34 (le_fit ⟨rfl, rfl, rfl, rfl, rfl, rfl, rfl, rfl, rfl, rfl, rfl, rfl, rfl, trivial⟩ ⟨.inr rfl, .inr rfl, .inr rfl, .inr rfl, .inr rfl, .inr rfl, trivial⟩ trivial rfl rfl rfl rfl rfl)⟩
        refine zs ?_
        refine zR ?_
        refine zLG [.int _ _, .int _ _] ?_
        refine zLG [.int _ _, .int _ _] ?_
        refine zLc (ref13_plus _ _) ?_
        refine zst (.agg [.int _ _, .int _ _]) [_, _] [[_, _]] ?_
        refine zn ?_
        refine zs ?_
        refine zR ?_
        refine zLG [.int _ _, .int _ _] ?_
        refine L_inlM Tb_ok ⟨[(1, .int .i64 ch), (3, .int .i64 d), (4, .ptr 0 0 0), (8, .ptr 2 0 0), (9, .ptr 3 0 0), (18, .ro (L.map rowC)), (19, .int .i64 ((L.map rowC).length : Int)), (20, .int .i64 (k : Int)), (12, .ptr 4 0 0), (24, .ro (r.map spanC)), (25, .int .i64 ((r.map spanC).length : Int)), (26, .int .i64 (j : Int)), (14, .ptr 5 0 0)], [(0, some ⟨44, 28, 0, [rsiteC S]⟩), (1, some ⟨28, 2, 0, [spanC s]⟩), (2, some ⟨28, 2, 0, [[.int .i64 0, .int .i64 0]]⟩), (3, some ⟨81, 3, 0, [hullC (takeH (partG D H r j).1 (plusS (blkY d j (partG D H r j).2) (r.getD j default)))]⟩), (4, some ⟨28, 2, 0, [spanC (plusS (blkY d j (partG D H r j).2) (r.getD j default))]⟩), (5, some ⟨28, 2, 0, [spanC (r.getD j default)]⟩)], [], 6⟩ (fn := Try.f37) (e' := [(0, _), (1, _)]) Try.func37 rfl rfl rfl rfl rfl trivial (by decide) rfl ?_ ?_
        · refine zs ?_
          refine zR ?_
          refine zbx [.int _ _, .int _ _] 2 ?_
          refine zn ?_
          refine zs ?_
          refine zs ?_
          refine zR ?_
          refine zLP ?_
          refine zLP ?_
          refine zLP ?_
          refine zLB ?_
          refine zLB ?_
          refine zn ?_
          refine W_cond (b := _) rfl (fun h8 => ?_) (fun h8 => ?_)
          · have c8 : ((partG D H r j).1).some = false := by simpa using h8
            refine zs ?_
            refine zR ?_
            refine zLP ?_
            refine zLG [.int _ _, .int _ _] ?_
            refine zLP ?_
            refine zLP ?_
            refine zst (.agg [.int _ _, .int _ _]) [_, _] _ ?_
            refine zn ?_
            refine zs ?_
            refine zR ?_
            refine zLP ?_
            refine zLP ?_
            refine zLP ?_
            refine zst (.bool _) [_] _ ?_
            refine zn ?_
            refine zt ?_
            refine endsM (by exact .inr rfl) rfl trivial rfl ?_
            refine le_fit ⟨rfl, rfl, rfl, rfl, rfl, rfl, rfl, rfl, rfl, rfl, rfl, rfl, rfl, trivial⟩ ⟨.inr rfl, .inr rfl, .inr rfl, .inr ?_, .inr rfl, .inr rfl, trivial⟩ trivial rfl rfl rfl rfl rfl
            show some (Ob.mk 81 3 0 [[.int .i64 (plusS (blkY d j (partG D H r j).2) (r.getD j default)).Lo, .int .i64 (plusS (blkY d j (partG D H r j).2) (r.getD j default)).Hi, .bool true]]) = _
            rw [takeH_f c8]; rfl
          · have c8 : ((partG D H r j).1).some = true := by simpa using h8
            refine zk ?_
            refine zs ?_
            refine W_draw 9 Tb_mixed rfl (by decide) (by kernel_rfl) (by kernel_rfl) ?_
            refine zEP ?_
            refine zEP ?_
            refine zEP ?_
            refine zEP ?_
            refine zEP ?_
            refine zEI ?_
            refine zEP ?_
            refine zEI ?_
            refine zEI ?_
            refine LexE_nil ?_
            refine zLP ?_
            refine zLP ?_
            refine zLP ?_
            refine zst (.int _ _) [_] _ ?_
            refine zn ?_
            refine W_draw 9 Tb_mixed rfl (by decide) (by kernel_rfl) (by kernel_rfl) ?_
            refine zEP ?_
            refine zEP ?_
            refine zEP ?_
            refine zEP ?_
            refine zEP ?_
            refine zEI ?_
            refine zEP ?_
            refine zEI ?_
            refine zEI ?_
            refine LexE_nil ?_
            refine zLP ?_
            refine zLP ?_
            refine zLP ?_
            refine zst (.int _ _) [_] _ ?_
            refine zn ?_
            refine endsM (by exact .inl rfl) rfl trivial rfl ?_
            refine le_fit ⟨rfl, rfl, rfl, rfl, rfl, rfl, rfl, rfl, rfl, rfl, rfl, rfl, rfl, trivial⟩ ⟨.inr rfl, .inr rfl, .inr rfl, .inr ?_, .inr rfl, .inr rfl, trivial⟩ trivial rfl rfl rfl rfl rfl
            show some (Ob.mk 81 3 0 [[.int .i64 (mn ((partG D H r j).1).Lo (plusS (blkY d j (partG D H r j).2) (r.getD j default)).Lo), .int .i64 (mx ((partG D H r j).1).Hi (plusS (blkY d j (partG D H r j).2) (r.getD j default)).Hi), .bool ((partG D H r j).1).some]]) = _
            rw [c8, takeH_t c8]; rfl
        refine zn ?_
        refine zR ?_
        refine zLG [.int _ _, .int _ _] ?_
        refine L_inlM Tb_ok ⟨[(1, .int .i64 ch), (3, .int .i64 d), (4, .ptr 0 0 0), (8, .ptr 2 0 0), (9, .ptr 3 0 0), (18, .ro (L.map rowC)), (19, .int .i64 ((L.map rowC).length : Int)), (20, .int .i64 (k : Int)), (12, .ptr 4 0 0), (24, .ro (r.map spanC)), (25, .int .i64 ((r.map spanC).length : Int)), (26, .int .i64 (j : Int))], [(0, some ⟨44, 28, 0, [rsiteC S]⟩), (1, some ⟨28, 2, 0, [spanC s]⟩), (2, some ⟨28, 2, 0, [[.int .i64 0, .int .i64 0]]⟩), (3, some ⟨81, 3, 0, [hullC (takeH (takeH (partG D H r j).1 (plusS (blkY d j (partG D H r j).2) (r.getD j default))) (r.getD j default))]⟩), (4, some ⟨28, 2, 0, [spanC (plusS (blkY d j (partG D H r j).2) (r.getD j default))]⟩)], [], 5⟩ (fn := Try.f37) (e' := [(0, _), (1, _)]) Try.func37 rfl rfl rfl rfl rfl trivial (by decide) rfl ?_ ?_
        · refine zs ?_
          refine zR ?_
          refine zbx [.int _ _, .int _ _] 2 ?_
          refine zn ?_
          refine zs ?_
          refine zs ?_
          refine zR ?_
          refine zLP ?_
          refine zLP ?_
          refine zLP ?_
          refine zLB ?_
          refine zLB ?_
          refine zn ?_
          refine W_cond (b := _) rfl (fun h8_1 => ?_) (fun h8_1 => ?_)
          · have c8 : (takeH (partG D H r j).1 (plusS (blkY d j (partG D H r j).2) (r.getD j default))).some = false := by simpa using h8_1
            refine zs ?_
            refine zR ?_
            refine zLP ?_
            refine zLG [.int _ _, .int _ _] ?_
            refine zLP ?_
            refine zLP ?_
            refine zst (.agg [.int _ _, .int _ _]) [_, _] _ ?_
            refine zn ?_
            refine zs ?_
            refine zR ?_
            refine zLP ?_
            refine zLP ?_
            refine zLP ?_
            refine zst (.bool _) [_] _ ?_
            refine zn ?_
            refine zt ?_
            refine endsM (by exact .inr rfl) rfl trivial rfl ?_
            refine le_fit ⟨rfl, rfl, rfl, rfl, rfl, rfl, rfl, rfl, rfl, rfl, rfl, rfl, trivial⟩ ⟨.inr rfl, .inr rfl, .inr rfl, .inr ?_, .inr rfl, trivial⟩ trivial rfl rfl rfl rfl rfl
            show some (Ob.mk 81 3 0 [[.int .i64 (r.getD j default).Lo, .int .i64 (r.getD j default).Hi, .bool true]]) = _
            rw [takeH_f c8]; rfl
          · have c8 : (takeH (partG D H r j).1 (plusS (blkY d j (partG D H r j).2) (r.getD j default))).some = true := by rfl
            refine zk ?_
            refine zs ?_
            refine W_draw 9 Tb_mixed rfl (by decide) (by kernel_rfl) (by kernel_rfl) ?_
            refine zEP ?_
            refine zEP ?_
            refine zEP ?_
            refine zEP ?_
            refine zEP ?_
            refine zEI ?_
            refine zEP ?_
            refine zEI ?_
            refine zEI ?_
            refine LexE_nil ?_
            refine zLP ?_
            refine zLP ?_
            refine zLP ?_
            refine zst (.int _ _) [_] _ ?_
            refine zn ?_
            refine W_draw 9 Tb_mixed rfl (by decide) (by kernel_rfl) (by kernel_rfl) ?_
            refine zEP ?_
            refine zEP ?_
            refine zEP ?_
            refine zEP ?_
            refine zEP ?_
            refine zEI ?_
            refine zEP ?_
            refine zEI ?_
            refine zEI ?_
            refine LexE_nil ?_
            refine zLP ?_
            refine zLP ?_
            refine zLP ?_
            refine zst (.int _ _) [_] _ ?_
            refine zn ?_
            refine endsM (by exact .inl rfl) rfl trivial rfl ?_
            refine le_fit ⟨rfl, rfl, rfl, rfl, rfl, rfl, rfl, rfl, rfl, rfl, rfl, rfl, trivial⟩ ⟨.inr rfl, .inr rfl, .inr rfl, .inr ?_, .inr rfl, trivial⟩ trivial rfl rfl rfl rfl rfl
            show some (Ob.mk 81 3 0 [[.int .i64 (mn (takeH (partG D H r j).1 (plusS (blkY d j (partG D H r j).2) (r.getD j default))).Lo (r.getD j default).Lo), .int .i64 (mx (takeH (partG D H r j).1 (plusS (blkY d j (partG D H r j).2) (r.getD j default))).Hi (r.getD j default).Hi), .bool (takeH (partG D H r j).1 (plusS (blkY d j (partG D H r j).2) (r.getD j default))).some]]) = _
            rw [c8, takeH_t c8]; rfl
        refine zn ?_
        refine zR ?_
        refine zLI ?_
        refine zLI ?_
        refine zn ?_
        refine for_end hjt (le_fit ⟨rfl, rfl, rfl, rfl, rfl, rfl, rfl, rfl, rfl, rfl, rfl, congrArg _ (w_succ hjt (by omega)), trivial⟩ ⟨.inr rfl, .inr rfl, .inr rfl, .inr (by rw [blkY_eq hDd]; rfl), .inr (by rw [blkY_eq hDd]; rfl), trivial⟩ trivial rfl rfl rfl rfl rfl)
      · have hje : j = r.length := by have := of_decide_eq_false h27; rw [List.length_map] at this; omega
        refine W_exit ?_
        repeat (first | refine pass_then ?_ | refine pass_for ?_)
        refine blockQ_hit ?_
        refine zR ?_
        refine zLI ?_
        refine zLI ?_
        refine zn ?_
        refine for_end hkt (le_fit ⟨rfl, rfl, rfl, rfl, rfl, rfl, rfl, congrArg _ (w_succ hkt (by omega)), trivial⟩ ⟨.inr rfl, .inr rfl, .inr rfl, .inr ?_, trivial⟩ trivial rfl rfl rfl rfl rfl)
        show some (Ob.mk 81 3 0 [hullC (partG D H r j).1]) = _
        rw [hje, hnx]
    · have hke : k = L.length := by have := of_decide_eq_false h21; rw [List.length_map] at this; omega
      refine W_exit ?_
      repeat (first | refine pass_then ?_ | refine pass_for ?_)
      refine blockQ_hit ?_
      refine zs ?_
      refine zR ?_
      refine zLP ?_
      refine zLG [.int _ _, .int _ _] ?_
      refine zst (.agg [.int _ _, .int _ _]) [_, _] [[_, _]] ?_
      refine zn ?_
      refine zt ?_
      refine ends (l := [.agg [.int _ _, .int _ _]]) (q := .agg [.int _ _, .int _ _]) (.inr rfl) rfl ⟨rfl, trivial⟩ rfl rfl ?_
      rw [hke, List.take_length]; rfl
theorem ref13_Product (S : Site) (ch : Int) (s : Span) (L : List (List Span)) (hR : Ok Try.prog 34 [.agg (rsiteC S), .int .i64 ch, .agg (spanC s)] (.ro (L.map rowC))) (hlen : ∀ k, k < L.length → (L.getD k default).length ≤ 512) (hLL : L.length ≤ 1048576) : Ok Try.prog 14 [.agg (rsiteC S), .int .i64 ch, .agg (spanC s)] (.agg (spanC (hullS (partH 1 L)))) := by
    have hp := ref13_Part S ch 1 s L hR hlen hLL (by omega)
    --@@4
    skip
    refine fn_ok Tb_ok (fn := Try.f14) Try.func14 rfl rfl (e := [(0, _), (1, _), (2, _)]) rfl (by decide) rfl ?_
    refine zs ?_
    refine zR ?_
    refine zbx [.int _ _, .int _ _, .int _ _, .int _ _, .int _ _, .int _ _, .int _ _, .int _ _, .int _ _, .int _ _, .int _ _, .int _ _, _, _, .int _ _, .int _ _, .int _ _, .int _ _, .int _ _, .int _ _, .int _ _, .int _ _, .int _ _, .int _ _, .int _ _, .int _ _, .int _ _, .int _ _] 28 ?_
    refine zbx [.int _ _, .int _ _] 2 ?_
    refine zal [.int .i64 0, .int .i64 0] 2 ?_
    refine zn ?_
    refine zs ?_
    refine zR ?_
    refine zLG [.int _ _, .int _ _, .int _ _, .int _ _, .int _ _, .int _ _, .int _ _, .int _ _, .int _ _, .int _ _, .int _ _, .int _ _, _, _, .int _ _, .int _ _, .int _ _, .int _ _, .int _ _, .int _ _, .int _ _, .int _ _, .int _ _, .int _ _, .int _ _, .int _ _, .int _ _, .int _ _] ?_
    refine zLI ?_
    refine zLG [.int _ _, .int _ _] ?_
    refine zLc (hp) ?_
    refine zst (.agg [.int _ _, .int _ _]) [_, _] [[_, _]] ?_
    refine zn ?_
    refine zt ?_
    refine ends (l := [.agg [.int _ _, .int _ _]]) (q := .agg [.int _ _, .int _ _]) (.inr rfl) rfl ⟨rfl, trivial⟩ rfl rfl ?_
    rfl
end Go.AM
end
section
open Go Go.AM Go.Proofs
set_option maxRecDepth 10000
set_option linter.unusedVariables false
set_option linter.unusedSimpArgs false
namespace Go.AM
theorem law13_one : Ok Try.prog 33 [] (.agg (modelC mPlain)) := by
  refine fn_ok Tb_ok (fn := Try.f33) Try.func33 rfl rfl (e := []) rfl (by decide) rfl ?_
  refine zs ?_
  refine zR ?_
  refine zal [.int .i64 0, .int .i64 0, .int .i64 0, .int .i64 0, .int .i64 0, .nils, .int .i64 0] 7 ?_
  refine zn ?_
  refine zs ?_
  refine zR ?_
  refine zLG [.int _ _, .int _ _, .int _ _] ?_
  refine L_build Tb_ok (t := 37) (len := 2) (el := 92) (sz := 1) (es := [[_], [_]]) (z := [.int .i16 0]) rfl rfl rfl rfl rfl (by decide) trivial rfl rfl rfl rfl rfl ?_
  refine L_build Tb_ok (t := 38) (len := 1) (el := 21) (sz := 1) (es := [[_]]) (z := [.int .i32 0]) rfl rfl rfl rfl rfl (by decide) trivial rfl rfl rfl rfl rfl ?_
  refine zLG [.int _ _, .int _ _] ?_
  refine L_freeze (t := 2) (l := _) rfl rfl rfl rfl rfl rfl rfl ?_
  refine L_freeze (t := 3) (l := _) rfl rfl rfl rfl rfl rfl rfl ?_
  refine zLG [.int _ _, .int _ _, .int _ _, .int _ _, .int _ _, .int _ _, .int _ _, .int _ _, .int _ _, .int _ _, .int _ _, .int _ _, _, _, .int _ _, .int _ _, .int _ _, .int _ _, .int _ _, .int _ _, .int _ _, .int _ _] ?_
  refine L_build Tb_ok (t := 24) (len := 1) (el := 42) (sz := 22) (es := [[_, _, _, _, _, _, _, _, _, _, _, _, _, _, _, _, _, _, _, _, _, _]]) (z := [.int .i64 0, .int .i64 0, .int .i64 0, .int .i64 0, .int .i64 0, .int .i64 0, .int .i64 0, .int .i64 0, .int .i64 0, .int .i64 0, .int .i64 0, .int .i64 0, .nils, .nils, .int .i64 0, .int .i64 0, .int .i64 0, .int .i64 0, .int .i64 0, .int .i64 0, .int .i64 0, .int .i64 0]) rfl rfl rfl rfl rfl (by decide) trivial rfl rfl rfl rfl rfl ?_
  refine L_freeze (t := 6) (l := _) rfl rfl rfl rfl rfl rfl rfl ?_
  refine zLG [.int _ _, .int _ _, .int _ _, .int _ _, .int _ _, _, .int _ _] ?_
  refine zst (.agg [.int _ _, .int _ _, .int _ _, .int _ _, .int _ _, _, .int _ _]) [_, _, _, _, _, _, _] [[_, _, _, _, _, _, _]] ?_
  refine zn ?_
  refine zt ?_
  refine ends (l := [.agg [.int _ _, .int _ _, .int _ _, .int _ _, .int _ _, _, .int _ _]]) (q := .agg [.int _ _, .int _ _, .int _ _, .int _ _, .int _ _, _, .int _ _]) (.inr rfl) rfl ⟨rfl, trivial⟩ rfl rfl ?_
  rfl
theorem mp_Wf : mPlain.Wf := by
  simp [mPlain, Model.Wf, Shape.Wf, ListWf, MOp.Wf, Window.Wf, Scale.Wf, I64.iff, I32.iff, I16.iff, reachBytes]
theorem law13_fixed : Ok Try.prog 12 [] (.bool true) := by
  have h1 := bound_Total mPlain mp_Wf 1 1 ⟨0, 10⟩
  have h2 := bound_Run mPlain mp_Wf 1 1 ⟨0, 10⟩
  have h3 := bound_Part mPlain mp_Wf 1 1 ⟨0, 10⟩ 2
  have h4 := bound_Product mPlain mp_Wf 1 1 ⟨0, 10⟩
  have h5 := bound_Part mPlain mp_Wf 1 1 ⟨0, 10⟩ 3
  rw [show totS mPlain 1 1 ⟨0, 10⟩ = ⟨-19, 31⟩ by decide +kernel, show askE mPlain 1 1 ⟨0, 10⟩ = 0 by decide +kernel] at h1
  rw [show runS mPlain 1 1 ⟨0, 10⟩ = ⟨-19, 31⟩ by decide +kernel, show askE mPlain 1 1 ⟨0, 10⟩ = 0 by decide +kernel] at h2
  rw [show partS mPlain 1 1 ⟨0, 10⟩ 2 = ⟨-20, 30⟩ by decide +kernel, show partE mPlain 1 1 ⟨0, 10⟩ 2 = 0 by decide +kernel] at h3
  rw [show partS mPlain 1 1 ⟨0, 10⟩ 1 = ⟨-20, 30⟩ by decide +kernel, show partE mPlain 1 1 ⟨0, 10⟩ 1 = 0 by decide +kernel] at h4
  rw [show partS mPlain 1 1 ⟨0, 10⟩ 3 = ⟨0, 0⟩ by decide +kernel, show partE mPlain 1 1 ⟨0, 10⟩ 3 = 151 by decide +kernel] at h5
  --@@1
  skip
  refine fn_ok Tb_ok (fn := Try.f12) Try.func12 rfl rfl (e := []) rfl (by decide) rfl ?_
  refine zs ?_
  refine zR ?_
  refine zLB ?_
  refine zn ?_
  refine zs ?_
  refine zR ?_
  refine zLG [.int _ _, .int _ _] ?_
  refine zal [.int .i64 0, .int .i64 0] 2 ?_
  refine zst (.agg [.int _ _, .int _ _]) [_, _] [[_, _]] ?_
  refine zn ?_
  refine zs ?_
  refine W_drawF (fun e => []) 6 [[6, 7, 8]] Tb_mixed rfl (by decide) (by kernel_rfl) ?_
  refine zSc (law13_one) ?_
  refine zSG [.int _ _, .int _ _] ?_
  refine zSc (h1) ?_
  refine zST [_, _] ?_
  refine zSG [.int _ _, .int _ _] ?_
  refine zSI ?_
  refine S_nil ?_
  refine TT_one ?_
  refine TT_alloc Tb_ok (OSub_forget _ _) rfl (z := [.int .i64 0, .int .i64 0]) (n := 2) rfl rfl rfl rfl rfl rfl (fun ht1 => ?_)
  refine TT_store Tb_ok ht1 rfl (v := .agg [.int _ _, .int _ _]) (cs := [_, _]) (es' := [[_, _]]) rfl rfl rfl rfl rfl rfl rfl rfl rfl rfl rfl ⟨trivial, trivial⟩ (fun ht2 => ?_)
  refine TT_v Tb_ok ht2 rfl (v := .int _ _) (av rfl ⟨trivial, trivial⟩) rfl (fun ht3 => ?_)
  refine TT_nil ?_
  clear ht1 ht2 ht3
  refine zs ?_
  refine W_drawF (fun e => []) 6 [[6, 7, 8]] Tb_mixed rfl (by decide) (by kernel_rfl) ?_
  refine zSc (law13_one) ?_
  refine zSG [.int _ _, .int _ _] ?_
  refine zSc (h2) ?_
  refine zST [_, _] ?_
  refine zSG [.int _ _, .int _ _] ?_
  refine zSI ?_
  refine S_nil ?_
  refine TT_one ?_
  refine TT_alloc Tb_ok (OSub_forget _ _) rfl (z := [.int .i64 0, .int .i64 0]) (n := 2) rfl rfl rfl rfl rfl rfl (fun ht1 => ?_)
  refine TT_store Tb_ok ht1 rfl (v := .agg [.int _ _, .int _ _]) (cs := [_, _]) (es' := [[_, _]]) rfl rfl rfl rfl rfl rfl rfl rfl rfl rfl rfl ⟨trivial, trivial⟩ (fun ht2 => ?_)
  refine TT_v Tb_ok ht2 rfl (v := .int _ _) (av rfl ⟨trivial, trivial⟩) rfl (fun ht3 => ?_)
  refine TT_nil ?_
  clear ht1 ht2 ht3
  refine zs ?_
  refine W_drawF (fun e => []) 6 [[6, 7, 8]] Tb_mixed rfl (by decide) (by kernel_rfl) ?_
  refine zSc (law13_one) ?_
  refine zSG [.int _ _, .int _ _] ?_
  refine zSc (h3) ?_
  refine zST [_, _] ?_
  refine zSG [.int _ _, .int _ _] ?_
  refine zSI ?_
  refine S_nil ?_
  refine TT_one ?_
  refine TT_alloc Tb_ok (OSub_forget _ _) rfl (z := [.int .i64 0, .int .i64 0]) (n := 2) rfl rfl rfl rfl rfl rfl (fun ht1 => ?_)
  refine TT_store Tb_ok ht1 rfl (v := .agg [.int _ _, .int _ _]) (cs := [_, _]) (es' := [[_, _]]) rfl rfl rfl rfl rfl rfl rfl rfl rfl rfl rfl ⟨trivial, trivial⟩ (fun ht2 => ?_)
  refine TT_v Tb_ok ht2 rfl (v := .int _ _) (av rfl ⟨trivial, trivial⟩) rfl (fun ht3 => ?_)
  refine TT_nil ?_
  clear ht1 ht2 ht3
  refine zs ?_
  refine W_drawF (fun e => []) 6 [[6, 7, 8]] Tb_mixed rfl (by decide) (by kernel_rfl) ?_
  refine zSc (law13_one) ?_
  refine zSG [.int _ _, .int _ _] ?_
  refine zSc (h4) ?_
  refine zST [_, _] ?_
  refine zSG [.int _ _, .int _ _] ?_
  refine zSI ?_
  refine S_nil ?_
  refine TT_one ?_
  refine TT_alloc Tb_ok (OSub_forget _ _) rfl (z := [.int .i64 0, .int .i64 0]) (n := 2) rfl rfl rfl rfl rfl rfl (fun ht1 => ?_)
  refine TT_store Tb_ok ht1 rfl (v := .agg [.int _ _, .int _ _]) (cs := [_, _]) (es' := [[_, _]]) rfl rfl rfl rfl rfl rfl rfl rfl rfl rfl rfl ⟨trivial, trivial⟩ (fun ht2 => ?_)
  refine TT_v Tb_ok ht2 rfl (v := .int _ _) (av rfl ⟨trivial, trivial⟩) rfl (fun ht3 => ?_)
  refine TT_nil ?_
  clear ht1 ht2 ht3
  refine zs ?_
  refine W_drawF (fun e => []) 6 [[6, 7, 8]] Tb_mixed rfl (by decide) (by kernel_rfl) ?_
  refine zSc (law13_one) ?_
  refine zSG [.int _ _, .int _ _] ?_
  refine zSc (h5) ?_
  refine zST [_, _] ?_
  refine zSG [.int _ _, .int _ _] ?_
  refine zSI ?_
  refine S_nil ?_
  refine TT_one ?_
  refine TT_alloc Tb_ok (OSub_forget _ _) rfl (z := [.int .i64 0, .int .i64 0]) (n := 2) rfl rfl rfl rfl rfl rfl (fun ht1 => ?_)
  refine TT_store Tb_ok ht1 rfl (v := .agg [.int _ _, .int _ _]) (cs := [_, _]) (es' := [[_, _]]) rfl rfl rfl rfl rfl rfl rfl rfl rfl rfl rfl ⟨trivial, trivial⟩ (fun ht2 => ?_)
  refine TT_v Tb_ok ht2 rfl (v := .int _ _) (av rfl ⟨trivial, trivial⟩) rfl (fun ht3 => ?_)
  refine TT_nil ?_
  clear ht1 ht2 ht3
  refine zs ?_
  refine zR ?_
  refine zLG [.int _ _, .int _ _] ?_
  refine zLG [.int _ _, .int _ _] ?_
  refine zLB ?_
  refine zLB ?_
  refine zgLG [.int _ _, .int _ _] ?_
  refine zgLG [.int _ _, .int _ _] ?_
  refine zgLB ?_
  refine zpLB ?_
  refine zLB ?_
  refine zgLG [.int _ _, .int _ _] ?_
  refine zgLG [.int _ _, .int _ _] ?_
  refine zgLB ?_
  refine zpLB ?_
  refine zLB ?_
  refine zgLG [.int _ _, .int _ _] ?_
  refine zgLG [.int _ _, .int _ _] ?_
  refine zgLB ?_
  refine zpLB ?_
  refine zLB ?_
  refine zgLI ?_
  refine zgLB ?_
  refine zpLB ?_
  refine zLB ?_
  refine zgLI ?_
  refine zgLB ?_
  refine zpLB ?_
  refine zLB ?_
  refine zgLI ?_
  refine zgLB ?_
  refine zpLB ?_
  refine zLB ?_
  refine zgLI ?_
  refine zgLB ?_
  refine zpLB ?_
  refine zLB ?_
  refine zgLI ?_
  refine zgLB ?_
  refine zpLB ?_
  refine zLB ?_
  refine zn ?_
  refine zt ?_
  refine ends (l := [.bool _]) (q := .bool _) (.inr rfl) rfl ⟨trivial, trivial⟩ rfl rfl ?_
  rfl
end Go.AM
end
section
open Go Go.AM Go.Proofs
set_option maxRecDepth 10000
set_option linter.unusedVariables false
set_option linter.unusedSimpArgs false
namespace Go.AM
theorem partE_one (m : Model) (op ch : Int) (s : Span) : partE m op ch s 1 = askE m op ch s := by
  unfold partE
  by_cases h : askE m op ch s = 0
  · have := (site_ok (askE_zero h).2.2).1.len
    rw [if_pos h, if_neg (by omega), h]
  · rw [if_neg h]
theorem rowsF_len {m : Model} {op ch : Int} {s : Span} (h : askE m op ch s = 0) : (rowsF m op ch s).length ≤ 1048576 := by
  obtain ⟨z, hs, f0⟩ := askE_zero h
  obtain ⟨hS, _⟩ := site_ok f0
  obtain ⟨_, _, p3⟩ := out_pos hS
  have O := shapeB_iff.1 hS.outB
  have : (findS m op).Out.H * (findS m op).Out.W ≤ 1024 * 1024 := Int.mul_le_mul O.1.2 O.2.1.2 (by omega) (by omega)
  simp [rowsF, posN]; omega
theorem r13 {m : Model} (hm : m.Wf) {op ch : Int} {s : Span} (h : askE m op ch s = 0) :
    Ok Try.prog 13 [.agg (rsiteC (rcS m op ch)), .int .i64 ch, .agg (spanC s)] (.agg (spanC (totS m op ch s))) ∧
    Ok Try.prog 16 [.agg (rsiteC (rcS m op ch)), .int .i64 ch, .agg (spanC s)] (.agg (spanC (runS m op ch s))) ∧
    (∀ d : Int, partE m op ch s d = 0 → Ok Try.prog 19 [.agg (rsiteC (rcS m op ch)), .int .i64 ch, .agg (spanC s), .int .i64 d] (.agg (spanC (partS m op ch s d)))) ∧
    Ok Try.prog 14 [.agg (rsiteC (rcS m op ch)), .int .i64 ch, .agg (spanC s)] (.agg (spanC (partS m op ch s 1))) := by
  obtain ⟨z, hs, f0⟩ := askE_zero h
  obtain ⟨_, fb, _⟩ := ofE_op z
  obtain ⟨hS, _⟩ := site_ok f0
  obtain ⟨hch, _⟩ := (ofBad_iff hS).1 fb
  obtain ⟨e1, e2⟩ := (rc_ok f0).1 hch
  rw [e2]
  have hR := ref13_Rows hm z hs
  have hB := ref10_Bias (findS m op) ch (bias_ix hS hch)
  rw [← bias_eq f0 fb] at hB
  have hG := ref13_begin _ _ _ hB
  have hlen := fun k hk => @rowsF_len512 m op ch s k hk
  have hLL := rowsF_len h
  refine ⟨?_, ?_, fun d hd => ?_, ?_⟩
  · rw [totS, if_pos h]; exact ref13_Total _ _ _ _ _ hR hG hlen hLL
  · rw [runS, if_pos h]; exact ref13_Run _ _ _ _ _ hR hG hlen hLL
  · rw [partS, if_pos hd]
    refine ref13_Part _ _ _ _ _ hR hlen hLL ?_
    unfold partE at hd
    rw [if_pos h] at hd
    split at hd <;> omega
  · rw [partS, if_pos (by rw [partE_one]; exact h)]; exact ref13_Product _ _ _ _ hR hlen hLL
theorem boundTotals (a : Ask13) (ha : a.Wf) : Ok Try.prog 3 [.agg (ask13C a)] (.bool true) := by
  have hP := bound_Product a.M ha.1 a.Op a.Ch a.S
  rw [partE_one] at hP
  have hc56 : (bif (bif false then true else (askE a.M a.Op a.Ch a.S != askE a.M a.Op a.Ch a.S)) then true else (askE a.M a.Op a.Ch a.S != askE a.M a.Op a.Ch a.S)) = false := by simp
  --@@1
  skip
  refine fn_ok Tb_ok (fn := Try.f3) Try.func3 rfl rfl (e := [(0, _)]) rfl (by decide) rfl ?_
  refine zs ?_
  refine zR ?_
  refine zbx [.int _ _, .int _ _, .int _ _, .int _ _, .int _ _, _, .int _ _, .int _ _, .int _ _, .int _ _, .int _ _, .int _ _, .int _ _, _] 14 ?_
  refine zLB ?_
  refine zn ?_
  refine zs ?_
  refine zR ?_
  refine zLP ?_
  refine zLG [.int _ _, .int _ _, .int _ _, .int _ _, .int _ _, _, .int _ _] ?_
  refine zLP ?_
  refine zLI ?_
  refine zLP ?_
  refine zLI ?_
  refine zLP ?_
  refine zLG [.int _ _, .int _ _] ?_
  refine zLc (bound_Total a.M ha.1 a.Op a.Ch a.S) ?_
  refine zLT [_, _] ?_
  refine zLG [.int _ _, .int _ _] ?_
  refine zLI ?_
  refine zal [.int .i64 0, .int .i64 0] 2 ?_
  refine zst (.agg [.int _ _, .int _ _]) [_, _] [[_, _]] ?_
  refine zLI ?_
  refine zn ?_
  refine zs ?_
  refine zR ?_
  refine zLP ?_
  refine zLG [.int _ _, .int _ _, .int _ _, .int _ _, .int _ _, _, .int _ _] ?_
  refine zLP ?_
  refine zLI ?_
  refine zLP ?_
  refine zLI ?_
  refine zLP ?_
  refine zLG [.int _ _, .int _ _] ?_
  refine zLc (hP) ?_
  refine zLT [_, _] ?_
  refine zLG [.int _ _, .int _ _] ?_
  refine zLI ?_
  refine zal [.int .i64 0, .int .i64 0] 2 ?_
  refine zst (.agg [.int _ _, .int _ _]) [_, _] [[_, _]] ?_
  refine zLI ?_
  refine zn ?_
  refine zs ?_
  refine zR ?_
  refine zLP ?_
  refine zLG [.int _ _, .int _ _, .int _ _, .int _ _, .int _ _, _, .int _ _] ?_
  refine zLP ?_
  refine zLI ?_
  refine zLP ?_
  refine zLI ?_
  refine zLP ?_
  refine zLG [.int _ _, .int _ _] ?_
  refine zLc (ref13_Find a.M ha.1 a.Op a.Ch a.S) ?_
  refine zLT [_, _] ?_
  refine zLG [.int _ _, .int _ _, .int _ _, .int _ _, .int _ _, .int _ _, .int _ _, .int _ _, .int _ _, .int _ _, .int _ _, .int _ _, _, _, .int _ _, .int _ _, .int _ _, .int _ _, .int _ _, .int _ _, .int _ _, .int _ _, .int _ _, .int _ _, .int _ _, .int _ _, .int _ _, .int _ _] ?_
  refine zLI ?_
  refine zal [.int .i64 0, .int .i64 0, .int .i64 0, .int .i64 0, .int .i64 0, .int .i64 0, .int .i64 0, .int .i64 0, .int .i64 0, .int .i64 0, .int .i64 0, .int .i64 0, .nils, .nils, .int .i64 0, .int .i64 0, .int .i64 0, .int .i64 0, .int .i64 0, .int .i64 0, .int .i64 0, .int .i64 0, .int .i64 0, .int .i64 0, .int .i64 0, .int .i64 0, .int .i64 0, .int .i64 0] 28 ?_
  refine zst (.agg [.int _ _, .int _ _, .int _ _, .int _ _, .int _ _, .int _ _, .int _ _, .int _ _, .int _ _, .int _ _, .int _ _, .int _ _, _, _, .int _ _, .int _ _, .int _ _, .int _ _, .int _ _, .int _ _, .int _ _, .int _ _, .int _ _, .int _ _, .int _ _, .int _ _, .int _ _, .int _ _]) [_, _, _, _, _, _, _, _, _, _, _, _, _, _, _, _, _, _, _, _, _, _, _, _, _, _, _, _] [[_, _, _, _, _, _, _, _, _, _, _, _, _, _, _, _, _, _, _, _, _, _, _, _, _, _, _, _]] ?_
  refine zLI ?_
  refine zn ?_
  refine zs ?_
  refine zs ?_
  refine zR ?_
  refine zLc (law13_fixed) ?_
  refine zLB ?_
  refine zLB ?_
  refine zgLI ?_
  refine zgLI ?_
  refine zgLB ?_
  refine zpLB ?_
  refine zLB ?_
  refine zgLI ?_
  refine zgLI ?_
  refine zgLB ?_
  refine zpLB ?_
  refine zn ?_
  refine W_cond_f (b := _) rfl (by exact hc56) ?_
  refine zk ?_
  refine zs ?_
  refine zs ?_
  refine zR ?_
  refine zLI ?_
  refine zLB ?_
  refine zn ?_
  refine W_cond (b := _) rfl (fun h58 => ?_) (fun h58 => ?_)
  · have hz : ¬ askE a.M a.Op a.Ch a.S = 0 := by simpa using h58
    refine zs ?_
    refine zR ?_
    refine zLG [.int _ _, .int _ _] ?_
    refine zLG [.int _ _, .int _ _] ?_
    refine zLB ?_
    refine zLB ?_
    refine zgLG [.int _ _, .int _ _] ?_
    refine zgLG [.int _ _, .int _ _] ?_
    refine zgLB ?_
    refine zpLB ?_
    refine zLB ?_
    refine zn ?_
    refine zt ?_
    refine ends (l := [.bool _]) (q := .bool _) (.inr rfl) rfl ⟨trivial, trivial⟩ rfl rfl ?_
    rw [totS, if_neg hz, partS, if_neg (by rw [partE_one]; exact hz)]; rfl
  · have hz : askE a.M a.Op a.Ch a.S = 0 := by simpa using h58
    obtain ⟨r1, r2, r3, r4⟩ := r13 ha.1 hz
    refine zk ?_
    refine zs ?_
    refine W_draw 19 Tb_mixed rfl (by decide) (by kernel_rfl) (by kernel_rfl) ?_
    refine zEG [.int _ _, .int _ _] ?_
    refine zEG [.int _ _, .int _ _, .int _ _, .int _ _, .int _ _, .int _ _, .int _ _, .int _ _, .int _ _, .int _ _, .int _ _, .int _ _, _, _, .int _ _, .int _ _, .int _ _, .int _ _, .int _ _, .int _ _, .int _ _, .int _ _, .int _ _, .int _ _, .int _ _, .int _ _, .int _ _, .int _ _] ?_
    refine zEP ?_
    refine zEI ?_
    refine zEP ?_
    refine zEG [.int _ _, .int _ _] ?_
    refine zEc (r1) ?_
    refine zEB ?_
    refine zEB ?_
    refine zgEG [.int _ _, .int _ _] ?_
    refine zgEG [.int _ _, .int _ _, .int _ _, .int _ _, .int _ _, .int _ _, .int _ _, .int _ _, .int _ _, .int _ _, .int _ _, .int _ _, _, _, .int _ _, .int _ _, .int _ _, .int _ _, .int _ _, .int _ _, .int _ _, .int _ _, .int _ _, .int _ _, .int _ _, .int _ _, .int _ _, .int _ _] ?_
    refine zgEP ?_
    refine zgEI ?_
    refine zgEP ?_
    refine zgEG [.int _ _, .int _ _] ?_
    refine E_callg (hr := fun hg => r4) rfl rfl rfl rfl rfl (fun hg => ⟨⟨(by exact hg), True.intro⟩, ⟨⟨(by exact hg), True.intro⟩, ⟨⟨(by exact hg), True.intro⟩, True.intro⟩⟩⟩) rfl rfl ?_
    refine zgEB ?_
    refine zpEB ?_
    refine zEB ?_
    refine LexE_nil ?_
    refine zn ?_
    refine zt ?_
    refine ends (l := [.bool _]) (q := .bool _) (.inr rfl) rfl ⟨trivial, trivial⟩ rfl rfl ?_
    simp
theorem boundRuns (a : Ask13) (ha : a.Wf) : Ok Try.prog 4 [.agg (ask13C a)] (.bool true) := by
  have hc37 : (bif false then true else (askE a.M a.Op a.Ch a.S != askE a.M a.Op a.Ch a.S)) = false := by simp
  --@@2
  skip
  refine fn_ok Tb_ok (fn := Try.f4) Try.func4 rfl rfl (e := [(0, _)]) rfl (by decide) rfl ?_
  refine zs ?_
  refine zR ?_
  refine zbx [.int _ _, .int _ _, .int _ _, .int _ _, .int _ _, _, .int _ _, .int _ _, .int _ _, .int _ _, .int _ _, .int _ _, .int _ _, _] 14 ?_
  refine zLB ?_
  refine zn ?_
  refine zs ?_
  refine zR ?_
  refine zLP ?_
  refine zLG [.int _ _, .int _ _, .int _ _, .int _ _, .int _ _, _, .int _ _] ?_
  refine zLP ?_
  refine zLI ?_
  refine zLP ?_
  refine zLI ?_
  refine zLP ?_
  refine zLG [.int _ _, .int _ _] ?_
  refine zLc (bound_Run a.M ha.1 a.Op a.Ch a.S) ?_
  refine zLT [_, _] ?_
  refine zLG [.int _ _, .int _ _] ?_
  refine zLI ?_
  refine zal [.int .i64 0, .int .i64 0] 2 ?_
  refine zst (.agg [.int _ _, .int _ _]) [_, _] [[_, _]] ?_
  refine zLI ?_
  refine zn ?_
  refine zs ?_
  refine zR ?_
  refine zLP ?_
  refine zLG [.int _ _, .int _ _, .int _ _, .int _ _, .int _ _, _, .int _ _] ?_
  refine zLP ?_
  refine zLI ?_
  refine zLP ?_
  refine zLI ?_
  refine zLP ?_
  refine zLG [.int _ _, .int _ _] ?_
  refine zLc (ref13_Find a.M ha.1 a.Op a.Ch a.S) ?_
  refine zLT [_, _] ?_
  refine zLG [.int _ _, .int _ _, .int _ _, .int _ _, .int _ _, .int _ _, .int _ _, .int _ _, .int _ _, .int _ _, .int _ _, .int _ _, _, _, .int _ _, .int _ _, .int _ _, .int _ _, .int _ _, .int _ _, .int _ _, .int _ _, .int _ _, .int _ _, .int _ _, .int _ _, .int _ _, .int _ _] ?_
  refine zLI ?_
  refine zal [.int .i64 0, .int .i64 0, .int .i64 0, .int .i64 0, .int .i64 0, .int .i64 0, .int .i64 0, .int .i64 0, .int .i64 0, .int .i64 0, .int .i64 0, .int .i64 0, .nils, .nils, .int .i64 0, .int .i64 0, .int .i64 0, .int .i64 0, .int .i64 0, .int .i64 0, .int .i64 0, .int .i64 0, .int .i64 0, .int .i64 0, .int .i64 0, .int .i64 0, .int .i64 0, .int .i64 0] 28 ?_
  refine zst (.agg [.int _ _, .int _ _, .int _ _, .int _ _, .int _ _, .int _ _, .int _ _, .int _ _, .int _ _, .int _ _, .int _ _, .int _ _, _, _, .int _ _, .int _ _, .int _ _, .int _ _, .int _ _, .int _ _, .int _ _, .int _ _, .int _ _, .int _ _, .int _ _, .int _ _, .int _ _, .int _ _]) [_, _, _, _, _, _, _, _, _, _, _, _, _, _, _, _, _, _, _, _, _, _, _, _, _, _, _, _] [[_, _, _, _, _, _, _, _, _, _, _, _, _, _, _, _, _, _, _, _, _, _, _, _, _, _, _, _]] ?_
  refine zLI ?_
  refine zn ?_
  refine zs ?_
  refine zs ?_
  refine zR ?_
  refine zLc (law13_fixed) ?_
  refine zLB ?_
  refine zLB ?_
  refine zgLI ?_
  refine zgLI ?_
  refine zgLB ?_
  refine zpLB ?_
  refine zn ?_
  refine W_cond_f (b := _) rfl (by exact hc37) ?_
  refine zk ?_
  refine zs ?_
  refine zs ?_
  refine zR ?_
  refine zLI ?_
  refine zLB ?_
  refine zn ?_
  refine W_cond (b := _) rfl (fun h39 => ?_) (fun h39 => ?_)
  · have hz : ¬ askE a.M a.Op a.Ch a.S = 0 := by simpa using h39
    refine zs ?_
    refine zR ?_
    refine zLG [.int _ _, .int _ _] ?_
    refine zLG [.int _ _, .int _ _] ?_
    refine zLB ?_
    refine zLB ?_
    refine zn ?_
    refine zt ?_
    refine ends (l := [.bool _]) (q := .bool _) (.inr rfl) rfl ⟨trivial, trivial⟩ rfl rfl ?_
    rw [runS, if_neg hz]; rfl
  · have hz : askE a.M a.Op a.Ch a.S = 0 := by simpa using h39
    refine zk ?_
    refine zs ?_
    refine W_draw 9 Tb_mixed rfl (by decide) (by kernel_rfl) (by kernel_rfl) ?_
    refine zEG [.int _ _, .int _ _] ?_
    refine zEG [.int _ _, .int _ _, .int _ _, .int _ _, .int _ _, .int _ _, .int _ _, .int _ _, .int _ _, .int _ _, .int _ _, .int _ _, _, _, .int _ _, .int _ _, .int _ _, .int _ _, .int _ _, .int _ _, .int _ _, .int _ _, .int _ _, .int _ _, .int _ _, .int _ _, .int _ _, .int _ _] ?_
    refine zEP ?_
    refine zEI ?_
    refine zEP ?_
    refine zEG [.int _ _, .int _ _] ?_
    refine zEc ((r13 ha.1 hz).2.1) ?_
    refine zEB ?_
    refine zEB ?_
    refine LexE_nil ?_
    refine zn ?_
    refine zt ?_
    refine ends (l := [.bool _]) (q := .bool _) (.inr rfl) rfl ⟨trivial, trivial⟩ rfl rfl ?_
    simp
theorem partX (m : Model) (op ch : Int) (s : Span) (d : Int) : (bif (bif askE m op ch s == 0 then (bif decide (d < 1) then true else decide (d > lenF (rcS m op ch).Op (rcS m op ch).In)) else false) then (151 : Int) else askE m op ch s) = partE m op ch s d := by
  unfold partE
  by_cases h : askE m op ch s = 0
  · obtain ⟨z, hs, f0⟩ := askE_zero h
    obtain ⟨_, fb, _⟩ := ofE_op z
    obtain ⟨hS, _⟩ := site_ok f0
    obtain ⟨hch, _⟩ := (ofBad_iff hS).1 fb
    obtain ⟨e1, e2⟩ := (rc_ok f0).1 hch
    rw [if_pos h, h, e2, lenF_site f0]
    by_cases c : d < 1
    · simp [c]
    · by_cases c2 : d > (findS m op).Len <;> simp [c, c2]
  · rw [if_neg h, show (askE m op ch s == 0) = false by simp [h]]; rfl
theorem partE_zero {m : Model} {op ch : Int} {s : Span} {d : Int} (h : partE m op ch s d = 0) : askE m op ch s = 0 := by
  unfold partE at h
  split at h
  · assumption
  · exact h
theorem boundParts (a : Ask13) (ha : a.Wf) : Ok Try.prog 5 [.agg (ask13C a)] (.bool true) := by
  have hX := partX a.M a.Op a.Ch a.S a.Depth
  have hc53 : (bif false then true else (partE a.M a.Op a.Ch a.S a.Depth != partE a.M a.Op a.Ch a.S a.Depth)) = false := by simp
  --@@3
  skip
  refine fn_ok Tb_ok (fn := Try.f5) Try.func5 rfl rfl (e := [(0, _)]) rfl (by decide) rfl ?_
  refine zs ?_
  refine zR ?_
  refine zbx [.int _ _, .int _ _, .int _ _, .int _ _, .int _ _, _, .int _ _, .int _ _, .int _ _, .int _ _, .int _ _, .int _ _, .int _ _, _] 14 ?_
  refine zLB ?_
  refine zn ?_
  refine zs ?_
  refine zR ?_
  refine zLP ?_
  refine zLG [.int _ _, .int _ _, .int _ _, .int _ _, .int _ _, _, .int _ _] ?_
  refine zLP ?_
  refine zLI ?_
  refine zLP ?_
  refine zLI ?_
  refine zLP ?_
  refine zLG [.int _ _, .int _ _] ?_
  refine zLP ?_
  refine zLI ?_
  refine zLc (bound_Part a.M ha.1 a.Op a.Ch a.S a.Depth) ?_
  refine zLT [_, _] ?_
  refine zLG [.int _ _, .int _ _] ?_
  refine zLI ?_
  refine zal [.int .i64 0, .int .i64 0] 2 ?_
  refine zst (.agg [.int _ _, .int _ _]) [_, _] [[_, _]] ?_
  refine zLI ?_
  refine zn ?_
  refine zs ?_
  refine zR ?_
  refine zLP ?_
  refine zLG [.int _ _, .int _ _, .int _ _, .int _ _, .int _ _, _, .int _ _] ?_
  refine zLP ?_
  refine zLI ?_
  refine zLP ?_
  refine zLI ?_
  refine zLP ?_
  refine zLG [.int _ _, .int _ _] ?_
  refine zLc (ref13_Find a.M ha.1 a.Op a.Ch a.S) ?_
  refine zLT [_, _] ?_
  refine zLG [.int _ _, .int _ _, .int _ _, .int _ _, .int _ _, .int _ _, .int _ _, .int _ _, .int _ _, .int _ _, .int _ _, .int _ _, _, _, .int _ _, .int _ _, .int _ _, .int _ _, .int _ _, .int _ _, .int _ _, .int _ _, .int _ _, .int _ _, .int _ _, .int _ _, .int _ _, .int _ _] ?_
  refine zLI ?_
  refine zal [.int .i64 0, .int .i64 0, .int .i64 0, .int .i64 0, .int .i64 0, .int .i64 0, .int .i64 0, .int .i64 0, .int .i64 0, .int .i64 0, .int .i64 0, .int .i64 0, .nils, .nils, .int .i64 0, .int .i64 0, .int .i64 0, .int .i64 0, .int .i64 0, .int .i64 0, .int .i64 0, .int .i64 0, .int .i64 0, .int .i64 0, .int .i64 0, .int .i64 0, .int .i64 0, .int .i64 0] 28 ?_
  refine zst (.agg [.int _ _, .int _ _, .int _ _, .int _ _, .int _ _, .int _ _, .int _ _, .int _ _, .int _ _, .int _ _, .int _ _, .int _ _, _, _, .int _ _, .int _ _, .int _ _, .int _ _, .int _ _, .int _ _, .int _ _, .int _ _, .int _ _, .int _ _, .int _ _, .int _ _, .int _ _, .int _ _]) [_, _, _, _, _, _, _, _, _, _, _, _, _, _, _, _, _, _, _, _, _, _, _, _, _, _, _, _] [[_, _, _, _, _, _, _, _, _, _, _, _, _, _, _, _, _, _, _, _, _, _, _, _, _, _, _, _]] ?_
  refine zLI ?_
  refine zn ?_
  refine zs ?_
  refine zs ?_
  refine W_draw 14 Tb_mixed rfl (by decide) (by kernel_rfl) (by kernel_rfl) ?_
  refine zEI ?_
  refine zEB ?_
  refine zEB ?_
  refine zgEP ?_
  refine zgEI ?_
  refine zgEB ?_
  refine zgEB ?_
  refine zgEP ?_
  refine zgEI ?_
  refine zgEG [.int _ _, .int _ _, .int _ _, .int _ _, .int _ _, .int _ _, .int _ _, .int _ _, .int _ _, .int _ _, .int _ _, .int _ _, _, _, .int _ _, .int _ _, .int _ _, .int _ _, .int _ _, .int _ _, .int _ _, .int _ _, .int _ _, .int _ _, .int _ _, .int _ _, .int _ _, .int _ _] ?_
  refine E_callg (hr := fun hg => ref10_Length _) rfl rfl rfl rfl rfl (fun hg => ⟨⟨(by exact hg), True.intro⟩, True.intro⟩) rfl rfl ?_
  refine zgEB ?_
  refine zqEB ?_
  refine zpEB ?_
  refine LexE_nil ?_
  refine zn ?_
  refine W_ift (b := _) (M := ⟨[(1, .ptr 0 0 0), (3, .ptr 1 0 0), (4, .int .i64 (partE a.M a.Op a.Ch a.S a.Depth)), (5, .ptr 2 0 0), (6, .int .i64 (bif bif askE a.M a.Op a.Ch a.S == 0 then (bif decide (a.Depth < 1) then true else decide (a.Depth > lenF (rcS a.M a.Op a.Ch).Op (rcS a.M a.Op a.Ch).In)) else false then (151 : Int) else askE a.M a.Op a.Ch a.S))], [(0, some ⟨31, 14, 0, [ask13C a]⟩), (1, some ⟨28, 2, 0, [spanC (partS a.M a.Op a.Ch a.S a.Depth)]⟩), (2, some ⟨44, 28, 0, [rsiteC (rcS a.M a.Op a.Ch)]⟩)], [], 3⟩) (p := True) rfl (fun h46 => ?_) (fun h46 => ?_) (fun m46 => ?_)
  · refine zR ?_
    refine zLI ?_
    refine zn ?_
    exact ⟨trivial, le_t (F := fun X => ⟨[(1, .ptr 0 0 0), (3, .ptr 1 0 0), (4, .int .i64 (partE a.M a.Op a.Ch a.S a.Depth)), (5, .ptr 2 0 0), (6, .int .i64 X)], [(0, some ⟨31, 14, 0, [ask13C a]⟩), (1, some ⟨28, 2, 0, [spanC (partS a.M a.Op a.Ch a.S a.Depth)]⟩), (2, some ⟨44, 28, 0, [rsiteC (rcS a.M a.Op a.Ch)]⟩)], [], 3⟩) (x := (151 : Int)) (y := askE a.M a.Op a.Ch a.S) h46 (le_fit ⟨rfl, rfl, rfl, rfl, rfl, trivial⟩ ⟨.inr rfl, .inr rfl, .inr rfl, trivial⟩ trivial rfl rfl rfl rfl rfl)⟩
  · refine zk ?_
    exact ⟨trivial, le_f (F := fun X => ⟨[(1, .ptr 0 0 0), (3, .ptr 1 0 0), (4, .int .i64 (partE a.M a.Op a.Ch a.S a.Depth)), (5, .ptr 2 0 0), (6, .int .i64 X)], [(0, some ⟨31, 14, 0, [ask13C a]⟩), (1, some ⟨28, 2, 0, [spanC (partS a.M a.Op a.Ch a.S a.Depth)]⟩), (2, some ⟨44, 28, 0, [rsiteC (rcS a.M a.Op a.Ch)]⟩)], [], 3⟩) (x := (151 : Int)) (y := askE a.M a.Op a.Ch a.S) h46 (le_fit ⟨rfl, rfl, rfl, rfl, rfl, trivial⟩ ⟨.inr rfl, .inr rfl, .inr rfl, trivial⟩ trivial rfl rfl rfl rfl rfl)⟩
  refine zs ?_
  refine zs ?_
  refine zR ?_
  simp only [hX]
  refine zLc (law13_fixed) ?_
  refine zLB ?_
  refine zLB ?_
  refine zgLI ?_
  refine zgLI ?_
  refine zgLB ?_
  refine zpLB ?_
  refine zn ?_
  refine W_cond_f (b := _) rfl (by exact hc53) ?_
  refine zk ?_
  refine zs ?_
  refine zs ?_
  refine zR ?_
  refine zLI ?_
  refine zLB ?_
  refine zn ?_
  refine W_cond (b := _) rfl (fun h55 => ?_) (fun h55 => ?_)
  · have hz : ¬ partE a.M a.Op a.Ch a.S a.Depth = 0 := by simpa using h55
    refine zs ?_
    refine zR ?_
    refine zLG [.int _ _, .int _ _] ?_
    refine zLG [.int _ _, .int _ _] ?_
    refine zLB ?_
    refine zLB ?_
    refine zn ?_
    refine zt ?_
    refine ends (l := [.bool _]) (q := .bool _) (.inr rfl) rfl ⟨trivial, trivial⟩ rfl rfl ?_
    rw [partS, if_neg hz]; rfl
  · have hz : partE a.M a.Op a.Ch a.S a.Depth = 0 := by simpa using h55
    refine zk ?_
    refine zs ?_
    refine W_draw 11 Tb_mixed rfl (by decide) (by kernel_rfl) (by kernel_rfl) ?_
    refine zEG [.int _ _, .int _ _] ?_
    refine zEG [.int _ _, .int _ _, .int _ _, .int _ _, .int _ _, .int _ _, .int _ _, .int _ _, .int _ _, .int _ _, .int _ _, .int _ _, _, _, .int _ _, .int _ _, .int _ _, .int _ _, .int _ _, .int _ _, .int _ _, .int _ _, .int _ _, .int _ _, .int _ _, .int _ _, .int _ _, .int _ _] ?_
    refine zEP ?_
    refine zEI ?_
    refine zEP ?_
    refine zEG [.int _ _, .int _ _] ?_
    refine zEP ?_
    refine zEI ?_
    refine zEc ((r13 ha.1 (partE_zero hz)).2.2.1 _ hz) ?_
    refine zEB ?_
    refine zEB ?_
    refine LexE_nil ?_
    refine zn ?_
    refine zt ?_
    refine ends (l := [.bool _]) (q := .bool _) (.inr rfl) rfl ⟨trivial, trivial⟩ rfl rfl ?_
    simp
end Go.AM
end
section
namespace Go.Proofs.Ytlomapfdjdhmfaa.boundParts
open Go.ChangeShapes Go.WideShapes Go.ChangeAt Go.RowKit
open Go.ChangeMaps (open_string shut_string)
set_option linter.unusedVariables false
theorem own : ownKnob Try.prog.godebug = none := by kernel_rfl
theorem laidOut : laidOutB Try.prog = true := by kernel_rfl
set_option maxRecDepth 100000 in
theorem lifted (os : Os) (started : os.Started) (H : Type) (enc : TypeId × Value → H) :
    ReturnsInHanded {} Try.checked os 5 .any (Rows.boundPartsSpec.pre6 enc Try.prog Try.f5 Rows.boundPartsRow.domain false) (Rows.boundPartsSpec.post enc Try.prog Try.f5 false true false false) := by
  refine returnsInHanded_of_change_sized (C := Try.checked) own started (by kernel_rfl) Try.func5
    (ChangeSpec.witness6 (enc := enc) (C := Try.checked) false ⟨#[], #[.agg #[.int .i64 0, .int .i64 0, .int .i64 0, .int .i64 0, .int .i64 0, .slice none 0 0, .int .i64 0, .int .i64 0, .int .i64 0, .int .i64 0, .int .i64 0, .int .i64 0, .int .i64 0, .slice none 0 0]], []⟩ 8 (by kernel_rfl) (by kernel_rfl) (by kernel_rfl) (by kernel_rfl)) ?_
  intro W base args ds gs before hval0 hW hcnd hsz0 _
  have hsz : (DataW.weightsEach Try.prog (Try.f5.params.toList ++ Rows.boundPartsSpec.plain.varTypes Try.prog) (ds ++ gs)).all (· ≤ reachBytes) = true := hsz0
  have hval : ∀ (j : Nat) t v, Try.f5.params[j]? = some t → args[j]? = some v → Value.okWide Try.prog W .any base t v := hval0
  have hW' := hW
  obtain ⟨p, q, hA0, hV, rfl, hfz, hnd⟩ := hW
  have hA : DataW.TrodAll enc Try.prog W 0 (fun _ => true) true Try.f5.params.toList args.toList ds p := hA0
  rw [Try.params5] at hA hval hsz
  obtain ⟨v0, vs0, d0, ds0, p0, q0, hargs, rfl, rfl, h0, r0⟩ := trodAll_cons hA
  obtain ⟨rfl, rfl, rfl⟩ := trodAll_nil r0
  obtain rfl : args = #[v0] := by cases args; simp_all
  obtain ⟨rfl, rfl⟩ := trodVars_none hV
  have k0 := h0
  have lt0 : ∀ x ∈ p0, x.block < W.heap.size := by obtain ⟨m, hm⟩ := k0; exact DataW.trod_lt m _ _ _ hm
  obtain ⟨y0, K0, w0⟩ := Go.AM.Opn.arg Go.AM.arg0 h0 (j := 0) (t := 31) hsz rfl rfl
  have R0 := Go.AM.arg_agg Try.underlying31 (hval 0 31 v0 rfl rfl) K0
  clear hA0 hval0 hsz0 hsz
  refine (Go.AM.Ok.law (Go.AM.boundParts y0 w0) (Go.AM.rel1 R0)).mono fun e W' ⟨he, bel⟩ => ?_
  subst he
  exact ⟨_, rfl, _, _, _, [], _, [], hW', trodAll_mk1 (shut_bool Try.underlying4 _), (trodAll_cons_mk (Below.trod laidOut (by kernel_rfl) (of_decide_eq_true (by kernel_rfl)) k0 bel lt0) trodAll_mk0), rfl, bel.frame _, fun h => by cases h⟩
theorem over : Rows.boundPartsRow.holds Try.pinned (OpenSpec.ofChange Rows.boundPartsSpec) :=
  OpenClaim.holds_of_wide 5 Try.f5 rfl rfl rfl rfl rfl rfl rfl ⟨rfl, rfl, rfl, rfl, rfl⟩ rfl rfl rfl rfl rfl (by kernel_rfl) Try.func5 (by kernel_rfl)
    (of_decide_eq_true (by kernel_rfl)) (by unfold Func.isWrapper; first | (rw [if_pos (by decide +kernel)]; kernel_rfl) | (rw [if_neg (by decide +kernel)]; exact ⟨rfl, rfl⟩))
    (fun os started H enc _ => lifted os started H enc)
theorem proved : Rows.BoundPartsSaid := over
end Go.Proofs.Ytlomapfdjdhmfaa.boundParts
namespace Go.Proofs.Ytlomapfdjdhmfaa
/-- The row, under a short name, for the claim. -/
theorem boundParts_holds : Rows.BoundPartsSaid := boundParts.proved
end Go.Proofs.Ytlomapfdjdhmfaa
end
