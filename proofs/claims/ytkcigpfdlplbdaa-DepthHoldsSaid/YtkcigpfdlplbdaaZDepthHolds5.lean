/- The law DepthHolds answers true, whatever its arguments: part 6 of 6 of its proof. -/
import Derived.Test.YtkcigpfdlplbdaaRows
import Derived.WalkKit
import Derived.Test.YtkcigpfdlplbdaaZDepthHolds4
section
open Go Go.AM Go.Proofs
set_option maxRecDepth 10000
set_option linter.unusedVariables false
set_option linter.unusedSimpArgs false
namespace Go.AM
def natC (v : Nat) : List AV := [.int .i64 (v : Int)]
/-- the first place of a number, or -1 -/
def firstF (l : List Nat) (v : Nat) : Int := if l.findIdx (· == v) < l.length then (l.findIdx (· == v) : Int) else -1
theorem first_ge (l : List Nat) (v : Nat) : decide (firstF l v ≥ 0) = decide (∃ i, i < l.length ∧ l.getD i 0 = v) := by
  unfold firstF
  by_cases h : l.findIdx (· == v) < l.length
  · rw [if_pos h, decide_eq_true (by omega), decide_eq_true]
    refine ⟨_, h, ?_⟩
    have := @List.findIdx_getElem _ (· == v) l h
    simpa [List.getD_eq_getElem?_getD, h] using this
  · rw [if_neg h, decide_eq_false (by omega)]
    symm
    apply decide_eq_false
    rintro ⟨i, hi, he⟩
    have hm : ∃ x ∈ l, (x == v) = true := ⟨l[i], List.getElem_mem hi, by simpa [List.getD_eq_getElem?_getD, hi] using he⟩
    exact h (List.findIdx_lt_length_of_exists hm)
theorem first_at {l : List Nat} {v k : Nat} (hk : k < l.length) (h : ∀ i, i < k → l.getD i 0 ≠ v) (he : l.getD k 0 = v) : firstF l v = (k : Int) := by
  have e : l.findIdx (· == v) = k := by
    rw [List.findIdx_eq hk]
    refine ⟨by simpa [List.getD_eq_getElem?_getD, hk] using he, fun i hi => ?_⟩
    have := h i hi
    simpa [List.getD_eq_getElem?_getD, show i < l.length by omega] using this
  unfold firstF; rw [e, if_pos hk]
theorem first_none {l : List Nat} {v : Nat} (h : ∀ i, i < l.length → l.getD i 0 ≠ v) : firstF l v = -1 := by
  unfold firstF
  rw [if_neg]
  intro q
  have := @List.findIdx_getElem _ (· == v) l q
  exact h _ q (by simpa [List.getD_eq_getElem?_getD, q] using this)
theorem slices_Index (l : List Nat) (v : Nat) (hl : l.length ≤ 1048576) : Ok Try.prog 86 [.ro (l.map natC), .int .i64 (v : Int)] (.int .i64 (firstF l v)) := by
  refine fn_ok Tb_ok (fn := Try.f86) Try.func86 rfl rfl (e := [(0, _), (1, _)]) rfl (by decide) rfl ?_
  refine zs ?_
  refine zR ?_
  refine zLI ?_
  refine zn ?_
  refine zs ?_
  refine zs ?_
  refine zR ?_
  refine zLO ?_
  refine zLI ?_
  refine zLI ?_
  refine zn ?_
  refine W_block ?_
  refine W_forEF (l.length) (fun (k : Nat) => ∀ i, i < k → l.getD i 0 ≠ v) (fun i hi => absurd hi (Nat.not_lt_zero _)) [(0, .ro _), (1, .int _ _), (7, .int _ _)] (fun (k : Nat) => [(8, .int .i64 (k : Int))]) [] (fun (k : Nat) => []) [] (fun (k : Nat) => []) 0 (le_fit (sub_cat ⟨rfl, trivial⟩ ⟨rfl, rfl, rfl, trivial⟩) (subO_cat trivial trivial) (subK_cat trivial trivial) rfl rfl rfl rfl rfl) ?_
  intro k hk hfk
  refine W.of_le (s' := ⟨[(8, .int .i64 (k : Int)), (0, .ro _), (1, .int _ _), (7, .int _ _)], [], [], 0⟩) (le_fit ⟨rfl, rfl, rfl, rfl, trivial⟩ trivial trivial rfl rfl rfl rfl rfl) ?_
  refine zs ?_
  refine zR ?_
  refine zLB ?_
  refine zn ?_
  refine zs ?_
  refine W_cond (b := _) rfl (fun h9 => ?_) (fun h9 => ?_)
  · have hkt : k < l.length := by (have := of_decide_eq_true h9; simp only [List.length_map, List.length_take, List.length_drop] at this; omega)
    refine zk ?_
    refine zs ?_
    refine W_block ?_
    refine zs ?_
    refine zR ?_
    refine zLI ?_
    refine zLI ?_
    refine zn ?_
    refine zs ?_
    refine zR ?_
    refine zLI ?_
    refine zLO ?_
    refine zLI ?_
    (refine L_v Tb_ok (v := _) (ave_index_ro rfl rfl rfl (fun _ => rfl) rfl (by first | omega | assumption | decide | (simp_all; done) | (simp_all; omega)) (by first | omega | assumption | decide | (simp_all; done) | (simp_all; omega)) trivial) rfl ?_)
    refine zLI ?_
    refine zLB ?_
    refine zn ?_
    refine W_cond (b := _) rfl (fun h16 => ?_) (fun h16 => ?_)
    · have he : l.getD k 0 = v := by have := h16; rw [Int.toNat_natCast, beq_iff_eq] at this; have := Int.ofNat.inj this; exact this.symm
      refine zs ?_
      refine zR ?_
      refine zLI ?_
      refine zLI ?_
      refine zn ?_
      refine zt ?_
      refine ends (l := [.int _ _]) (q := .int _ _) (.inr rfl) rfl ⟨trivial, trivial⟩ rfl rfl ?_
      rw [first_at hkt hfk he]
    · have hne : l.getD k 0 ≠ v := fun q => by have := h16; rw [Int.toNat_natCast] at this; rw [show l.getD k default = v from q] at this; simp at this
      refine zk ?_
      refine zR ?_
      refine zLI ?_
      refine zLI ?_
      refine zn ?_
      refine forF_end hkt (all_snoc hfk hne) (le_fit (sub_cat ⟨congrArg _ (w_succ hkt (by omega)), trivial⟩ ⟨rfl, rfl, rfl, trivial⟩) (subO_cat trivial trivial) (subK_cat trivial trivial) rfl rfl rfl rfl rfl)
  · have hke : k = l.length := by (have := of_decide_eq_false h9; simp only [List.length_map, List.length_take, List.length_drop] at this; omega)
    refine W_exit ?_
    repeat (first | refine pass_then ?_ | refine pass_forF ?_)
    refine blockQ_hit ?_
    refine zs ?_
    refine zR ?_
    refine zLI ?_
    refine zn ?_
    refine zt ?_
    refine ends (l := [.int _ _]) (q := .int _ _) (.inr rfl) rfl ⟨trivial, trivial⟩ rfl rfl ?_
    rw [first_none (fun i hi => hfk i (by omega))]
theorem slices_Contains (l : List Nat) (v : Nat) (hl : l.length ≤ 1048576) : Ok Try.prog 63 [.ro (l.map natC), .int .i64 (v : Int)] (.bool (decide (∃ i, i < l.length ∧ l.getD i 0 = v))) := by
  refine fn_ok Tb_ok (fn := Try.f63) Try.func63 rfl rfl (e := [(0, _), (1, _)]) rfl (by decide) rfl ?_
  refine zs ?_
  refine zR ?_
  refine zLB ?_
  refine zn ?_
  refine zs ?_
  refine zR ?_
  refine zLO ?_
  refine zLI ?_
  refine zLc (slices_Index l v hl) ?_
  refine zLB ?_
  refine zLB ?_
  refine zn ?_
  refine zt ?_
  refine ends (l := [.bool _]) (q := .bool _) (.inr rfl) rfl ⟨trivial, trivial⟩ rfl rfl ?_
  rw [first_ge]
/-- a list that is made anew place by place -/
def updW {α : Type} (o o' : List α) (i : Nat) : List α := o'.take i ++ o.drop i
theorem updW_zero {α : Type} (o o' : List α) : updW o o' 0 = o := by simp [updW]
theorem updW_len {α : Type} {o o' : List α} {i : Nat} (h : o'.length = o.length) (hi : i ≤ o.length) : (updW o o' i).length = o.length := by simp [updW]; omega
theorem updW_all {α : Type} {o o' : List α} (h : o'.length = o.length) : updW o o' o.length = o' := by simp [updW, ← h]
theorem updW_set {α : Type} [Inhabited α] {o o' : List α} {i : Nat} (h : o'.length = o.length) (hi : i < o.length) {v : α} (hv : o'.getD i default = v) : (updW o o' i).set i v = updW o o' (i + 1) := by
  have e : (o'.take i).length = i := by simp; omega
  unfold updW
  rw [List.set_append, if_neg (by omega), e, Nat.sub_self, List.drop_eq_getElem_cons hi, List.set_cons_zero, List.take_add_one, List.getElem?_eq_getElem (by omega)]
  have : o'[i] = v := by rw [← hv]; simp [List.getD_eq_getElem?_getD, h, hi]
  simp [this]
theorem updW_get {α : Type} [Inhabited α] {o o' : List α} {i : Nat} (h : o'.length = o.length) (hi : i < o.length) : (updW o o' i).getD i default = o.getD i default := by
  have e : (o'.take i).length = i := by simp; omega
  simp [updW, List.getD_eq_getElem?_getD, e, List.getElem?_append]
theorem updW_same {α : Type} [Inhabited α] {o o' : List α} {i : Nat} (h : o'.length = o.length) (hi : i < o.length) (hv : o'.getD i default = o.getD i default) : updW o o' i = updW o o' (i + 1) := by
  rw [← updW_set h hi hv]
  have := updW_get h hi
  apply List.ext_getElem (by simp)
  intro q h1 h2
  rw [List.getElem_set]
  split
  · rename_i hq; subst hq
    rw [← this]; simp [List.getD_eq_getElem?_getD, h1]
  · rfl
theorem bears_succ (n : Nat) {l : List (List Span)} {k : Nat} (h : k < l.length) : bearsF n (l.take (k + 1)) = bear1 (bearsF n (l.take k)) (l.getD k default) := take_fold bear1 _ h
theorem brk_le (r : List Span) (i n : Nat) : brk r i n ≤ n := (brk_spec r i n).1
theorem bear_le (n : Nat) : ∀ (l : List (List Span)) (i : Nat), i < n → (bearsF n l).getD i 0 ≤ n - i := by
  intro l i hi
  rw [← bear0_get hi]
  unfold bearsF
  have key : ∀ (l : List (List Span)) (o : List Nat), i < o.length → (l.foldl bear1 o).getD i 0 ≤ o.getD i 0 := by
    intro l
    induction l with
    | nil => intro o _; exact Nat.le_refl _
    | cons r l ih =>
      intro o ho
      rw [List.foldl_cons]
      refine Nat.le_trans (ih _ (by rw [bear1_len]; exact ho)) ?_
      rw [bear1_get ho]; exact brk_le _ _ _
  exact key l _ (by simp [bear0]; exact hi)
theorem updW_end {α : Type} {o o' : List α} {n : Nat} (h : o'.length = o.length) (hn : o.length = n) : updW o o' n = o' := by rw [← hn]; exact updW_all h
def bW (n : Nat) (L : List (List Span)) (k i : Nat) : List Nat := updW (bearsF n (L.take k)) (bearsF n (L.take (k + 1))) i
theorem bW_zero (n : Nat) (L : List (List Span)) (k : Nat) : bW n L k 0 = bearsF n (L.take k) := updW_zero _ _
theorem bW_eqlen (n : Nat) (L : List (List Span)) (k : Nat) : (bearsF n (L.take (k + 1))).length = (bearsF n (L.take k)).length := by rw [bears_len, bears_len]
theorem bW_len {n : Nat} {L : List (List Span)} {k i : Nat} (h : i ≤ n) : (bW n L k i).length = n := by
  unfold bW; rw [updW_len (bW_eqlen n L k) (by rw [bears_len]; exact h), bears_len]
theorem bW_end (n : Nat) (L : List (List Span)) (k : Nat) : bW n L k n = bearsF n (L.take (k + 1)) := updW_end (bW_eqlen n L k) (bears_len _ _)
theorem bW_get {n : Nat} {L : List (List Span)} {k i : Nat} (h : i < n) : (bW n L k i).getD i default = (bearsF n (L.take k)).getD i 0 := updW_get (bW_eqlen n L k) (by rw [bears_len]; exact h)
theorem bW_next {n : Nat} {L : List (List Span)} {k i : Nat} (hk : k < L.length) (h : i < n) : (bearsF n (L.take (k + 1))).getD i default = brk (L.getD k default) i ((bearsF n (L.take k)).getD i 0) := by
  rw [bears_succ n hk]; exact bear1_get (by rw [bears_len]; exact h)
theorem bW_set {n : Nat} {L : List (List Span)} {k i j : Nat} (hk : k < L.length) (h : i < n) (hj : brk (L.getD k default) i ((bearsF n (L.take k)).getD i 0) = j) : (bW n L k i).set i j = bW n L k (i + 1) :=
  updW_set (bW_eqlen n L k) (by rw [bears_len]; exact h) (by rw [bW_next hk h, hj])
theorem bW_same {n : Nat} {L : List (List Span)} {k i : Nat} (hk : k < L.length) (h : i < n) (hj : brk (L.getD k default) i ((bearsF n (L.take k)).getD i 0) = (bearsF n (L.take k)).getD i 0) : bW n L k i = bW n L k (i + 1) :=
  updW_same (bW_eqlen n L k) (by rw [bears_len]; exact h) (by rw [bW_next hk h, hj]; rfl)
/-- what depth.bears is told of -/
structure BearH (m : Model) (op ch : Int) (s : Span) (n P : Nat) (pad : Int) (L : List (List Span)) (T : Nat → List Term) (f : Term → Span) : Prop where
  hn : n ≤ 512
  hP : P ≤ 1048576
  hLn : Ok Try.prog 31 [.agg (modelC m), .int .i64 op] (.tup [.int .i64 (n : Int), .int .i64 0])
  hPo : Ok Try.prog 51 [.agg (modelC m), .int .i64 op] (.tup [.int .i64 (P : Int), .int .i64 0])
  hOf : ∀ k : Nat, k < P → ∃ b, Ok Try.prog 52 [.agg (modelC m), .int .i64 op, .int .i64 ch, .int .i64 (k : Int)] (.tup [.ro ((T k).map termC), .int .i64 b, .int .i64 0])
  hTl : ∀ k, k < P → (T k).length = n
  hLT : ∀ k, k < P → L.getD k default = (T k).map f
  hLl : L.length = P
  hW : ∀ k, ∀ t ∈ T k, -32768 ≤ t.W ∧ t.W ≤ 32767
  hf : ∀ t, f t = endF pad s t
  hok : ∀ k, okF (T k) f
  hs : -128 ≤ s.Lo ∧ s.Lo ≤ s.Hi ∧ s.Hi ≤ 127
  hp : -128 ≤ pad ∧ pad ≤ 127
  i0 : 0 ≤ IntKind.i64.wrap (op - 1)
  i1 : IntKind.i64.wrap (op - 1) < (m.Ops.length : Int)
  ip : (m.Ops.getD (IntKind.i64.wrap (op - 1)).toNat default).Pad = pad
theorem depth_bears' {m : Model} {op ch : Int} {s : Span} {n P : Nat} {pad : Int} {L : List (List Span)} {T : Nat → List Term} {f : Term → Span} (H : BearH m op ch s n P pad L T f) : Ok Try.prog 62 [.agg (modelC m), .int .i64 op, .int .i64 ch, .agg (spanC s)] (.ro ((bearsF n L).map natC)) := by
  have hn := H.hn
  have hP := H.hP
  have hLl := H.hLl
  have mk3 : ((Tb.at 3).bytes : Int) * (n : Int) ≤ 281474976710656 := by rw [show (Tb.at 3).bytes = 8 from rfl]; omega
  have hb0 : (bear0 n).length = (List.replicate n 0).length := by simp [bear0]
  have hrl : (List.replicate n 0).length = n := List.length_replicate
  --@@1
  skip
  refine fn_ok Tb_ok (fn := Try.f62) Try.func62 rfl rfl (e := [(0, _), (1, _), (2, _), (3, _)]) rfl (by decide) rfl ?_
  refine zs ?_
  refine zR ?_
  refine zbx [.int _ _, .int _ _, .int _ _, .int _ _, .int _ _, _, .int _ _] 7 ?_
  refine zbx [.int _ _, .int _ _] 2 ?_
  refine zLN ?_
  refine zn ?_
  refine zs ?_
  refine zR ?_
  refine zLG [.int _ _, .int _ _, .int _ _, .int _ _, .int _ _, _, .int _ _] ?_
  refine zLI ?_
  refine zLc (H.hLn) ?_
  refine zLT [_, _] ?_
  refine zLI ?_
  refine zLI ?_
  refine zLI ?_
  refine zLI ?_
  refine zn ?_
  refine zs ?_
  refine zR ?_
  refine zLG [.int _ _, .int _ _, .int _ _, .int _ _, .int _ _, _, .int _ _] ?_
  refine zLI ?_
  refine zLc (H.hPo) ?_
  refine zLT [_, _] ?_
  refine zLI ?_
  refine zLI ?_
  refine zLI ?_
  refine zLI ?_
  refine zn ?_
  refine zs ?_
  refine zR ?_
  refine zLP ?_
  refine zLO ?_
  refine zLI ?_
  refine zLI ?_
  (refine L_v Tb_ok (v := _) (ave_index_ro rfl rfl rfl (fun _ => rfl) rfl (by first | exact H.i0 | exact H.i1) (by first | exact H.i0 | exact H.i1) trivial) rfl ?_)
  refine zLQ ?_
  refine zLI ?_
  simp only [H.ip]
  refine zLI ?_
  refine zn ?_
  refine zs ?_
  refine zR ?_
  refine zLI ?_
  refine L_make Tb_ok (el := 3) (sz := 1) (z := [.int .i64 0]) rfl rfl rfl rfl rfl rfl rfl rfl ⟨trivial, trivial⟩ (by omega) (by omega) rfl ?_
  refine zLW ?_
  refine zn ?_
  refine zs ?_
  refine zs ?_
  refine zR ?_
  refine zLW ?_
  refine zLI ?_
  refine zLI ?_
  refine zn ?_
  refine W_block ?_
  refine W_forE (n) [(1, .int _ _), (2, .int _ _), (4, .ptr 0 0 0), (7, .ptr 1 0 0), (9, .int _ _), (11, .int _ _), (13, .int _ _), (14, .row 2 0 _), (47, .int _ _)] (fun (i : Nat) => [(48, .int .i64 (i : Int))]) [(0, some ⟨_, _, _, _⟩), (1, some ⟨_, _, _, _⟩)] (fun (i : Nat) => [(2, some ⟨3, 1, 0, (updW (List.replicate n 0) (bear0 n) i).map natC⟩)]) [] (fun (i : Nat) => []) 3 (le_fit (sub_cat ⟨rfl, trivial⟩ ⟨rfl, rfl, rfl, rfl, rfl, rfl, rfl, rfl, rfl, trivial⟩) (subO_cat ⟨.inr (by show some (Ob.mk 3 1 0 (List.replicate (((n : Nat) : Int)).toNat [AV.int .i64 0])) = _; rw [Int.toNat_natCast, updW_zero, List.map_replicate]; rfl), trivial⟩ ⟨.inr rfl, .inr rfl, trivial⟩) (subK_cat trivial trivial) rfl rfl rfl (by simp [ltOB, natC, AV.lt]) rfl) ?_
  intro i hi
  refine W.of_le (s' := ⟨[(48, .int .i64 (i : Int)), (1, .int _ _), (2, .int _ _), (4, .ptr 0 0 0), (7, .ptr 1 0 0), (9, .int _ _), (11, .int _ _), (13, .int _ _), (14, .row 2 0 _), (47, .int _ _)], [(2, some ⟨3, 1, 0, (updW (List.replicate n 0) (bear0 n) i).map natC⟩), (0, some ⟨_, _, _, _⟩), (1, some ⟨_, _, _, _⟩)], [], 3⟩) (le_fit ⟨rfl, rfl, rfl, rfl, rfl, rfl, rfl, rfl, rfl, rfl, trivial⟩ ⟨.inr rfl, .inr rfl, .inr rfl, trivial⟩ trivial rfl rfl rfl (by simp [ltOB, natC, AV.lt]) rfl) ?_
  refine zs ?_
  refine zR ?_
  refine zLB ?_
  refine zn ?_
  refine zs ?_
  refine W_cond (b := _) rfl (fun h49 => ?_) (fun h49 => ?_)
  · have hit : i < n := by (have := of_decide_eq_true h49; omega)
    refine zk ?_
    refine zs ?_
    refine W_block ?_
    refine zs ?_
    refine zR ?_
    refine zLI ?_
    refine zLI ?_
    refine zn ?_
    refine zR ?_
    refine zLW ?_
    refine zLI ?_
    refine zLI ?_
    refine zLI ?_
    refine zLI ?_
    (refine L_v Tb_ok (v := _) (ave_index_row rfl rfl rfl rfl rfl rfl (by omega) (by omega) trivial) rfl ?_)
    refine L_store_at Tb_ok (f := natC) (xs := updW (List.replicate n 0) (bear0 n) i) (i) (n - i) rfl rfl (by simp) (by rw [updW_len hb0 (by rw [hrl]; omega), hrl]; omega) rfl rfl rfl rfl (by show [AV.int .i64 _] = [AV.int .i64 _]; rw [show IntKind.i64.wrap ((n : Int) - (i : Int)) = ((n - i : Nat) : Int) from (w64_id (by omega)).trans (by omega)]) rfl rfl ⟨trivial, trivial⟩ ?_
    refine zn ?_
    refine zR ?_
    refine zLI ?_
    refine zLI ?_
    refine zn ?_
    refine for_end hit (le_fit (sub_cat ⟨congrArg _ (w_succ hit (by omega)), trivial⟩ ⟨rfl, rfl, rfl, rfl, rfl, rfl, rfl, rfl, rfl, trivial⟩) (subO_cat ⟨.inr (by rw [← updW_set hb0 (by rw [hrl]; exact hit) (bear0_get hit)]; rfl), trivial⟩ ⟨.inr rfl, .inr rfl, trivial⟩) (subK_cat trivial trivial) rfl rfl rfl (by simp [ltOB, natC, AV.lt]) rfl)
  · have hie : i = n := by (have := of_decide_eq_false h49; omega)
    refine W_exit ?_
    repeat (first | refine pass_then ?_ | refine pass_for ?_)
    refine blockQ_hit ?_
    refine zs ?_
    refine zs ?_
    refine zR ?_
    refine zLI ?_
    refine zLI ?_
    refine zn ?_
    refine W_block ?_
    refine W_forE (P) [(1, .int _ _), (2, .int _ _), (4, .ptr 0 0 0), (7, .ptr 1 0 0), (13, .int _ _), (14, .row 2 0 _), (58, .int _ _)] (fun (k : Nat) => [(59, .int .i64 (k : Int))]) [(0, some ⟨_, _, _, _⟩), (1, some ⟨_, _, _, _⟩)] (fun (k : Nat) => [(2, some ⟨3, 1, 0, (bearsF n (L.take k)).map natC⟩)]) [] (fun (k : Nat) => []) 3 (le_fit (sub_cat ⟨rfl, trivial⟩ ⟨rfl, rfl, rfl, rfl, rfl, rfl, rfl, trivial⟩) (subO_cat ⟨.inr (by show some (Ob.mk 3 1 0 ((updW (List.replicate n 0) (bear0 n) i).map natC)) = _; rw [hie, updW_end hb0 hrl]; rfl), trivial⟩ ⟨.inr rfl, .inr rfl, trivial⟩) (subK_cat trivial trivial) rfl rfl rfl (by simp [ltOB, natC, AV.lt]) rfl) ?_
    intro k hk
    refine W.of_le (s' := ⟨[(59, .int .i64 (k : Int)), (1, .int _ _), (2, .int _ _), (4, .ptr 0 0 0), (7, .ptr 1 0 0), (13, .int _ _), (14, .row 2 0 _), (58, .int _ _)], [(2, some ⟨3, 1, 0, (bearsF n (L.take k)).map natC⟩), (0, some ⟨_, _, _, _⟩), (1, some ⟨_, _, _, _⟩)], [], 3⟩) (le_fit ⟨rfl, rfl, rfl, rfl, rfl, rfl, rfl, rfl, trivial⟩ ⟨.inr rfl, .inr rfl, .inr rfl, trivial⟩ trivial rfl rfl rfl (by simp [ltOB, natC, AV.lt]) rfl) ?_
    refine zs ?_
    refine zR ?_
    refine zLB ?_
    refine zn ?_
    refine zs ?_
    refine W_cond (b := _) rfl (fun h60 => ?_) (fun h60 => ?_)
    · have hkt : k < P := by (have := of_decide_eq_true h60; omega)
      obtain ⟨b, hO⟩ := H.hOf k hkt
      have hT1 := H.hTl k hkt
      have hTT := H.hLT k hkt
      have hokk := H.hok k
      refine zk ?_
      refine zs ?_
      refine W_block ?_
      refine zs ?_
      refine zR ?_
      refine zLI ?_
      refine zLI ?_
      refine zn ?_
      refine zs ?_
      refine zR ?_
      refine zLG [.int _ _, .int _ _, .int _ _, .int _ _, .int _ _, _, .int _ _] ?_
      refine zLI ?_
      refine zLI ?_
      refine zLI ?_
      refine zLc (hO) ?_
      refine zLT [_, _, _] ?_
      refine zLO ?_
      refine zLI ?_
      refine zLI ?_
      refine zLO ?_
      refine zLI ?_
      refine zLI ?_
      refine zn ?_
      refine zs ?_
      refine zR ?_
      refine zLW ?_
      refine zLI ?_
      refine zLI ?_
      refine zn ?_
      refine W_block ?_
      refine W_forE (n) [(1, .int _ _), (2, .int _ _), (4, .ptr 0 0 0), (7, .ptr 1 0 0), (13, .int _ _), (14, .row 2 0 _), (17, .ro _), (58, .int _ _), (59, .int _ _), (72, .int _ _)] (fun (i : Nat) => [(73, .int .i64 (i : Int))]) [(0, some ⟨_, _, _, _⟩), (1, some ⟨_, _, _, _⟩)] (fun (i : Nat) => [(2, some ⟨3, 1, 0, (bW n L k i).map natC⟩)]) [] (fun (i : Nat) => []) 3 (le_fit (sub_cat ⟨rfl, trivial⟩ ⟨rfl, rfl, rfl, rfl, rfl, rfl, rfl, rfl, rfl, rfl, trivial⟩) (subO_cat ⟨.inr (by rw [bW_zero]; rfl), trivial⟩ ⟨.inr rfl, .inr rfl, trivial⟩) (subK_cat trivial trivial) rfl rfl rfl (by simp [ltOB, natC, AV.lt]) rfl) ?_
      intro i hi
      refine W.of_le (s' := ⟨[(73, .int .i64 (i : Int)), (1, .int _ _), (2, .int _ _), (4, .ptr 0 0 0), (7, .ptr 1 0 0), (13, .int _ _), (14, .row 2 0 _), (17, .ro _), (58, .int _ _), (59, .int _ _), (72, .int _ _)], [(2, some ⟨3, 1, 0, (bW n L k i).map natC⟩), (0, some ⟨_, _, _, _⟩), (1, some ⟨_, _, _, _⟩)], [], 3⟩) (le_fit ⟨rfl, rfl, rfl, rfl, rfl, rfl, rfl, rfl, rfl, rfl, rfl, trivial⟩ ⟨.inr rfl, .inr rfl, .inr rfl, trivial⟩ trivial rfl rfl rfl (by simp [ltOB, natC, AV.lt]) rfl) ?_
      refine zs ?_
      refine zR ?_
      refine zLB ?_
      refine zn ?_
      refine zs ?_
      refine W_cond (b := _) rfl (fun h74 => ?_) (fun h74 => ?_)
      · have hit : i < n := by (have := of_decide_eq_true h74; omega)
        have hg := bW_get (L := L) (k := k) hit
        have hle := bear_le n (L.take k) i hit
        have hTi : ∀ q, i + q < n → (L.getD k default).getD (i + q) default = f ((T k).getD (i + q) default) := fun q hq => by rw [hTT]; simp [List.getD_eq_getElem?_getD, hT1, hq]
        refine zk ?_
        refine zs ?_
        refine W_block ?_
        refine zs ?_
        refine zR ?_
        refine zLI ?_
        refine zLI ?_
        refine zn ?_
        refine zs ?_
        refine zR ?_
        refine zLG [.int _ _, .int _ _] ?_
        refine zal [.int .i64 0, .int .i64 0] 2 ?_
        refine zst (.agg [.int _ _, .int _ _]) [_, _] [[_, _]] ?_
        refine zn ?_
        refine zs ?_
        refine zR ?_
        refine zLO ?_
        refine zLI ?_
        refine zLI ?_
        refine zLW ?_
        refine zLI ?_
        (refine L_v Tb_ok (v := _) (ave_index_row rfl rfl rfl rfl rfl rfl (by omega) (by omega) trivial) rfl ?_)
        refine L_load_at Tb_ok (f := natC) (xs := bW n L k i) (i) rfl rfl (by simp) (by rw [bW_len (by omega)]; omega) rfl rfl trivial rfl rfl ?_
        simp only [hg]
        obtain ⟨o, ho⟩ : ∃ o, o = (bearsF n (L.take k)).getD i 0 := ⟨_, rfl⟩
        rw [← ho] at hle
        simp only [← ho]
        have hw : IntKind.i64.wrap ((i : Int) + (o : Int)) = ((i + o : Nat) : Int) := (w64_id (by omega)).trans (by omega)
        have hdl : (((T k).drop i).take (i + o - i)).length = o := by rw [List.length_take, List.length_drop]; omega
        refine zLI ?_
        refine L_slice_map Tb_ok (f := termC) (xs := T k) (i) (i + o) (el := 112) (sz := 2) rfl rfl rfl rfl rfl rfl (fun _ => rfl) (by rfl) (by omega) (by omega) (by omega) ⟨trivial, trivial, trivial⟩ rfl ?_
        refine zLI ?_
        refine zLI ?_
        refine zn ?_
        refine W_block ?_
        refine W_forEF (o) (fun (j : Nat) => ∀ q, q < j → okW (pre (L.getD k default) i (q + 1)) = true) (fun q hq => absurd hq (Nat.not_lt_zero _)) [(1, .int _ _), (2, .int _ _), (4, .ptr 0 0 0), (7, .ptr 1 0 0), (13, .int _ _), (14, .row 2 0 _), (17, .ro _), (20, .int _ _), (21, .ptr 3 0 0), (58, .int _ _), (59, .int _ _), (72, .int _ _), (73, .int _ _), (85, .ro _), (86, .int _ _)] (fun (j : Nat) => [(87, .int .i64 (j : Int))]) [(0, some ⟨_, _, _, _⟩), (1, some ⟨_, _, _, _⟩), (2, some ⟨_, _, _, _⟩)] (fun (j : Nat) => [(3, some ⟨28, 2, 0, [spanC (pre (L.getD k default) i j)]⟩)]) [] (fun (j : Nat) => []) 4 (le_fit (sub_cat ⟨rfl, trivial⟩ ⟨rfl, rfl, rfl, rfl, rfl, rfl, rfl, rfl, rfl, rfl, rfl, rfl, rfl, rfl, rfl, trivial⟩) (subO_cat ⟨.inr rfl, trivial⟩ ⟨.inr rfl, .inr rfl, .inr rfl, trivial⟩) (subK_cat trivial trivial) rfl rfl rfl (by simp [ltOB, natC, AV.lt, spanC]) rfl) ?_
        intro j hj hfj
        refine W.of_le (s' := ⟨[(87, .int .i64 (j : Int)), (1, .int _ _), (2, .int _ _), (4, .ptr 0 0 0), (7, .ptr 1 0 0), (13, .int _ _), (14, .row 2 0 _), (17, .ro _), (20, .int _ _), (21, .ptr 3 0 0), (58, .int _ _), (59, .int _ _), (72, .int _ _), (73, .int _ _), (85, .ro _), (86, .int _ _)], [(3, some ⟨28, 2, 0, [spanC (pre (L.getD k default) i j)]⟩), (0, some ⟨_, _, _, _⟩), (1, some ⟨_, _, _, _⟩), (2, some ⟨_, _, _, _⟩)], [], 4⟩) (le_fit ⟨rfl, rfl, rfl, rfl, rfl, rfl, rfl, rfl, rfl, rfl, rfl, rfl, rfl, rfl, rfl, rfl, trivial⟩ ⟨.inr rfl, .inr rfl, .inr rfl, .inr rfl, trivial⟩ trivial rfl rfl rfl (by simp [ltOB, natC, AV.lt, spanC]) rfl) ?_
        refine zs ?_
        refine zR ?_
        refine zLB ?_
        refine zn ?_
        refine zs ?_
        refine W_cond (b := _) rfl (fun h88 => ?_) (fun h88 => ?_)
        · have hjt : j < o := by (have := of_decide_eq_true h88; rw [List.length_map, hdl] at this; omega)
          have hU : (((T k).drop i).take (i + o - i)).getD j default = (T k).getD (i + j) default := by simp [List.getD_eq_getElem?_getD, List.getElem?_take, hjt]
          have htin : (T k).getD (i + j) default ∈ T k := getD_in (by omega)
          have hw1 := H.hW k _ htin
          have hft := H.hf ((T k).getD (i + j) default)
          have hokt := hokk _ htin
          have hpv := pre_val hokk (by omega) i j
          have hpb := pre_bS hokk (by omega) i j (by omega)
          have hps : pre (L.getD k default) i (j + 1) = plusS (pre (L.getD k default) i j) (f ((T k).getD (i + j) default)) := by rw [pre_succ (by rw [hTT, List.length_map]; omega), hTi j (by omega)]
          rw [← hTT] at hpv hpb
          have hTm : Ok Try.prog 84 [.agg (spanC (bif decide (((T k).getD (i + j) default).At < 0) then ⟨pad, pad⟩ else s)), .int .i64 ((T k).getD (i + j) default).W] (.tup [.agg (spanC (f ((T k).getD (i + j) default))), .int .i64 0]) := by
            rw [hft, endF, cond_ite]
            have h1 := H.hs
            have h2 := H.hp
            split
            · exact span_Times ⟨pad, pad⟩ _ (Int.le_refl _) (by dsimp only; omega) (by omega)
            · exact span_Times s _ h1.2.1 (by omega) (by omega)
          have hAd : Ok Try.prog 85 [.agg (spanC (pre (L.getD k default) i j)), .agg (spanC (f ((T k).getD (i + j) default)))] (.tup [.agg (spanC (pre (L.getD k default) i (j + 1))), .int .i64 0]) := by
            rw [hps]
            obtain ⟨⟨x1, x2⟩, x3, x4⟩ := hokt.1
            obtain ⟨⟨y1, y2⟩, y3, y4⟩ := hpb
            exact span_Add (B := 4294967296) _ _ ⟨⟨by omega, by omega⟩, by omega, by omega⟩ ⟨⟨by omega, by omega⟩, by omega, by omega⟩ (by omega) hpv hokt.2
          clear hw1 hft hokt hpv hpb hps htin
          refine zk ?_
          refine zs ?_
          refine W_block ?_
          refine zs ?_
          refine zR ?_
          refine zLI ?_
          (refine L_v Tb_ok (v := _) (ave_index_ro rfl rfl rfl (fun _ => rfl) rfl (by first | omega | assumption | decide | (simp_all; done) | (simp_all; omega)) (by first | omega | assumption | decide | (simp_all; done) | (simp_all; omega)) trivial) rfl ?_)
          simp only [Int.toNat_natCast, hU]
          refine zLG [.int _ _, .int _ _] ?_
          refine zal [.int .i64 0, .int .i64 0] 2 ?_
          refine zLI ?_
          refine zst (.agg [.int _ _, .int _ _]) [_, _] [[_, _]] ?_
          refine zn ?_
          refine zs ?_
          refine zR ?_
          refine zLG [.int _ _, .int _ _] ?_
          refine zal [.int .i64 0, .int .i64 0] 2 ?_
          refine zst (.agg [.int _ _, .int _ _]) [_, _] [[_, _]] ?_
          refine zn ?_
          refine zs ?_
          refine zs ?_
          refine zR ?_
          refine zLP ?_
          refine zLI ?_
          refine zLB ?_
          refine zn ?_
          refine W_iftB (b := _) rfl [(1, .int _ _), (2, .int _ _), (4, .ptr 0 0 0), (7, .ptr 1 0 0), (13, .int _ _), (14, .row 2 0 _), (17, .ro _), (20, .int _ _), (21, .ptr 3 0 0), (22, .int _ _), (23, .ptr 4 0 0), (24, .ptr 5 0 0), (58, .int _ _), (59, .int _ _), (72, .int _ _), (73, .int _ _), (85, .ro _), (86, .int _ _), (87, .int _ _)] (fun (z : Bool) => []) [(0, some ⟨_, _, _, _⟩), (1, some ⟨_, _, _, _⟩), (2, some ⟨_, _, _, _⟩), (3, some ⟨_, _, _, _⟩), (4, some ⟨_, _, _, _⟩)] (fun (z : Bool) => [(5, some ⟨28, 2, 0, [spanC (bif z then ⟨pad, pad⟩ else s)]⟩)]) [] (fun (z : Bool) => []) 6 ⟨rfl, rfl, rfl, rfl, rfl, rfl, rfl, rfl, rfl, rfl, rfl, rfl, rfl, rfl, rfl, rfl, rfl, rfl, rfl, trivial⟩ ⟨.inr rfl, .inr rfl, .inr rfl, .inr rfl, .inr rfl, trivial⟩ trivial (fun h95 => ?_) (fun h95 => ?_) ?_
          · refine zR ?_
            refine zLI ?_
            refine zLI ?_
            refine zLG [.int _ _, .int _ _] ?_
            refine zst (.agg [.int _ _, .int _ _]) [_, _] [[_, _]] ?_
            refine zn ?_
            exact ⟨trivial, (le_fit (sub_cat trivial ⟨rfl, rfl, rfl, rfl, rfl, rfl, rfl, rfl, rfl, rfl, rfl, rfl, rfl, rfl, rfl, rfl, rfl, rfl, rfl, trivial⟩) (subO_cat ⟨.inr rfl, trivial⟩ ⟨.inr rfl, .inr rfl, .inr rfl, .inr rfl, .inr rfl, trivial⟩) (subK_cat trivial trivial) rfl rfl rfl (by simp [ltOB, natC, AV.lt, spanC]) rfl)⟩
          · refine zk ?_
            exact ⟨trivial, (le_fit (sub_cat trivial ⟨rfl, rfl, rfl, rfl, rfl, rfl, rfl, rfl, rfl, rfl, rfl, rfl, rfl, rfl, rfl, rfl, rfl, rfl, rfl, trivial⟩) (subO_cat ⟨.inr rfl, trivial⟩ ⟨.inr rfl, .inr rfl, .inr rfl, .inr rfl, .inr rfl, trivial⟩) (subK_cat trivial trivial) rfl rfl rfl (by simp [ltOB, natC, AV.lt, spanC]) rfl)⟩
          refine W.of_le (s' := ⟨[(1, .int _ _), (2, .int _ _), (4, .ptr 0 0 0), (7, .ptr 1 0 0), (13, .int _ _), (14, .row 2 0 _), (17, .ro _), (20, .int _ _), (21, .ptr 3 0 0), (22, .int _ _), (23, .ptr 4 0 0), (24, .ptr 5 0 0), (58, .int _ _), (59, .int _ _), (72, .int _ _), (73, .int _ _), (85, .ro _), (86, .int _ _), (87, .int _ _)], [(5, some ⟨28, 2, 0, [spanC (bif _ then ⟨pad, pad⟩ else s)]⟩), (0, some ⟨_, _, _, _⟩), (1, some ⟨_, _, _, _⟩), (2, some ⟨_, _, _, _⟩), (3, some ⟨_, _, _, _⟩), (4, some ⟨_, _, _, _⟩)], [], 6⟩) (le_fit ⟨rfl, rfl, rfl, rfl, rfl, rfl, rfl, rfl, rfl, rfl, rfl, rfl, rfl, rfl, rfl, rfl, rfl, rfl, rfl, trivial⟩ ⟨.inr rfl, .inr rfl, .inr rfl, .inr rfl, .inr rfl, .inr rfl, trivial⟩ trivial rfl rfl rfl (by simp [ltOB, natC, AV.lt, spanC]) rfl) ?_
          refine zs ?_
          refine zR ?_
          refine zLG [.int _ _, .int _ _] ?_
          refine zLP ?_
          refine zLI ?_
          refine zLc (hTm) ?_
          refine zLT [_, _] ?_
          refine zLG [.int _ _, .int _ _] ?_
          refine zLI ?_
          refine zst (.agg [.int _ _, .int _ _]) [_, _] [[_, _]] ?_
          refine zn ?_
          refine zs ?_
          refine zR ?_
          refine zLG [.int _ _, .int _ _] ?_
          refine zLG [.int _ _, .int _ _] ?_
          refine zLc (hAd) ?_
          refine zLT [_, _] ?_
          refine zLG [.int _ _, .int _ _] ?_
          refine zLI ?_
          refine zst (.agg [.int _ _, .int _ _]) [_, _] [[_, _]] ?_
          refine zn ?_
          refine zs ?_
          refine W_draw 4 Tb_mixed rfl (by decide) (by kernel_rfl) (by kernel_rfl) ?_
          refine zEc (depth_word) ?_
          refine zEG [.int _ _, .int _ _] ?_
          refine zEc (span_Holds wordS (pre (L.getD k default) i (j + 1))) ?_
          refine zEB ?_
          refine LexE_nil ?_
          refine zn ?_
          refine W_cond (b := _) rfl (fun h115 => ?_) (fun h115 => ?_)
          · have hbk : brk (L.getD k default) i ((bearsF n (L.take k)).getD i 0) = j := by rw [← ho]; exact brk_eq (by omega) hfj (fun _ => by simpa [okW] using h115)
            refine zs ?_
            refine zR ?_
            refine zLW ?_
            refine zLI ?_
            refine zLI ?_
            (refine L_v Tb_ok (v := _) (ave_index_row rfl rfl rfl rfl rfl rfl (by omega) (by omega) trivial) rfl ?_)
            refine L_store_at Tb_ok (f := natC) (xs := bW n L k i) (i) (j) rfl rfl (by simp) (by rw [bW_len (by omega)]; omega) rfl rfl rfl rfl rfl rfl rfl ⟨trivial, trivial⟩ ?_
            refine zn ?_
            refine W_exit ?_
            repeat (first | refine pass_then ?_ | refine pass_forF ?_ | refine blockQ_miss rfl ?_)
            refine blockQ_hit ?_
            refine zR ?_
            refine zLI ?_
            refine zLI ?_
            refine zn ?_
            refine for_end hit (le_fit (sub_cat ⟨congrArg _ (w_succ hit (by omega)), trivial⟩ ⟨rfl, rfl, rfl, rfl, rfl, rfl, rfl, rfl, rfl, rfl, trivial⟩) (subO_cat ⟨.inr (by (rw [← bW_set (by omega) hit hbk]; rfl)), trivial⟩ ⟨.inr rfl, .inr rfl, trivial⟩) (subK_cat trivial trivial) rfl rfl rfl (by simp [ltOB, natC, AV.lt]) rfl)
          · refine zk ?_
            refine zR ?_
            refine zLI ?_
            refine zLI ?_
            refine zn ?_
            refine forF_end hjt (all_snoc hfj (by simpa [okW] using h115)) (le_fit (sub_cat ⟨congrArg _ (w_succ hjt (by omega)), trivial⟩ ⟨rfl, rfl, rfl, rfl, rfl, rfl, rfl, rfl, rfl, rfl, rfl, rfl, rfl, rfl, rfl, trivial⟩) (subO_cat ⟨.inr rfl, trivial⟩ ⟨.inr rfl, .inr rfl, .inr rfl, trivial⟩) (subK_cat trivial trivial) rfl rfl rfl (by simp [ltOB, natC, AV.lt, spanC]) rfl)
        · have hje : j = o := by (have := of_decide_eq_false h88; rw [List.length_map, hdl] at this; omega)
          have hbk : brk (L.getD k default) i ((bearsF n (L.take k)).getD i 0) = (bearsF n (L.take k)).getD i 0 := by rw [← ho]; exact brk_eq (Nat.le_refl _) (by rw [← hje]; exact hfj) (fun h => absurd h (Nat.lt_irrefl _))
          refine W_exit ?_
          repeat (first | refine pass_then ?_ | refine pass_forF ?_)
          refine blockQ_hit ?_
          refine zR ?_
          refine zLI ?_
          refine zLI ?_
          refine zn ?_
          refine for_end hit (le_fit (sub_cat ⟨congrArg _ (w_succ hit (by omega)), trivial⟩ ⟨rfl, rfl, rfl, rfl, rfl, rfl, rfl, rfl, rfl, rfl, trivial⟩) (subO_cat ⟨.inr (by (rw [← bW_same (by omega) hit hbk]; rfl)), trivial⟩ ⟨.inr rfl, .inr rfl, trivial⟩) (subK_cat trivial trivial) rfl rfl rfl (by simp [ltOB, natC, AV.lt]) rfl)
      · have hie : i = n := by (have := of_decide_eq_false h74; omega)
        refine W_exit ?_
        repeat (first | refine pass_then ?_ | refine pass_for ?_)
        refine blockQ_hit ?_
        refine zR ?_
        refine zLI ?_
        refine zLI ?_
        refine zn ?_
        refine for_end hkt (le_fit (sub_cat ⟨congrArg _ (w_succ hkt (by omega)), trivial⟩ ⟨rfl, rfl, rfl, rfl, rfl, rfl, rfl, trivial⟩) (subO_cat ⟨.inr (by rw [hie, bW_end]; rfl), trivial⟩ ⟨.inr rfl, .inr rfl, trivial⟩) (subK_cat trivial trivial) rfl rfl rfl (by simp [ltOB, natC, AV.lt]) rfl)
    · have hke : k = P := by (have := of_decide_eq_false h60; omega)
      refine W_exit ?_
      repeat (first | refine pass_then ?_ | refine pass_for ?_)
      refine blockQ_hit ?_
      refine zs ?_
      refine zR ?_
      refine L_give (f := natC) (xs := bearsF n (L.take k)) 14 rfl rfl (by simp [bears_len]) rfl rfl (fun _ => rfl) (fun _ => rfl) ?_
      refine zLO ?_
      refine zLO ?_
      refine zn ?_
      refine zt ?_
      (refine ends (l := [.ro _]) (q := .ro _) (.inr rfl) rfl ⟨trivial, trivial⟩ rfl rfl ?_)
      rw [hke, ← hLl, List.take_length]
end Go.AM
end
section
open Go Go.AM Go.Proofs
set_option maxRecDepth 10000
set_option linter.unusedVariables false
set_option linter.unusedSimpArgs false
namespace Go.AM
section
variable {m : Model} (hm : m.Wf) {op ch : Int} {s : Span} (hs : askE m op ch s = 0)
include hm hs
theorem bear_H : BearH m op ch s (findS m op).Len.toNat (posN m op) (findS m op).Op.Pad (rowsF m op ch s) (fun k => termsF m op ch k) (endF (findS m op).Op.Pad s) := by
  obtain ⟨z, hs', f0⟩ := askE_zero hs
  obtain ⟨_, fb, _⟩ := ofE_op z
  obtain ⟨hS, ⟨o1, o2⟩, hop, he, _⟩ := site_ok f0
  obtain ⟨hch, _⟩ := (ofBad_iff hS).1 fb
  have hn := (whole_ok he).1
  have ow : IntKind.i64.wrap (op - 1) = op - 1 := w64_id (by omega)
  have hLb := hS.len
  obtain ⟨p1, p2, p3⟩ := out_pos hS
  have hP := terms_Positions m op
  rw [f0, p1, show (findS m op).Out.H * (findS m op).Out.W = (posN m op : Int) by unfold posN; omega] at hP
  have hL := terms_Length m op
  rw [f0, show (findS m op).Len = (((findS m op).Len.toNat : Nat) : Int) by omega] at hL
  refine ⟨by omega, ?_, hL, hP, fun k hk => ⟨biasF m op ch k, ?_⟩, fun k hk => terms_len hm hs hk, fun k hk => by simp [rowsF, rowF, List.getD_eq_getElem?_getD, hk], by simp [rowsF], fun k => termsF_W hm op ch k, fun t => rfl, fun k => end_ok hm hs _, hs', (pad_bd hS).1, by rw [ow]; omega, by rw [ow]; omega, by rw [ow, hop]⟩
  · have O := shapeB_iff.1 hS.outB
    have : (findS m op).Out.H * (findS m op).Out.W ≤ 1024 * 1024 := Int.mul_le_mul O.1.2 O.2.1.2 (by omega) (by omega)
    unfold posN; omega
  · have hb : ofBad (findS m op) ch k = false := (ofBad_iff hS).2 ⟨hch, by omega, by unfold posN at hk; omega⟩
    have := terms_Of m op ch k
    rwa [show ofE m op ch k = 0 by unfold ofE; rw [if_pos f0, if_neg (by rw [hb]; simp)]] at this
theorem depth_bears : Ok Try.prog 62 [.agg (modelC m), .int .i64 op, .int .i64 ch, .agg (spanC s)] (.ro ((bearsF (findS m op).Len.toNat (rowsF m op ch s)).map natC)) := depth_bears' (bear_H hm hs)
theorem okW_key {D : Nat} (h1 : 1 ≤ D) (h2 : D ≤ (findS m op).Len.toNat) : okW (partS m op ch s (D : Int)) = true ↔ (∀ i, i < (findS m op).Len.toNat → 1 ≤ (bearsF (findS m op).Len.toNat (rowsF m op ch s)).getD i 0) ∧ okK (bearsF (findS m op).Len.toNat (rowsF m op ch s)) D := by
  rw [okW_in hm hs ((partE_ok hm hs).2 ⟨by omega, by omega⟩), Int.toNat_natCast]
  exact depth_key (rows_ok hm hs) h1 h2
theorem most_fin {k : Nat} (hz : ∀ i, i < (findS m op).Len.toNat → 1 ≤ (bearsF (findS m op).Len.toNat (rowsF m op ch s)).getD i 0) (hk : k ≤ (findS m op).Len.toNat) (h1 : k = 0 ∨ okK (bearsF (findS m op).Len.toNat (rowsF m op ch s)) k)
    (h2 : ∀ j, k < j → j ≤ (findS m op).Len.toNat → ¬ okK (bearsF (findS m op).Len.toNat (rowsF m op ch s)) j) : mostM m op ch s = k := by
  refine mostD_eq hk ?_ (fun j h3 h4 => ?_)
  · by_cases c : k = 0
    · exact .inl c
    · right
      rcases h1 with h1 | h1
      · exact absurd h1 c
      · exact (okW_key hm hs (by omega) hk).2 ⟨hz, h1⟩
  · cases e : okW (partS m op ch s (j : Int)) with
    | false => rfl
    | true => exact absurd ((okW_key hm hs (by omega) h4).1 e).2 (h2 j h3 h4)
theorem most_zero {i : Nat} (hi : i < (findS m op).Len.toNat) (hz : (bearsF (findS m op).Len.toNat (rowsF m op ch s)).getD i 0 = 0) : mostM m op ch s = 0 := by
  refine mostD_eq (Nat.zero_le _) (.inl rfl) (fun j h3 h4 => ?_)
  cases e : okW (partS m op ch s (j : Int)) with
  | false => rfl
  | true => have := ((okW_key hm hs (by omega) h4).1 e).1 i hi; omega
end
theorem mod_gap {k i q : Nat} (hk : 0 < k) (hi : i % k = 0) (hq : q % k = 0) (h1 : i ≤ q) (h2 : q < i + k) : q = i := by
  have e1 := Nat.div_add_mod i k
  have e2 := Nat.div_add_mod q k
  rw [hi, Nat.add_zero] at e1
  rw [hq, Nat.add_zero] at e2
  have : q / k = i / k := by
    have a : i / k ≤ q / k := Nat.div_le_div_right h1
    have b : q / k < i / k + 1 := by
      rw [Nat.div_lt_iff_lt_mul hk, Nat.add_mul, Nat.one_mul, Nat.mul_comm]; omega
    omega
  rw [← e1, ← e2, this]
def mostS (m : Model) (op ch : Int) (s : Span) : Int := if askE m op ch s = 0 then (mostM m op ch s : Int) else 0
theorem depth_Most (m : Model) (hm : m.Wf) (op ch : Int) (s : Span) : Ok Try.prog 27 [.agg (modelC m), .int .i64 op, .int .i64 ch, .agg (spanC s)] (.tup [.int .i64 (mostS m op ch s), .int .i64 (askE m op ch s)]) := by
  have hP := bound_Product m hm op ch s
  rw [partE_one] at hP
  have hB := fun hz : askE m op ch s = 0 => depth_bears hm hz
  have hfin := fun (hz : askE m op ch s = 0) k => @most_fin m hm op ch s hz k
  have hzer := fun (hz : askE m op ch s = 0) i => @most_zero m hm op ch s hz i
  have hnb := fun hz : askE m op ch s = 0 => (bear_H hm hz).hn
  have hm0 : ∀ hz : askE m op ch s = 0, mostS m op ch s = (mostM m op ch s : Int) := fun hz => by rw [mostS, if_pos hz]
  have hm1 : ∀ hz : ¬ askE m op ch s = 0, mostS m op ch s = 0 := fun hz => by rw [mostS, if_neg hz]
  generalize (findS m op).Len.toNat = n at *
  have hBl := bears_len n (rowsF m op ch s)
  generalize bearsF n (rowsF m op ch s) = B at *
--@@2
  skip
  refine fn_ok Tb_ok (fn := Try.f27) Try.func27 rfl rfl (e := [(0, _), (1, _), (2, _), (3, _)]) rfl (by decide) rfl ?_
  refine zs ?_
  refine zR ?_
  refine zbx [.int _ _, .int _ _, .int _ _, .int _ _, .int _ _, _, .int _ _] 7 ?_
  refine zbx [.int _ _, .int _ _] 2 ?_
  refine zLI ?_
  refine zLI ?_
  refine zn ?_
  refine W_scope 0 (fun k : {k : Nat // (askE m op ch s = 0 ∧ n ≤ 512 ∧ ∀ i, i < n → 1 ≤ B.getD i 0) ∧ k ≤ n ∧ ∀ j, k < j → j ≤ n → ¬ okK B j} => ⟨[(12, .ro (B.map natC)), (13, .int .i64 (k.1 : Int))], [], [], 0⟩) (fun k => k.1) rfl ?_ ?_
  · rintro ⟨k, ⟨hz, hnn, hno⟩, hk, hf⟩
    dsimp only
    refine zs ?_
    refine zs ?_
    refine zR ?_
    refine zLI ?_
    refine zn ?_
    refine W_block ?_
    refine W_inv (ι := {i : Nat // i % k = 0 ∧ ∀ q, q % k = 0 → q < i → q < n → min k (n - q) ≤ B.getD q 0}) (fun i => ⟨[(12, .ro (B.map natC)), (13, .int .i64 (k : Int)), (14, .int .i64 (i.1 : Int))], [], [], 0⟩) (fun i => n - i.1) ⟨0, Nat.zero_mod _, fun q h1 h2 => absurd h2 (Nat.not_lt_zero _)⟩ (le_fit ⟨rfl, rfl, rfl, trivial⟩ trivial trivial rfl rfl rfl rfl rfl) ?_
    rintro ⟨i, hi, hfi⟩
    dsimp only
    refine zs ?_
    refine zs ?_
    refine zR ?_
    refine zLI ?_
    refine zLB ?_
    refine zLB ?_
    refine zgLI ?_
    refine zgLO ?_
    refine zgLI ?_
    refine zgLB ?_
    refine zpLB ?_
    refine zn ?_
    refine W_cond (b := _) rfl (fun h42 => ?_) (fun h42 => ?_)
    · have hk0 : 0 < k ∧ i < n := by
        have q : (bif decide ((k : Int) > 0) then decide ((i : Int) < ((B.map natC).length : Int)) else false) = true := h42
        rw [List.length_map, hBl] at q
        by_cases c : (k : Int) > 0
        · rw [decide_eq_true c, cond_true, decide_eq_true_eq] at q; omega
        · rw [decide_eq_false c] at q; cases q
      obtain ⟨hk0, hin⟩ := hk0
      have hwi : IntKind.i64.wrap (((B.map natC).length : Int) - (i : Int)) = ((n - i : Nat) : Int) := by rw [List.length_map, hBl]; exact (w64_id (by omega)).trans (by omega)
      refine zk ?_
      refine zs ?_
      refine W_block ?_
      refine zs ?_
      refine zR ?_
      refine zLO ?_
      refine zLI ?_
      (refine L_v Tb_ok (v := _) (ave_index_ro rfl rfl rfl (fun _ => rfl) rfl (by first | omega | (rw [hBl]; omega)) (by first | omega | (rw [hBl]; omega)) trivial) rfl ?_)
      refine zLI ?_
      refine zLI ?_
      refine zLO ?_
      refine zLI ?_
      refine zLI ?_
      refine zLI ?_
      simp only [hwi]
      refine zLI ?_
      refine zLB ?_
      refine zn ?_
      refine W_cond (b := _) rfl (fun h56 => ?_) (fun h56 => ?_)
      · have hlt : ¬ min k (n - i) ≤ B.getD i 0 := by
          have q := of_decide_eq_true h56
          rw [Int.toNat_natCast] at q
          have q2 : ((B.getD i 0 : Nat) : Int) < (if ((n - i : Nat) : Int) < (k : Int) then ((n - i : Nat) : Int) else (k : Int)) := q
          split at q2 <;> omega
        have hbad : ¬ okK B k := fun q => hlt (by have := q i hi (by rw [hBl]; exact hin); rwa [hBl] at this)
        refine zs ?_
        refine zR ?_
        refine zLI ?_
        refine zLI ?_
        refine zLI ?_
        refine zn ?_
        refine W_goto ?_
        repeat (first | refine gpass_then ?_ | refine gpass_round ?_ | refine gpass_block ?_)
        exact jump_end (I := fun k : {k : Nat // (askE m op ch s = 0 ∧ n ≤ 512 ∧ ∀ i, i < n → 1 ≤ B.getD i 0) ∧ k ≤ n ∧ ∀ j, k < j → j ≤ n → ¬ okK B j} => ⟨[(12, .ro (B.map natC)), (13, .int .i64 (k.1 : Int))], [], [], 0⟩) ⟨k - 1, ⟨hz, hnn, hno⟩, by omega, fun j h1 h2 => by
          by_cases e : j = k
          · rw [e]; exact hbad
          · exact hf j (by omega) h2⟩ (by dsimp only; omega) (le_fit ⟨rfl, congrArg (AV.int .i64) (show IntKind.i64.wrap ((k : Int) - 1) = ((k - 1 : Nat) : Int) from (w64_id (by omega)).trans (by omega)), trivial⟩ trivial trivial rfl rfl rfl rfl rfl)
      · have hokq : min k (n - i) ≤ B.getD i 0 := by
          have q := of_decide_eq_false h56
          rw [Int.toNat_natCast] at q
          have q2 : ¬ ((B.getD i 0 : Nat) : Int) < (if ((n - i : Nat) : Int) < (k : Int) then ((n - i : Nat) : Int) else (k : Int)) := q
          split at q2 <;> omega
        refine zk ?_
        refine zR ?_
        refine zLI ?_
        refine zLI ?_
        refine zLI ?_
        refine zLI ?_
        refine zn ?_
        refine round_end (Q := fun _ _ => True) ⟨i + k, by rw [Nat.add_mod_right]; exact hi, fun q h1 h2 h3 => ?_⟩ (by dsimp only; omega) (le_fit ⟨rfl, rfl, congrArg (AV.int .i64) (show IntKind.i64.wrap ((i : Int) + (k : Int)) = ((i + k : Nat) : Int) from (w64_id (by omega)).trans (by omega)), trivial⟩ trivial trivial rfl rfl rfl rfl rfl)
        by_cases e : q < i
        · exact hfi q h1 e h3
        · have : q = i := mod_gap hk0 hi h1 (by omega) h2
          rw [this]; exact hokq
    · have hk1 : k = 0 ∨ n ≤ i := by
        have q : (bif decide ((k : Int) > 0) then decide ((i : Int) < ((B.map natC).length : Int)) else false) = false := h42
        rw [List.length_map, hBl] at q
        by_cases c : (k : Int) > 0
        · rw [decide_eq_true c, cond_true, decide_eq_false_iff_not] at q; omega
        · omega
      have hend : k = 0 ∨ okK B k := by
        rcases hk1 with h1 | h1
        · exact .inl h1
        · right; intro q h2 h3; rw [hBl] at h3 ⊢; exact hfi q h2 (by omega) h3
      refine W_exit ?_
      repeat (first | refine pass_then ?_ | refine pass_round ?_)
      refine blockQ_hit ?_
      refine zs ?_
      refine zR ?_
      refine zLI ?_
      refine zLI ?_
      refine zLI ?_
      refine zn ?_
      refine zt ?_
      refine ends (l := [.int _ _, .int _ _]) (q := .tup [.int _ _, .int _ _]) (.inr rfl) rfl ⟨trivial, trivial, trivial⟩ rfl rfl ?_
      rw [hm0 hz, hfin hz k hno hk hend hf, hz]
  · intro hlab
    refine zs ?_
    refine zs ?_
    refine zR ?_
    refine zLG [.int _ _, .int _ _, .int _ _, .int _ _, .int _ _, _, .int _ _] ?_
    refine zLI ?_
    refine zLI ?_
    refine zLG [.int _ _, .int _ _] ?_
    refine zLc (hP) ?_
    refine zLT [_, _] ?_
    refine zLG [.int _ _, .int _ _] ?_
    refine zLI ?_
    refine zal [.int .i64 0, .int .i64 0] 2 ?_
    refine zst (.agg [.int _ _, .int _ _]) [_, _] [[_, _]] ?_
    refine zLI ?_
    refine zn ?_
    refine zs ?_
    refine zR ?_
    refine zLI ?_
    refine zLB ?_
    refine zn ?_
    refine W_cond (b := _) rfl (fun h24 => ?_) (fun h24 => ?_)
    · have hz : ¬ askE m op ch s = 0 := by simpa using h24
      refine zs ?_
      refine zR ?_
      refine zLI ?_
      refine zLI ?_
      refine zLI ?_
      refine zn ?_
      refine zt ?_
      refine ends (l := [.int _ _, .int _ _]) (q := .tup [.int _ _, .int _ _]) (.inr rfl) rfl ⟨trivial, trivial, trivial⟩ rfl rfl ?_
      rw [hm1 hz]
    · have hz : askE m op ch s = 0 := by simpa using h24
      have hnn := hnb hz
      have hfin := hfin hz
      have hzer := hzer hz
      refine zk ?_
      refine zs ?_
      refine zR ?_
      refine zLG [.int _ _, .int _ _, .int _ _, .int _ _, .int _ _, _, .int _ _] ?_
      refine zLI ?_
      refine zLI ?_
      refine zLG [.int _ _, .int _ _] ?_
      refine zLc (hB hz) ?_
      refine zLO ?_
      refine zn ?_
      refine zs ?_
      refine zs ?_
      refine zR ?_
      refine zLO ?_
      refine zLc (slices_Contains B 0 (by omega)) ?_
      refine zn ?_
      refine W_cond (b := _) rfl (fun h32 => ?_) (fun h32 => ?_)
      · have hx := of_decide_eq_true h32
        refine zs ?_
        refine zR ?_
        refine zLI ?_
        refine zLI ?_
        refine zn ?_
        refine zt ?_
        refine ends (l := [.int _ _, .int _ _]) (q := .tup [.int _ _, .int _ _]) (.inr rfl) rfl ⟨trivial, trivial, trivial⟩ rfl rfl ?_
        obtain ⟨i, h1, h2⟩ := hx
        rw [hm0 hz, hzer i (by omega) h2, hz]; rfl
      · have hx := of_decide_eq_false h32
        have hno : ∀ i, i < n → 1 ≤ B.getD i 0 := fun i hi => by
          have : B.getD i 0 ≠ 0 := fun q => hx ⟨i, by omega, q⟩
          omega
        refine zk ?_
        refine zs ?_
        refine zR ?_
        refine zLO ?_
        refine zLI ?_
        refine zLI ?_
        refine zn ?_
        exact hlab ⟨n, ⟨hz, hnn, hno⟩, Nat.le_refl _, fun j h1 h2 => by omega⟩ _ (le_fit ⟨rfl, congrArg (fun z : Nat => AV.int .i64 (z : Int)) ((List.length_map _).trans hBl), trivial⟩ trivial trivial rfl rfl rfl rfl rfl)
end Go.AM
end
section
open Go Go.AM Go.Proofs
set_option maxRecDepth 10000
set_option linter.unusedVariables false
set_option linter.unusedSimpArgs false
namespace Go.AM
def chan0 : Chan := ⟨0, 0, ⟨0, 0⟩, ⟨0, 0⟩⟩
def chooseE (m : Model) (op ch : Int) (s : Span) : Int := if askE m op ch s = 0 then if holdsF longS (runS m op ch s) = true then 0 else 154 else askE m op ch s
def chooseC (m : Model) (op ch : Int) (s : Span) : Chan := if chooseE m op ch s = 0 then if 0 < mostM m op ch s then ⟨16, mostM m op ch s, partS m op ch s (mostM m op ch s : Int), totS m op ch s⟩ else ⟨32, (findS m op).Len, runS m op ch s, totS m op ch s⟩ else chan0
theorem mostM_le (m : Model) (op ch : Int) (s : Span) : mostM m op ch s ≤ (findS m op).Len.toNat := mostD_le _ _
theorem most_part {m : Model} (hm : m.Wf) {op ch : Int} {s : Span} (hs : askE m op ch s = 0) (h : 0 < mostM m op ch s) : partE m op ch s (mostM m op ch s : Int) = 0 := by
  have := mostM_le m op ch s
  exact (partE_ok hm hs).2 ⟨by omega, by omega⟩
theorem depth_Choose (m : Model) (hm : m.Wf) (op ch : Int) (s : Span) : Ok Try.prog 29 [.agg (modelC m), .int .i64 op, .int .i64 ch, .agg (spanC s)] (.tup [.agg (chanC (chooseC m op ch s)), .int .i64 (chooseE m op ch s)]) := by
  have hM := depth_Most m hm op ch s
  have hL := terms_Length m op
  --@@1
  skip
  refine fn_ok Tb_ok (fn := Try.f29) Try.func29 rfl rfl (e := [(0, _), (1, _), (2, _), (3, _)]) rfl (by decide) rfl ?_
  refine zs ?_
  refine zR ?_
  refine zbx [.int _ _, .int _ _, .int _ _, .int _ _, .int _ _, _, .int _ _] 7 ?_
  refine zbx [.int _ _, .int _ _] 2 ?_
  refine zal [.int .i64 0, .int .i64 0, .int .i64 0, .int .i64 0, .int .i64 0, .int .i64 0] 6 ?_
  refine zLI ?_
  refine zn ?_
  refine zs ?_
  refine zR ?_
  refine zLG [.int _ _, .int _ _, .int _ _, .int _ _, .int _ _, _, .int _ _] ?_
  refine zLI ?_
  refine zLI ?_
  refine zLG [.int _ _, .int _ _] ?_
  refine zLc (bound_Run m hm op ch s) ?_
  refine zLT [_, _] ?_
  refine zLG [.int _ _, .int _ _] ?_
  refine zLI ?_
  refine zal [.int .i64 0, .int .i64 0] 2 ?_
  refine zst (.agg [.int _ _, .int _ _]) [_, _] [[_, _]] ?_
  refine zLI ?_
  refine zn ?_
  refine zs ?_
  refine zs ?_
  refine zR ?_
  refine zLI ?_
  refine zLB ?_
  refine zn ?_
  refine W_cond (b := _) rfl (fun h22 => ?_) (fun h22 => ?_)
  · have hz : ¬ askE m op ch s = 0 := by simpa using h22
    refine zs ?_
    refine zR ?_
    refine zLG [.int _ _, .int _ _, .int _ _, .int _ _, .int _ _, .int _ _] ?_
    refine zLI ?_
    refine zst (.agg [.int _ _, .int _ _, .int _ _, .int _ _, .int _ _, .int _ _]) [_, _, _, _, _, _] [[_, _, _, _, _, _]] ?_
    refine zLI ?_
    refine zn ?_
    refine zt ?_
    refine ends (l := [.agg [.int _ _, .int _ _, .int _ _, .int _ _, .int _ _, .int _ _], .int _ _]) (q := .tup [.agg [.int _ _, .int _ _, .int _ _, .int _ _, .int _ _, .int _ _], .int _ _]) (.inr rfl) rfl ⟨rfl, trivial, trivial⟩ rfl rfl ?_
    have hE : chooseE m op ch s = askE m op ch s := by rw [chooseE, if_neg hz]
    rw [chooseC, if_neg (by rw [hE]; exact hz), hE]; rfl
  · have hz : askE m op ch s = 0 := by simpa using h22
    refine zk ?_
    refine zs ?_
    refine zs ?_
    refine W_draw 4 Tb_mixed rfl (by decide) (by kernel_rfl) (by kernel_rfl) ?_
    refine zEc (depth_long) ?_
    refine zEG [.int _ _, .int _ _] ?_
    refine zEc (span_Holds longS _) ?_
    refine zEB ?_
    refine LexE_nil ?_
    refine zn ?_
    refine W_cond (b := _) rfl (fun h28 => ?_) (fun h28 => ?_)
    · have hw : ¬ holdsF longS (runS m op ch s) = true := by have := h28; simp at this; simp [this]
      refine zs ?_
      refine zR ?_
      refine zLG [.int _ _, .int _ _, .int _ _, .int _ _, .int _ _, .int _ _] ?_
      refine zst (.agg [.int _ _, .int _ _, .int _ _, .int _ _, .int _ _, .int _ _]) [_, _, _, _, _, _] [[_, _, _, _, _, _]] ?_
      refine zLI ?_
      refine zn ?_
      refine zt ?_
      refine ends (l := [.agg [.int _ _, .int _ _, .int _ _, .int _ _, .int _ _, .int _ _], .int _ _]) (q := .tup [.agg [.int _ _, .int _ _, .int _ _, .int _ _, .int _ _, .int _ _], .int _ _]) (.inr rfl) rfl ⟨rfl, trivial, trivial⟩ rfl rfl ?_
      have hE : chooseE m op ch s = 154 := by rw [chooseE, if_pos hz, if_neg hw]
      rw [chooseC, if_neg (by rw [hE]; decide), hE]; rfl
    · have hw : holdsF longS (runS m op ch s) = true := by have := h28; simpa using this
      have hE : chooseE m op ch s = 0 := by rw [chooseE, if_pos hz, if_pos hw]
      have hmS : mostS m op ch s = (mostM m op ch s : Int) := by rw [mostS, if_pos hz]
      refine zk ?_
      refine zs ?_
      refine zR ?_
      refine zLG [.int _ _, .int _ _, .int _ _, .int _ _, .int _ _, .int _ _] ?_
      refine zal [.int .i64 0, .int .i64 0, .int .i64 0, .int .i64 0, .int .i64 0, .int .i64 0] 6 ?_
      refine zst (.agg [.int _ _, .int _ _, .int _ _, .int _ _, .int _ _, .int _ _]) [_, _, _, _, _, _] [[_, _, _, _, _, _]] ?_
      refine zn ?_
      refine zs ?_
      refine zR ?_
      refine zLG [.int _ _, .int _ _, .int _ _, .int _ _, .int _ _, _, .int _ _] ?_
      refine zLI ?_
      refine zLI ?_
      refine zLG [.int _ _, .int _ _] ?_
      refine zLc (bound_Total m hm op ch s) ?_
      refine zLT [_, _] ?_
      refine zLG [.int _ _, .int _ _] ?_
      refine zLI ?_
      refine zLP ?_
      refine zst (.agg [.int _ _, .int _ _]) [_, _] [[_, _, _, _, _, _]] ?_
      refine zn ?_
      refine zs ?_
      refine zs ?_
      refine zR ?_
      refine zLG [.int _ _, .int _ _, .int _ _, .int _ _, .int _ _, _, .int _ _] ?_
      refine zLI ?_
      refine zLI ?_
      refine zLG [.int _ _, .int _ _] ?_
      refine zLc (hM) ?_
      refine zLT [_, _] ?_
      refine zLI ?_
      refine zLI ?_
      refine zLP ?_
      refine zst (.int _ _) [_] [[_, _, _, _, _, _]] ?_
      refine zn ?_
      refine zs ?_
      refine zR ?_
      refine zLP ?_
      refine zLI ?_
      refine zLB ?_
      refine zn ?_
      refine W_cond (b := _) rfl (fun h51 => ?_) (fun h51 => ?_)
      · have hk : 0 < mostM m op ch s := by have := of_decide_eq_true h51; omega
        refine zs ?_
        refine zR ?_
        refine zLG [.int _ _, .int _ _, .int _ _, .int _ _, .int _ _, _, .int _ _] ?_
        refine zLI ?_
        refine zLI ?_
        refine zLG [.int _ _, .int _ _] ?_
        refine zLP ?_
        refine zLI ?_
        refine zLc (bound_Part m hm op ch s (mostS m op ch s)) ?_
        refine zLT [_, _] ?_
        refine zLG [.int _ _, .int _ _] ?_
        refine zLI ?_
        refine zLP ?_
        refine zst (.agg [.int _ _, .int _ _]) [_, _] [[_, _, _, _, _, _]] ?_
        refine zLI ?_
        refine zn ?_
        refine zs ?_
        refine zR ?_
        refine zLG [.int _ _, .int _ _, .int _ _, .int _ _, .int _ _, .int _ _] ?_
        refine zLI ?_
        refine zst (.agg [.int _ _, .int _ _, .int _ _, .int _ _, .int _ _, .int _ _]) [_, _, _, _, _, _] [[_, _, _, _, _, _]] ?_
        refine zLI ?_
        refine zn ?_
        refine zt ?_
        refine ends (l := [.agg [.int _ _, .int _ _, .int _ _, .int _ _, .int _ _, .int _ _], .int _ _]) (q := .tup [.agg [.int _ _, .int _ _, .int _ _, .int _ _, .int _ _, .int _ _], .int _ _]) (.inr rfl) rfl ⟨rfl, trivial, trivial⟩ rfl rfl ?_
        rw [chooseC, if_pos hE, if_pos hk, hE, hmS, most_part hm hz hk]; rfl
      · have hk : ¬ 0 < mostM m op ch s := by have := of_decide_eq_false h51; omega
        refine zk ?_
        refine zs ?_
        refine W_drawF (fun e => [idOf (get e 12)]) 2 [[2, 3, 4]] Tb_mixed rfl (by decide) (by kernel_rfl) ?_
        refine zSG [.int _ _, .int _ _] ?_
        refine zSP ?_
        refine S_nil ?_
        refine TT_one ?_
        refine TT_store Tb_ok (OSub_forget _ _) rfl (v := .int _ _) (cs := [_]) (es' := [[_, _, _, _, _, _]]) rfl rfl rfl rfl rfl rfl rfl rfl rfl rfl rfl ⟨trivial, trivial⟩ (fun ht1 => ?_)
        refine TT_v Tb_ok ht1 rfl (v := .ptr _ _ _) (av rfl ⟨trivial, trivial⟩) rfl (fun ht2 => ?_)
        refine TT_store Tb_ok ht2 rfl (v := .agg [.int _ _, .int _ _]) (cs := [_, _]) (es' := [[_, _, _, _, _, _]]) rfl rfl rfl rfl rfl rfl rfl rfl rfl rfl rfl ⟨trivial, trivial⟩ (fun ht3 => ?_)
        refine TT_nil ?_
        try clear ht3
        try clear ht2
        try clear ht1
        refine zs ?_
        refine zR ?_
        refine zLG [.int _ _, .int _ _, .int _ _, .int _ _, .int _ _, _, .int _ _] ?_
        refine zLI ?_
        refine zLc (hL) ?_
        refine zLT [_, _] ?_
        refine zLI ?_
        refine zLI ?_
        refine zLP ?_
        refine zst (.int _ _) [_] [[_, _, _, _, _, _]] ?_
        refine zLI ?_
        refine zn ?_
        refine zs ?_
        refine zR ?_
        refine zLG [.int _ _, .int _ _, .int _ _, .int _ _, .int _ _, .int _ _] ?_
        refine zLI ?_
        refine zst (.agg [.int _ _, .int _ _, .int _ _, .int _ _, .int _ _, .int _ _]) [_, _, _, _, _, _] [[_, _, _, _, _, _]] ?_
        refine zLI ?_
        refine zn ?_
        refine zt ?_
        refine ends (l := [.agg [.int _ _, .int _ _, .int _ _, .int _ _, .int _ _, .int _ _], .int _ _]) (q := .tup [.agg [.int _ _, .int _ _, .int _ _, .int _ _, .int _ _, .int _ _], .int _ _]) (.inr rfl) rfl ⟨rfl, trivial, trivial⟩ rfl rfl ?_
        rw [chooseC, if_pos hE, if_neg hk, hE, (askE_zero hz).2.2]; rfl
theorem narB32 {s : Span} (h : s.Lo ≤ s.Hi) : narB 2147483648 s = holdsF longS s := by
  unfold narB holdsF longS
  rw [Bool.eq_iff_iff]
  by_cases c : s.Lo ≥ -2147483648
  · rw [decide_eq_true c, cond_true, decide_eq_true_eq, decide_eq_true_eq]; dsimp only; omega
  · rw [decide_eq_false c, cond_false, decide_eq_true_eq]; dsimp only; constructor
    · intro h; cases h
    · intro h; omega
theorem run_valid {m : Model} (hm : m.Wf) {op ch : Int} {s : Span} (hs : askE m op ch s = 0) : (runS m op ch s).Lo ≤ (runS m op ch s).Hi := by
  obtain ⟨q, q1, q2⟩ := tot_first hm hs
  obtain ⟨p1, p2, p3⟩ := q2.cov (run_tot hm hs)
  rw [runS, if_pos hs]; unfold hullS; dsimp only; omega
theorem r13a {m : Model} (hm : m.Wf) {op ch : Int} {s : Span} (h : askE m op ch s = 0) :
    Ok Try.prog 18 [.agg (rsiteC (rcS m op ch)), .int .i64 ch, .agg (spanC s)] (.agg (spanC (totS m op ch s))) ∧
    Ok Try.prog 66 [.agg (rsiteC (rcS m op ch)), .int .i64 ch, .agg (spanC s)] (.agg (spanC (runS m op ch s))) ∧
    (∀ d : Int, partE m op ch s d = 0 → Ok Try.prog 67 [.agg (rsiteC (rcS m op ch)), .int .i64 ch, .agg (spanC s), .int .i64 d] (.agg (spanC (partS m op ch s d)))) := by
  obtain ⟨z, hs, f0⟩ := askE_zero h
  obtain ⟨_, fb, _⟩ := ofE_op z
  obtain ⟨hS, _⟩ := site_ok f0
  obtain ⟨hch, _⟩ := (ofBad_iff hS).1 fb
  obtain ⟨e1, e2⟩ := (rc_ok f0).1 hch
  rw [e2]
  have hR := ref13_Rows hm z hs
  have hB := ref10_Bias (findS m op) ch (bias_ix hS hch)
  rw [← bias_eq f0 fb] at hB
  have hG := ref13_begin _ _ _ hB
  have hlen := fun k hk => @rowsF_len512 m op ch s k hk
  have hLL := rowsF_len h
  refine ⟨?_, ?_, fun d hd => ?_⟩
  · rw [totS, if_pos h]; exact ref13_Total _ _ _ _ _ hR hG hlen hLL
  · rw [runS, if_pos h]; exact ref13_Run _ _ _ _ _ hR hG hlen hLL
  · rw [partS, if_pos hd]
    refine ref13_Part _ _ _ _ _ hR hlen hLL ?_
    have := (partE_ok hm h).1 hd; omega
theorem ref18_Choose {m : Model} (hm : m.Wf) {op ch : Int} {s : Span} (hs : askE m op ch s = 0) : Ok Try.prog 30 [.agg (rsiteC (rcS m op ch)), .int .i64 ch, .agg (spanC s)] (.tup [.agg (chanC (chooseC m op ch s)), .int .i64 (chooseE m op ch s)]) := by
  obtain ⟨r1, r2, r3⟩ := r13a hm hs
  obtain ⟨hR, e2⟩ := ref18_Rows hm hs
  have f0 := (askE_zero hs).2.2
  have hL := ref10_Length (rcS m op ch)
  rw [e2, lenF_site f0, ← e2] at hL
  have hM := ref18_Most hm hs
  have hN := ref13_Narrow32 (runS m op ch s)
  rw [narB32 (run_valid hm hs)] at hN
  --@@2
  skip
  refine fn_ok Tb_ok (fn := Try.f30) Try.func30 rfl rfl (e := [(0, _), (1, _), (2, _)]) rfl (by decide) rfl ?_
  refine zs ?_
  refine zR ?_
  refine zbx [.int _ _, .int _ _, .int _ _, .int _ _, .int _ _, .int _ _, .int _ _, .int _ _, .int _ _, .int _ _, .int _ _, .int _ _, _, _, .int _ _, .int _ _, .int _ _, .int _ _, .int _ _, .int _ _, .int _ _, .int _ _, .int _ _, .int _ _, .int _ _, .int _ _, .int _ _, .int _ _] 28 ?_
  refine zbx [.int _ _, .int _ _] 2 ?_
  refine zal [.int .i64 0, .int .i64 0, .int .i64 0, .int .i64 0, .int .i64 0, .int .i64 0] 6 ?_
  refine zLI ?_
  refine zn ?_
  refine zs ?_
  refine zR ?_
  refine zLG [.int _ _, .int _ _, .int _ _, .int _ _, .int _ _, .int _ _, .int _ _, .int _ _, .int _ _, .int _ _, .int _ _, .int _ _, _, _, .int _ _, .int _ _, .int _ _, .int _ _, .int _ _, .int _ _, .int _ _, .int _ _, .int _ _, .int _ _, .int _ _, .int _ _, .int _ _, .int _ _] ?_
  refine zLI ?_
  refine zLG [.int _ _, .int _ _] ?_
  refine zLc (r2) ?_
  refine zal [.int .i64 0, .int .i64 0] 2 ?_
  refine zst (.agg [.int _ _, .int _ _]) [_, _] [[_, _]] ?_
  refine zn ?_
  refine zs ?_
  refine zs ?_
  refine zR ?_
  refine zLG [.int _ _, .int _ _] ?_
  refine zLc (hN) ?_
  refine zLB ?_
  refine zn ?_
  refine W_cond (b := _) rfl (fun h17 => ?_) (fun h17 => ?_)
  · have hw : ¬ holdsF longS (runS m op ch s) = true := by have := h17; simp at this; simp [this]
    refine zs ?_
    refine zR ?_
    refine zLG [.int _ _, .int _ _, .int _ _, .int _ _, .int _ _, .int _ _] ?_
    refine zst (.agg [.int _ _, .int _ _, .int _ _, .int _ _, .int _ _, .int _ _]) [_, _, _, _, _, _] [[_, _, _, _, _, _]] ?_
    refine zLI ?_
    refine zn ?_
    refine zt ?_
    refine ends (l := [.agg [.int _ _, .int _ _, .int _ _, .int _ _, .int _ _, .int _ _], .int _ _]) (q := .tup [.agg [.int _ _, .int _ _, .int _ _, .int _ _, .int _ _, .int _ _], .int _ _]) (.inr rfl) rfl ⟨rfl, trivial, trivial⟩ rfl rfl ?_
    have hE : chooseE m op ch s = 154 := by rw [chooseE, if_pos hs, if_neg hw]
    rw [chooseC, if_neg (by rw [hE]; decide), hE]; rfl
  · have hw : holdsF longS (runS m op ch s) = true := by have := h17; simpa using this
    have hE : chooseE m op ch s = 0 := by rw [chooseE, if_pos hs, if_pos hw]
    refine zk ?_
    refine zs ?_
    refine zR ?_
    refine zLG [.int _ _, .int _ _, .int _ _, .int _ _, .int _ _, .int _ _, .int _ _, .int _ _, .int _ _, .int _ _, .int _ _, .int _ _, _, _, .int _ _, .int _ _, .int _ _, .int _ _, .int _ _, .int _ _, .int _ _, .int _ _, .int _ _, .int _ _, .int _ _, .int _ _, .int _ _, .int _ _] ?_
    refine zLI ?_
    refine zLG [.int _ _, .int _ _] ?_
    refine zLc (r1) ?_
    refine zal [.int .i64 0, .int .i64 0] 2 ?_
    refine zst (.agg [.int _ _, .int _ _]) [_, _] [[_, _]] ?_
    refine zn ?_
    refine zs ?_
    refine zR ?_
    refine zLG [.int _ _, .int _ _, .int _ _, .int _ _, .int _ _, .int _ _, .int _ _, .int _ _, .int _ _, .int _ _, .int _ _, .int _ _, _, _, .int _ _, .int _ _, .int _ _, .int _ _, .int _ _, .int _ _, .int _ _, .int _ _, .int _ _, .int _ _, .int _ _, .int _ _, .int _ _, .int _ _] ?_
    refine zLI ?_
    refine zLG [.int _ _, .int _ _] ?_
    refine zLc (hM) ?_
    refine zLI ?_
    refine zn ?_
    refine zs ?_
    refine zs ?_
    refine zR ?_
    refine zLI ?_
    refine zLB ?_
    refine zn ?_
    refine W_cond (b := _) rfl (fun h28 => ?_) (fun h28 => ?_)
    · have hk : ¬ 0 < mostM m op ch s := by have := h28; rw [beq_iff_eq] at this; omega
      refine zs ?_
      refine W_draw 5 Tb_mixed rfl (by decide) (by kernel_rfl) (by kernel_rfl) ?_
      refine zEG [.int _ _, .int _ _, .int _ _, .int _ _, .int _ _, .int _ _, .int _ _, .int _ _, .int _ _, .int _ _, .int _ _, .int _ _, _, _, .int _ _, .int _ _, .int _ _, .int _ _, .int _ _, .int _ _, .int _ _, .int _ _, .int _ _, .int _ _, .int _ _, .int _ _, .int _ _, .int _ _] ?_
      refine zEc (hL) ?_
      refine zEG [.int _ _, .int _ _] ?_
      refine zEG [.int _ _, .int _ _] ?_
      refine zEG [.int _ _, .int _ _, .int _ _, .int _ _, .int _ _, .int _ _] ?_
      refine LexE_nil ?_
      refine zst (.agg [.int _ _, .int _ _, .int _ _, .int _ _, .int _ _, .int _ _]) [_, _, _, _, _, _] [[_, _, _, _, _, _]] ?_
      refine zLI ?_
      refine zn ?_
      refine zt ?_
      refine ends (l := [.agg [.int _ _, .int _ _, .int _ _, .int _ _, .int _ _, .int _ _], .int _ _]) (q := .tup [.agg [.int _ _, .int _ _, .int _ _, .int _ _, .int _ _, .int _ _], .int _ _]) (.inr rfl) rfl ⟨rfl, trivial, trivial⟩ rfl rfl ?_
      rw [chooseC, if_pos hE, if_neg hk, hE, e2]; rfl
    · have hk : 0 < mostM m op ch s := by have := h28; rw [beq_eq_false_iff_ne] at this; omega
      refine zk ?_
      refine zs ?_
      refine W_draw 8 Tb_mixed rfl (by decide) (by kernel_rfl) (by kernel_rfl) ?_
      refine zEI ?_
      refine zEG [.int _ _, .int _ _, .int _ _, .int _ _, .int _ _, .int _ _, .int _ _, .int _ _, .int _ _, .int _ _, .int _ _, .int _ _, _, _, .int _ _, .int _ _, .int _ _, .int _ _, .int _ _, .int _ _, .int _ _, .int _ _, .int _ _, .int _ _, .int _ _, .int _ _, .int _ _, .int _ _] ?_
      refine zEI ?_
      refine zEG [.int _ _, .int _ _] ?_
      refine zEI ?_
      refine zEc (r3 _ (most_part hm hs hk)) ?_
      refine zEG [.int _ _, .int _ _] ?_
      refine zEG [.int _ _, .int _ _, .int _ _, .int _ _, .int _ _, .int _ _] ?_
      refine LexE_nil ?_
      refine zst (.agg [.int _ _, .int _ _, .int _ _, .int _ _, .int _ _, .int _ _]) [_, _, _, _, _, _] [[_, _, _, _, _, _]] ?_
      refine zLI ?_
      refine zn ?_
      refine zt ?_
      refine ends (l := [.agg [.int _ _, .int _ _, .int _ _, .int _ _, .int _ _, .int _ _], .int _ _]) (q := .tup [.agg [.int _ _, .int _ _, .int _ _, .int _ _, .int _ _, .int _ _], .int _ _]) (.inr rfl) rfl ⟨rfl, trivial, trivial⟩ rfl rfl ?_
      rw [chooseC, if_pos hE, if_pos hk, hE]; rfl
end Go.AM
end
section
open Go Go.AM Go.Proofs
set_option maxRecDepth 10000
set_option linter.unusedVariables false
set_option linter.unusedSimpArgs false
namespace Go.AM
def mFour : Model := ⟨⟨1, 1, 4⟩, 100, 127, [⟨1, 0, 0, 1, ⟨0, 0, 0, 0, 0, 0, 0, 0⟩, [200, -200, 200, 200], [0], ⟨1, 0⟩, ⟨0, 0⟩, 0, 0, -128, 127⟩], 1⟩
theorem law18_four : Ok Try.prog 61 [] (.agg (modelC mFour)) := by
  refine fn_ok Tb_ok (fn := Try.f61) Try.func61 rfl rfl (e := []) rfl (by decide) rfl ?_
  refine zs ?_
  refine zR ?_
  refine zal [.int .i64 0, .int .i64 0, .int .i64 0, .int .i64 0, .int .i64 0, .nils, .int .i64 0] 7 ?_
  refine zn ?_
  refine zs ?_
  refine zR ?_
  refine zLG [.int _ _, .int _ _, .int _ _] ?_
  refine L_build Tb_ok (t := 39) (len := 4) (el := 107) (sz := 1) (es := [[_], [_], [_], [_]]) (z := [.int .i16 0]) rfl rfl rfl rfl rfl (by decide) trivial rfl rfl rfl rfl rfl ?_
  refine L_build Tb_ok (t := 40) (len := 1) (el := 21) (sz := 1) (es := [[_]]) (z := [.int .i32 0]) rfl rfl rfl rfl rfl (by decide) trivial rfl rfl rfl rfl rfl ?_
  refine zLG [.int _ _, .int _ _] ?_
  refine L_freeze (t := 2) (l := _) rfl rfl rfl rfl rfl rfl rfl ?_
  refine L_freeze (t := 3) (l := _) rfl rfl rfl rfl rfl rfl rfl ?_
  refine zLG [.int _ _, .int _ _, .int _ _, .int _ _, .int _ _, .int _ _, .int _ _, .int _ _, .int _ _, .int _ _, .int _ _, .int _ _, _, _, .int _ _, .int _ _, .int _ _, .int _ _, .int _ _, .int _ _, .int _ _, .int _ _] ?_
  refine L_build Tb_ok (t := 24) (len := 1) (el := 44) (sz := 22) (es := [[_, _, _, _, _, _, _, _, _, _, _, _, _, _, _, _, _, _, _, _, _, _]]) (z := [.int .i64 0, .int .i64 0, .int .i64 0, .int .i64 0, .int .i64 0, .int .i64 0, .int .i64 0, .int .i64 0, .int .i64 0, .int .i64 0, .int .i64 0, .int .i64 0, .nils, .nils, .int .i64 0, .int .i64 0, .int .i64 0, .int .i64 0, .int .i64 0, .int .i64 0, .int .i64 0, .int .i64 0]) rfl rfl rfl rfl rfl (by decide) trivial rfl rfl rfl rfl rfl ?_
  refine L_freeze (t := 6) (l := _) rfl rfl rfl rfl rfl rfl rfl ?_
  refine zLG [.int _ _, .int _ _, .int _ _, .int _ _, .int _ _, _, .int _ _] ?_
  refine zst (.agg [.int _ _, .int _ _, .int _ _, .int _ _, .int _ _, _, .int _ _]) [_, _, _, _, _, _, _] [[_, _, _, _, _, _, _]] ?_
  refine zn ?_
  refine zt ?_
  refine ends (l := [.agg [.int _ _, .int _ _, .int _ _, .int _ _, .int _ _, _, .int _ _]]) (q := .agg [.int _ _, .int _ _, .int _ _, .int _ _, .int _ _, _, .int _ _]) (.inr rfl) rfl ⟨rfl, trivial⟩ rfl rfl ?_
  rfl
theorem mf_Wf : mFour.Wf := by
  simp [mFour, Model.Wf, Shape.Wf, ListWf, MOp.Wf, Window.Wf, Scale.Wf, I64.iff, I32.iff, I16.iff, reachBytes]
theorem four_ask : askE mFour 1 1 ⟨100, 127⟩ = 0 := by decide +kernel
theorem four_most : mostM mFour 1 1 ⟨100, 127⟩ = 3 := by decide +kernel
theorem law18_fixed : Ok Try.prog 26 [] (.bool true) := by
  have h1 := depth_Safe mFour mf_Wf 1 1 ⟨100, 127⟩ 2
  have h2 := depth_Safe mFour mf_Wf 1 1 ⟨100, 127⟩ 3
  have h3 := depth_Most mFour mf_Wf 1 1 ⟨100, 127⟩
  have h4 := depth_Choose mFour mf_Wf 1 1 ⟨100, 127⟩
  rw [show safeB mFour 1 1 ⟨100, 127⟩ 2 = false by decide +kernel, show partE mFour 1 1 ⟨100, 127⟩ 2 = 0 by decide +kernel] at h1
  rw [show safeB mFour 1 1 ⟨100, 127⟩ 3 = true by decide +kernel, show partE mFour 1 1 ⟨100, 127⟩ 3 = 0 by decide +kernel] at h2
  rw [mostS, four_ask, if_pos rfl, four_most] at h3
  have hE : chooseE mFour 1 1 ⟨100, 127⟩ = 0 := by decide +kernel
  obtain ⟨p, t, hC⟩ : ∃ p t, chooseC mFour 1 1 ⟨100, 127⟩ = ⟨16, 3, p, t⟩ := by rw [chooseC, if_pos hE, four_most, if_pos (by decide)]; exact ⟨_, _, rfl⟩
  rw [hE, hC] at h4
  --@@1
  skip
  refine fn_ok Tb_ok (fn := Try.f26) Try.func26 rfl rfl (e := []) rfl (by decide) rfl ?_
  refine zs ?_
  refine zR ?_
  refine zLB ?_
  refine zn ?_
  refine zs ?_
  refine zR ?_
  refine zLG [.int _ _, .int _ _] ?_
  refine zal [.int .i64 0, .int .i64 0] 2 ?_
  refine zst (.agg [.int _ _, .int _ _]) [_, _] [[_, _]] ?_
  refine zn ?_
  refine zs ?_
  refine W_draw 8 Tb_mixed rfl (by decide) (by kernel_rfl) (by kernel_rfl) ?_
  refine zEc (law18_four) ?_
  refine zEG [.int _ _, .int _ _] ?_
  refine zEc (h1) ?_
  refine zET [_, _] ?_
  refine zEB ?_
  refine zEI ?_
  refine zEB ?_
  refine zEI ?_
  refine LexE_nil ?_
  refine zn ?_
  refine zs ?_
  refine W_draw 8 Tb_mixed rfl (by decide) (by kernel_rfl) (by kernel_rfl) ?_
  refine zEc (law18_four) ?_
  refine zEG [.int _ _, .int _ _] ?_
  refine zEc (h2) ?_
  refine zET [_, _] ?_
  refine zEB ?_
  refine zEI ?_
  refine zEB ?_
  refine zEI ?_
  refine LexE_nil ?_
  refine zn ?_
  refine zs ?_
  refine W_draw 8 Tb_mixed rfl (by decide) (by kernel_rfl) (by kernel_rfl) ?_
  refine zEc (law18_four) ?_
  refine zEG [.int _ _, .int _ _] ?_
  refine zEc (h3) ?_
  refine zET [_, _] ?_
  refine zEI ?_
  refine zEI ?_
  refine zEI ?_
  refine zEI ?_
  refine LexE_nil ?_
  refine zn ?_
  refine zs ?_
  refine W_drawF (fun e => []) 6 [[6, 7, 8]] Tb_mixed rfl (by decide) (by kernel_rfl) ?_
  refine zSc (law18_four) ?_
  refine zSG [.int _ _, .int _ _] ?_
  refine zSc (h4) ?_
  refine zST [_, _] ?_
  refine zSG [.int _ _, .int _ _, .int _ _, .int _ _, .int _ _, .int _ _] ?_
  refine zSI ?_
  refine S_nil ?_
  refine TT_one ?_
  refine TT_alloc Tb_ok (OSub_forget _ _) rfl (z := [.int .i64 0, .int .i64 0, .int .i64 0, .int .i64 0, .int .i64 0, .int .i64 0]) (n := 6) rfl rfl rfl rfl rfl rfl (fun ht1 => ?_)
  refine TT_store Tb_ok ht1 rfl (v := .agg [.int _ _, .int _ _, .int _ _, .int _ _, .int _ _, .int _ _]) (cs := [_, _, _, _, _, _]) (es' := [[_, _, _, _, _, _]]) rfl rfl rfl rfl rfl rfl rfl rfl rfl rfl rfl ⟨trivial, trivial⟩ (fun ht2 => ?_)
  refine TT_v Tb_ok ht2 rfl (v := .int _ _) (av rfl ⟨trivial, trivial⟩) rfl (fun ht3 => ?_)
  refine TT_nil ?_
  try clear ht3
  try clear ht2
  try clear ht1
  refine zs ?_
  refine zR ?_
  refine zLB ?_
  refine zLB ?_
  refine zLB ?_
  refine zgLI ?_
  refine zgLB ?_
  refine zpLB ?_
  refine zLB ?_
  refine zgLB ?_
  refine zpLB ?_
  refine zLB ?_
  refine zgLI ?_
  refine zgLB ?_
  refine zpLB ?_
  refine zLB ?_
  refine zgLI ?_
  refine zgLB ?_
  refine zpLB ?_
  refine zLB ?_
  refine zgLI ?_
  refine zgLB ?_
  refine zpLB ?_
  refine zLB ?_
  refine zgLP ?_
  refine zgLI ?_
  refine zgLB ?_
  refine zpLB ?_
  refine zLB ?_
  refine zgLP ?_
  refine zgLI ?_
  refine zgLB ?_
  refine zpLB ?_
  refine zLB ?_
  refine zgLI ?_
  refine zgLB ?_
  refine zpLB ?_
  refine zLB ?_
  refine zn ?_
  refine zt ?_
  refine ends (l := [.bool _]) (q := .bool _) (.inr rfl) rfl ⟨trivial, trivial⟩ rfl rfl ?_
  rfl
theorem ne_self {a : Int} : (a != a) = false := by simp
theorem depthSafes (a : Ask18) (ha : a.Wf) : Ok Try.prog 6 [.agg (ask18C a)] (.bool true) := by
  have hX := partX a.M a.Op a.Ch a.S a.Depth
  have hS := fun hz : partE a.M a.Op a.Ch a.S a.Depth = 0 => ref18_Safe ha.1 (partE_zero hz) hz
  have hc53 : (bif false then true else (partE a.M a.Op a.Ch a.S a.Depth != partE a.M a.Op a.Ch a.S a.Depth)) = false := by simp
  --@@2
  skip
  refine fn_ok Tb_ok (fn := Try.f6) Try.func6 rfl rfl (e := [(0, _)]) rfl (by decide) rfl ?_
  refine zs ?_
  refine zR ?_
  refine zbx [.int _ _, .int _ _, .int _ _, .int _ _, .int _ _, _, .int _ _, .int _ _, .int _ _, .int _ _, .int _ _, .int _ _, .int _ _, .int _ _, .int _ _, .int _ _, .int _ _, .int _ _, .int _ _, .int _ _] 20 ?_
  refine zLB ?_
  refine zn ?_
  refine zs ?_
  refine zR ?_
  refine zLP ?_
  refine zLG [.int _ _, .int _ _, .int _ _, .int _ _, .int _ _, _, .int _ _] ?_
  refine zLP ?_
  refine zLI ?_
  refine zLP ?_
  refine zLI ?_
  refine zLP ?_
  refine zLG [.int _ _, .int _ _] ?_
  refine zLP ?_
  refine zLI ?_
  refine zLc (depth_Safe a.M ha.1 a.Op a.Ch a.S a.Depth) ?_
  refine zLT [_, _] ?_
  refine zLB ?_
  refine zLI ?_
  refine zLB ?_
  refine zLI ?_
  refine zn ?_
  refine zs ?_
  refine zR ?_
  refine zLP ?_
  refine zLG [.int _ _, .int _ _, .int _ _, .int _ _, .int _ _, _, .int _ _] ?_
  refine zLP ?_
  refine zLI ?_
  refine zLP ?_
  refine zLI ?_
  refine zLP ?_
  refine zLG [.int _ _, .int _ _] ?_
  refine zLc (ref13_Find a.M ha.1 a.Op a.Ch a.S) ?_
  refine zLT [_, _] ?_
  refine zLG [.int _ _, .int _ _, .int _ _, .int _ _, .int _ _, .int _ _, .int _ _, .int _ _, .int _ _, .int _ _, .int _ _, .int _ _, _, _, .int _ _, .int _ _, .int _ _, .int _ _, .int _ _, .int _ _, .int _ _, .int _ _, .int _ _, .int _ _, .int _ _, .int _ _, .int _ _, .int _ _] ?_
  refine zLI ?_
  refine zal [.int .i64 0, .int .i64 0, .int .i64 0, .int .i64 0, .int .i64 0, .int .i64 0, .int .i64 0, .int .i64 0, .int .i64 0, .int .i64 0, .int .i64 0, .int .i64 0, .nils, .nils, .int .i64 0, .int .i64 0, .int .i64 0, .int .i64 0, .int .i64 0, .int .i64 0, .int .i64 0, .int .i64 0, .int .i64 0, .int .i64 0, .int .i64 0, .int .i64 0, .int .i64 0, .int .i64 0] 28 ?_
  refine zst (.agg [.int _ _, .int _ _, .int _ _, .int _ _, .int _ _, .int _ _, .int _ _, .int _ _, .int _ _, .int _ _, .int _ _, .int _ _, _, _, .int _ _, .int _ _, .int _ _, .int _ _, .int _ _, .int _ _, .int _ _, .int _ _, .int _ _, .int _ _, .int _ _, .int _ _, .int _ _, .int _ _]) [_, _, _, _, _, _, _, _, _, _, _, _, _, _, _, _, _, _, _, _, _, _, _, _, _, _, _, _] [[_, _, _, _, _, _, _, _, _, _, _, _, _, _, _, _, _, _, _, _, _, _, _, _, _, _, _, _]] ?_
  refine zLI ?_
  refine zn ?_
  refine zs ?_
  refine zs ?_
  refine W_draw 14 Tb_mixed rfl (by decide) (by kernel_rfl) (by kernel_rfl) ?_
  refine zEI ?_
  refine zEB ?_
  refine zEB ?_
  refine zgEP ?_
  refine zgEI ?_
  refine zgEB ?_
  refine zgEB ?_
  refine zgEP ?_
  refine zgEI ?_
  refine zgEG [.int _ _, .int _ _, .int _ _, .int _ _, .int _ _, .int _ _, .int _ _, .int _ _, .int _ _, .int _ _, .int _ _, .int _ _, _, _, .int _ _, .int _ _, .int _ _, .int _ _, .int _ _, .int _ _, .int _ _, .int _ _, .int _ _, .int _ _, .int _ _, .int _ _, .int _ _, .int _ _] ?_
  refine E_callg (hr := fun hg => ref10_Length _) rfl rfl rfl rfl rfl (fun hg => ⟨⟨(by exact hg), True.intro⟩, True.intro⟩) rfl rfl ?_
  refine zgEB ?_
  refine zqEB ?_
  refine zpEB ?_
  refine LexE_nil ?_
  refine zn ?_
  refine W_iftB (b := _) rfl [(1, .ptr 0 0 0), (3, .bool _), (4, .int _ _), (5, .ptr 1 0 0)] (fun (z : Bool) => [(6, .int .i64 (bif z then 151 else askE a.M a.Op a.Ch a.S))]) [(0, some ⟨_, _, _, _⟩), (1, some ⟨_, _, _, _⟩)] (fun (z : Bool) => []) [] (fun (z : Bool) => []) 2 ⟨rfl, rfl, rfl, rfl, trivial⟩ ⟨.inr rfl, .inr rfl, trivial⟩ trivial (fun h46 => ?_) (fun h46 => ?_) ?_
  · refine zR ?_
    refine zLI ?_
    refine zn ?_
    exact ⟨trivial, (le_fit (sub_cat ⟨rfl, trivial⟩ ⟨rfl, rfl, rfl, rfl, trivial⟩) (subO_cat trivial ⟨.inr rfl, .inr rfl, trivial⟩) (subK_cat trivial trivial) rfl rfl rfl rfl rfl)⟩
  · refine zk ?_
    exact ⟨trivial, (le_fit (sub_cat ⟨rfl, trivial⟩ ⟨rfl, rfl, rfl, rfl, trivial⟩) (subO_cat trivial ⟨.inr rfl, .inr rfl, trivial⟩) (subK_cat trivial trivial) rfl rfl rfl rfl rfl)⟩
  refine W.of_le (s' := ⟨[(6, .int .i64 (bif _ then 151 else askE a.M a.Op a.Ch a.S)), (1, .ptr 0 0 0), (3, .bool _), (4, .int _ _), (5, .ptr 1 0 0)], [(0, some ⟨_, _, _, _⟩), (1, some ⟨_, _, _, _⟩)], [], 2⟩) (le_fit ⟨rfl, rfl, rfl, rfl, rfl, trivial⟩ ⟨.inr rfl, .inr rfl, trivial⟩ trivial rfl rfl rfl rfl rfl) ?_
  simp only [hX]
  refine zs ?_
  refine zs ?_
  refine zR ?_
  refine zLc (law18_fixed) ?_
  refine zLB ?_
  refine zLB ?_
  refine zgLI ?_
  refine zgLI ?_
  refine zgLB ?_
  refine zpLB ?_
  refine zn ?_
  refine W_cond_f (b := _) rfl (by exact hc53) ?_
  refine zk ?_
  refine zs ?_
  refine zR ?_
  refine zLI ?_
  refine zLB ?_
  refine zLB ?_
  refine zgLB ?_
  refine zgLB ?_
  refine zpLB ?_
  refine zLB ?_
  refine zgLI ?_
  refine zgLB ?_
  refine zgLB ?_
  refine zgLB ?_
  refine zgLG [.int _ _, .int _ _, .int _ _, .int _ _, .int _ _, .int _ _, .int _ _, .int _ _, .int _ _, .int _ _, .int _ _, .int _ _, _, _, .int _ _, .int _ _, .int _ _, .int _ _, .int _ _, .int _ _, .int _ _, .int _ _, .int _ _, .int _ _, .int _ _, .int _ _, .int _ _, .int _ _] ?_
  refine zgLP ?_
  refine zgLI ?_
  refine zgLP ?_
  refine zgLG [.int _ _, .int _ _] ?_
  refine zgLP ?_
  refine zgLI ?_
  refine L_callg (hr := fun hg => (hS (by revert hg; by_cases c : partE a.M a.Op a.Ch a.S a.Depth = 0 <;> simp [c]))) rfl rfl rfl rfl rfl (fun hg => ⟨⟨(by exact hg), True.intro⟩, ⟨⟨(by exact hg), True.intro⟩, ⟨⟨(by exact hg), True.intro⟩, ⟨⟨(by exact hg), True.intro⟩, True.intro⟩⟩⟩⟩) rfl rfl ?_
  refine zgLB ?_
  refine zqLB ?_
  refine zpLB ?_
  refine zLB ?_
  refine zn ?_
  refine zt ?_
  refine ends (l := [.bool _]) (q := .bool _) (.inr rfl) rfl ⟨trivial, trivial⟩ rfl rfl ?_
  congr 1
  by_cases c : partE a.M a.Op a.Ch a.S a.Depth = 0 <;> simp [safeB, c]
theorem depthMosts (a : Ask18) (ha : a.Wf) : Ok Try.prog 7 [.agg (ask18C a)] (.bool true) := by
  have hS := fun hz : askE a.M a.Op a.Ch a.S = 0 => ref18_Most ha.1 hz
  have hc37 : (bif false then true else (askE a.M a.Op a.Ch a.S != askE a.M a.Op a.Ch a.S)) = false := by simp
  --@@3
  skip
  refine fn_ok Tb_ok (fn := Try.f7) Try.func7 rfl rfl (e := [(0, _)]) rfl (by decide) rfl ?_
  refine zs ?_
  refine zR ?_
  refine zbx [.int _ _, .int _ _, .int _ _, .int _ _, .int _ _, _, .int _ _, .int _ _, .int _ _, .int _ _, .int _ _, .int _ _, .int _ _, .int _ _, .int _ _, .int _ _, .int _ _, .int _ _, .int _ _, .int _ _] 20 ?_
  refine zLB ?_
  refine zn ?_
  refine zs ?_
  refine zR ?_
  refine zLP ?_
  refine zLG [.int _ _, .int _ _, .int _ _, .int _ _, .int _ _, _, .int _ _] ?_
  refine zLP ?_
  refine zLI ?_
  refine zLP ?_
  refine zLI ?_
  refine zLP ?_
  refine zLG [.int _ _, .int _ _] ?_
  refine zLc (depth_Most a.M ha.1 a.Op a.Ch a.S) ?_
  refine zLT [_, _] ?_
  refine zLI ?_
  refine zLI ?_
  refine zLI ?_
  refine zLI ?_
  refine zn ?_
  refine zs ?_
  refine zR ?_
  refine zLP ?_
  refine zLG [.int _ _, .int _ _, .int _ _, .int _ _, .int _ _, _, .int _ _] ?_
  refine zLP ?_
  refine zLI ?_
  refine zLP ?_
  refine zLI ?_
  refine zLP ?_
  refine zLG [.int _ _, .int _ _] ?_
  refine zLc (ref13_Find a.M ha.1 a.Op a.Ch a.S) ?_
  refine zLT [_, _] ?_
  refine zLG [.int _ _, .int _ _, .int _ _, .int _ _, .int _ _, .int _ _, .int _ _, .int _ _, .int _ _, .int _ _, .int _ _, .int _ _, _, _, .int _ _, .int _ _, .int _ _, .int _ _, .int _ _, .int _ _, .int _ _, .int _ _, .int _ _, .int _ _, .int _ _, .int _ _, .int _ _, .int _ _] ?_
  refine zLI ?_
  refine zal [.int .i64 0, .int .i64 0, .int .i64 0, .int .i64 0, .int .i64 0, .int .i64 0, .int .i64 0, .int .i64 0, .int .i64 0, .int .i64 0, .int .i64 0, .int .i64 0, .nils, .nils, .int .i64 0, .int .i64 0, .int .i64 0, .int .i64 0, .int .i64 0, .int .i64 0, .int .i64 0, .int .i64 0, .int .i64 0, .int .i64 0, .int .i64 0, .int .i64 0, .int .i64 0, .int .i64 0] 28 ?_
  refine zst (.agg [.int _ _, .int _ _, .int _ _, .int _ _, .int _ _, .int _ _, .int _ _, .int _ _, .int _ _, .int _ _, .int _ _, .int _ _, _, _, .int _ _, .int _ _, .int _ _, .int _ _, .int _ _, .int _ _, .int _ _, .int _ _, .int _ _, .int _ _, .int _ _, .int _ _, .int _ _, .int _ _]) [_, _, _, _, _, _, _, _, _, _, _, _, _, _, _, _, _, _, _, _, _, _, _, _, _, _, _, _] [[_, _, _, _, _, _, _, _, _, _, _, _, _, _, _, _, _, _, _, _, _, _, _, _, _, _, _, _]] ?_
  refine zLI ?_
  refine zn ?_
  refine zs ?_
  refine zs ?_
  refine zR ?_
  refine zLc (law18_fixed) ?_
  refine zLB ?_
  refine zLB ?_
  refine zgLI ?_
  refine zgLI ?_
  refine zgLB ?_
  refine zpLB ?_
  refine zn ?_
  refine W_cond_f (b := _) rfl (by exact hc37) ?_
  refine zk ?_
  refine zs ?_
  refine zR ?_
  refine zLI ?_
  refine zLB ?_
  refine zLB ?_
  refine zgLI ?_
  refine zgLB ?_
  refine zpLB ?_
  refine zLB ?_
  refine zgLI ?_
  refine zgLB ?_
  refine zgLB ?_
  refine zgLI ?_
  refine zgLG [.int _ _, .int _ _, .int _ _, .int _ _, .int _ _, .int _ _, .int _ _, .int _ _, .int _ _, .int _ _, .int _ _, .int _ _, _, _, .int _ _, .int _ _, .int _ _, .int _ _, .int _ _, .int _ _, .int _ _, .int _ _, .int _ _, .int _ _, .int _ _, .int _ _, .int _ _, .int _ _] ?_
  refine zgLP ?_
  refine zgLI ?_
  refine zgLP ?_
  refine zgLG [.int _ _, .int _ _] ?_
  refine L_callg (hr := fun hg => (hS (by revert hg; by_cases c : askE a.M a.Op a.Ch a.S = 0 <;> simp [c]))) rfl rfl rfl rfl rfl (fun hg => ⟨⟨(by exact hg), True.intro⟩, ⟨⟨(by exact hg), True.intro⟩, ⟨⟨(by exact hg), True.intro⟩, True.intro⟩⟩⟩) rfl rfl ?_
  refine zgLB ?_
  refine zqLB ?_
  refine zpLB ?_
  refine zLB ?_
  refine zn ?_
  refine zt ?_
  refine ends (l := [.bool _]) (q := .bool _) (.inr rfl) rfl ⟨trivial, trivial⟩ rfl rfl ?_
  congr 1
  by_cases c : askE a.M a.Op a.Ch a.S = 0 <;> simp [mostS, c]
theorem chooseE_ask {m : Model} {op ch : Int} {s : Span} (h : ¬ askE m op ch s = 0) : chooseE m op ch s = askE m op ch s ∧ chooseC m op ch s = chan0 := by
  have e : chooseE m op ch s = askE m op ch s := by rw [chooseE, if_neg h]
  exact ⟨e, by rw [chooseC, if_neg (by rw [e]; exact h)]⟩
theorem depthChooses (a : Ask18) (ha : a.Wf) : Ok Try.prog 8 [.agg (ask18C a)] (.bool true) := by
  --@@4
  skip
  refine fn_ok Tb_ok (fn := Try.f8) Try.func8 rfl rfl (e := [(0, _)]) rfl (by decide) rfl ?_
  refine zs ?_
  refine zR ?_
  refine zbx [.int _ _, .int _ _, .int _ _, .int _ _, .int _ _, _, .int _ _, .int _ _, .int _ _, .int _ _, .int _ _, .int _ _, .int _ _, .int _ _, .int _ _, .int _ _, .int _ _, .int _ _, .int _ _, .int _ _] 20 ?_
  refine zLB ?_
  refine zn ?_
  refine zs ?_
  refine zR ?_
  refine zLP ?_
  refine zLG [.int _ _, .int _ _, .int _ _, .int _ _, .int _ _, _, .int _ _] ?_
  refine zLP ?_
  refine zLI ?_
  refine zLP ?_
  refine zLI ?_
  refine zLP ?_
  refine zLG [.int _ _, .int _ _] ?_
  refine zLc (depth_Choose a.M ha.1 a.Op a.Ch a.S) ?_
  refine zLT [_, _] ?_
  refine zLG [.int _ _, .int _ _, .int _ _, .int _ _, .int _ _, .int _ _] ?_
  refine zLI ?_
  refine zal [.int .i64 0, .int .i64 0, .int .i64 0, .int .i64 0, .int .i64 0, .int .i64 0] 6 ?_
  refine zst (.agg [.int _ _, .int _ _, .int _ _, .int _ _, .int _ _, .int _ _]) [_, _, _, _, _, _] [[_, _, _, _, _, _]] ?_
  refine zLI ?_
  refine zn ?_
  refine zs ?_
  refine zR ?_
  refine zLP ?_
  refine zLG [.int _ _, .int _ _, .int _ _, .int _ _, .int _ _, _, .int _ _] ?_
  refine zLP ?_
  refine zLI ?_
  refine zLP ?_
  refine zLI ?_
  refine zLP ?_
  refine zLG [.int _ _, .int _ _] ?_
  refine zLc (ref13_Find a.M ha.1 a.Op a.Ch a.S) ?_
  refine zLT [_, _] ?_
  refine zLG [.int _ _, .int _ _, .int _ _, .int _ _, .int _ _, .int _ _, .int _ _, .int _ _, .int _ _, .int _ _, .int _ _, .int _ _, _, _, .int _ _, .int _ _, .int _ _, .int _ _, .int _ _, .int _ _, .int _ _, .int _ _, .int _ _, .int _ _, .int _ _, .int _ _, .int _ _, .int _ _] ?_
  refine zLI ?_
  refine zal [.int .i64 0, .int .i64 0, .int .i64 0, .int .i64 0, .int .i64 0, .int .i64 0, .int .i64 0, .int .i64 0, .int .i64 0, .int .i64 0, .int .i64 0, .int .i64 0, .nils, .nils, .int .i64 0, .int .i64 0, .int .i64 0, .int .i64 0, .int .i64 0, .int .i64 0, .int .i64 0, .int .i64 0, .int .i64 0, .int .i64 0, .int .i64 0, .int .i64 0, .int .i64 0, .int .i64 0] 28 ?_
  refine zst (.agg [.int _ _, .int _ _, .int _ _, .int _ _, .int _ _, .int _ _, .int _ _, .int _ _, .int _ _, .int _ _, .int _ _, .int _ _, _, _, .int _ _, .int _ _, .int _ _, .int _ _, .int _ _, .int _ _, .int _ _, .int _ _, .int _ _, .int _ _, .int _ _, .int _ _, .int _ _, .int _ _]) [_, _, _, _, _, _, _, _, _, _, _, _, _, _, _, _, _, _, _, _, _, _, _, _, _, _, _, _] [[_, _, _, _, _, _, _, _, _, _, _, _, _, _, _, _, _, _, _, _, _, _, _, _, _, _, _, _]] ?_
  refine zLI ?_
  refine zn ?_
  refine zs ?_
  refine zR ?_
  refine zLG [.int _ _, .int _ _, .int _ _, .int _ _, .int _ _, .int _ _] ?_
  refine zal [.int .i64 0, .int .i64 0, .int .i64 0, .int .i64 0, .int .i64 0, .int .i64 0] 6 ?_
  refine zst (.agg [.int _ _, .int _ _, .int _ _, .int _ _, .int _ _, .int _ _]) [_, _, _, _, _, _] [[_, _, _, _, _, _]] ?_
  refine zn ?_
  refine zs ?_
  refine zs ?_
  refine zR ?_
  refine zLI ?_
  refine zLB ?_
  refine zn ?_
  refine W_cond (b := _) rfl (fun h34 => ?_) (fun h34 => ?_)
  · have hz : askE a.M a.Op a.Ch a.S = 0 := by simpa using h34
    refine zR ?_
    refine zLG [.int _ _, .int _ _, .int _ _, .int _ _, .int _ _, .int _ _, .int _ _, .int _ _, .int _ _, .int _ _, .int _ _, .int _ _, _, _, .int _ _, .int _ _, .int _ _, .int _ _, .int _ _, .int _ _, .int _ _, .int _ _, .int _ _, .int _ _, .int _ _, .int _ _, .int _ _, .int _ _] ?_
    refine zLP ?_
    refine zLI ?_
    refine zLP ?_
    refine zLG [.int _ _, .int _ _] ?_
    refine zLc (ref18_Choose ha.1 hz) ?_
    refine zLT [_, _] ?_
    refine zLG [.int _ _, .int _ _, .int _ _, .int _ _, .int _ _, .int _ _] ?_
    refine zLI ?_
    refine zst (.agg [.int _ _, .int _ _, .int _ _, .int _ _, .int _ _, .int _ _]) [_, _, _, _, _, _] [[_, _, _, _, _, _]] ?_
    refine zLI ?_
    refine zn ?_
    refine zs ?_
    refine zR ?_
    refine zLc (law18_fixed) ?_
    refine zLB ?_
    refine zgLG [.int _ _, .int _ _, .int _ _, .int _ _, .int _ _, .int _ _] ?_
    refine zgLG [.int _ _, .int _ _, .int _ _, .int _ _, .int _ _, .int _ _] ?_
    refine zgLB ?_
    refine zpLB ?_
    refine zLB ?_
    refine zgLI ?_
    refine zgLI ?_
    refine zgLB ?_
    refine zpLB ?_
    refine zLB ?_
    refine zn ?_
    refine zt ?_
    refine ends (l := [.bool _]) (q := .bool _) (.inr rfl) rfl ⟨trivial, trivial⟩ rfl rfl ?_
    congr 1
    simp
  · have hz : ¬ askE a.M a.Op a.Ch a.S = 0 := by simpa using h34
    refine zk ?_
    refine zs ?_
    refine zR ?_
    refine zLc (law18_fixed) ?_
    refine zLB ?_
    refine zgLG [.int _ _, .int _ _, .int _ _, .int _ _, .int _ _, .int _ _] ?_
    refine zgLG [.int _ _, .int _ _, .int _ _, .int _ _, .int _ _, .int _ _] ?_
    refine zgLB ?_
    refine zpLB ?_
    refine zLB ?_
    refine zgLI ?_
    refine zgLI ?_
    refine zgLB ?_
    refine zpLB ?_
    refine zLB ?_
    refine zn ?_
    refine zt ?_
    refine ends (l := [.bool _]) (q := .bool _) (.inr rfl) rfl ⟨trivial, trivial⟩ rfl rfl ?_
    congr 1
    rw [(chooseE_ask hz).1, (chooseE_ask hz).2]; simp [chan0]
end Go.AM
end
section
open Go Go.AM Go.Proofs
set_option maxRecDepth 10000
set_option linter.unusedVariables false
set_option linter.unusedSimpArgs false
namespace Go.AM
theorem cond_beq {α : Type} (a b : Int) (x y : α) : (bif a == b then x else y) = if a = b then x else y := by
  by_cases c : a = b
  · rw [if_pos c, show (a == b) = true by simpa using c]; rfl
  · rw [if_neg c, show (a == b) = false by simpa using c]; rfl
theorem holdsF_iff {a b : Span} : holdsF a b = true ↔ b.Lo ≤ b.Hi ∧ a.Lo ≤ b.Lo ∧ b.Hi ≤ a.Hi := by unfold holdsF; rw [decide_eq_true_eq]
theorem holdsF_trans {a b c : Span} (h : holdsF a b = true) (k : holdsF b c = true) : holdsF a c = true := by rw [holdsF_iff] at *; omega
def formE (p : Chan) (n : Int) : Int := if p.Part.Lo ≤ p.Part.Hi ∧ p.Total.Lo ≤ p.Total.Hi then if p.Width = 16 ∨ p.Width = 32 then if 1 ≤ p.Depth ∧ p.Depth ≤ n ∧ (p.Width = 32 → n ≤ p.Depth) then 0 else 151 else 150 else 30
theorem check_form (p : Chan) (n : Int) : Ok Try.prog 76 [.agg (chanC p), .int .i64 n] (.int .i64 (formE p n)) := by
  refine fn_ok Tb_ok (fn := Try.f76) Try.func76 rfl rfl (e := [(0, _), (1, _)]) rfl (by decide) rfl ?_
  refine zs ?_
  refine zR ?_
  refine zbx [.int _ _, .int _ _, .int _ _, .int _ _, .int _ _, .int _ _] 6 ?_
  refine zLI ?_
  refine zn ?_
  refine zs ?_
  refine W_block ?_
  refine zs ?_
  refine zR ?_
  refine zLP ?_
  refine zLG [.int _ _, .int _ _] ?_
  refine zLc (span_Valid p.Part) ?_
  refine zLB ?_
  refine zLB ?_
  refine zgLP ?_
  refine zgLG [.int _ _, .int _ _] ?_
  refine L_callg (hr := fun hg => span_Valid p.Total) rfl rfl rfl rfl rfl (fun hg => ⟨⟨(by exact hg), True.intro⟩, True.intro⟩) rfl rfl ?_
  refine zgLB ?_
  refine zpLB ?_
  refine zLB ?_
  refine zn ?_
  refine W_cond (b := _) rfl (fun h5 => ?_) (fun h5 => ?_)
  · have h1 : ¬ (p.Part.Lo ≤ p.Part.Hi ∧ p.Total.Lo ≤ p.Total.Hi) := by
      have q : (bif !decide (p.Part.Lo ≤ p.Part.Hi) then true else !decide (p.Total.Lo ≤ p.Total.Hi)) = true := h5
      intro ⟨a, b⟩; simp [a, b] at q
    refine zs ?_
    refine zR ?_
    refine zLI ?_
    refine zn ?_
    refine zt ?_
    refine ends (l := [.int _ _]) (q := .int _ _) (.inr rfl) rfl ⟨trivial, trivial⟩ rfl rfl ?_
    rw [formE, if_neg h1]
  · have h1 : p.Part.Lo ≤ p.Part.Hi ∧ p.Total.Lo ≤ p.Total.Hi := by
      have q : (bif !decide (p.Part.Lo ≤ p.Part.Hi) then true else !decide (p.Total.Lo ≤ p.Total.Hi)) = false := h5
      by_cases a : p.Part.Lo ≤ p.Part.Hi <;> by_cases b : p.Total.Lo ≤ p.Total.Hi <;> simp [a, b] at q ⊢
    refine zs ?_
    refine zR ?_
    refine zLP ?_
    refine zLI ?_
    refine zLB ?_
    refine zLB ?_
    refine zgLP ?_
    refine zgLI ?_
    refine zgLB ?_
    refine zpLB ?_
    refine zLB ?_
    refine zn ?_
    refine W_cond (b := _) rfl (fun h16 => ?_) (fun h16 => ?_)
    · have h2 : ¬ (p.Width = 16 ∨ p.Width = 32) := by
        have q : (bif p.Width != 16 then p.Width != 32 else false) = true := h16
        rintro (a | a) <;> simp [a] at q
      refine zs ?_
      refine zR ?_
      refine zLI ?_
      refine zn ?_
      refine zt ?_
      refine ends (l := [.int _ _]) (q := .int _ _) (.inr rfl) rfl ⟨trivial, trivial⟩ rfl rfl ?_
      rw [formE, if_pos h1, if_neg h2]
    · have h2 : p.Width = 16 ∨ p.Width = 32 := by
        have q : (bif p.Width != 16 then p.Width != 32 else false) = false := h16
        by_cases a : p.Width = 16
        · exact .inl a
        · right; simpa [a] using q
      refine zs ?_
      refine zR ?_
      refine zLP ?_
      refine zLI ?_
      refine zLB ?_
      refine zLB ?_
      refine zgLP ?_
      refine zgLI ?_
      refine zgLI ?_
      refine zgLB ?_
      refine zpLB ?_
      refine zLB ?_
      refine zgLP ?_
      refine zgLI ?_
      refine zgLB ?_
      refine zgLB ?_
      refine zgLP ?_
      refine zgLI ?_
      refine zgLI ?_
      refine zgLB ?_
      refine zqLB ?_
      refine zpLB ?_
      refine zLB ?_
      refine zn ?_
      refine W_cond (b := _) rfl (fun h25 => ?_) (fun h25 => ?_)
      · have h3 : ¬ (1 ≤ p.Depth ∧ p.Depth ≤ n ∧ (p.Width = 32 → n ≤ p.Depth)) := by
          have q : (bif bif decide (p.Depth < 1) then true else decide (p.Depth > n) then true else bif p.Width == 32 then decide (p.Depth < n) else false) = true := h25
          rintro ⟨a, b, c⟩
          rw [decide_eq_false (show ¬ p.Depth < 1 by omega), decide_eq_false (show ¬ p.Depth > n by omega)] at q
          by_cases d : p.Width = 32
          · have := c d; simp [d] at q; omega
          · simp [d] at q
        refine zs ?_
        refine zR ?_
        refine zLI ?_
        refine zn ?_
        refine zt ?_
        refine ends (l := [.int _ _]) (q := .int _ _) (.inr rfl) rfl ⟨trivial, trivial⟩ rfl rfl ?_
        rw [formE, if_pos h1, if_pos h2, if_neg h3]
      · have h3 : 1 ≤ p.Depth ∧ p.Depth ≤ n ∧ (p.Width = 32 → n ≤ p.Depth) := by
          have q : (bif bif decide (p.Depth < 1) then true else decide (p.Depth > n) then true else bif p.Width == 32 then decide (p.Depth < n) else false) = false := h25
          by_cases a : p.Depth < 1
          · simp [a] at q
          · by_cases b : p.Depth > n
            · simp [a, b] at q
            · refine ⟨by omega, by omega, fun d => ?_⟩
              simp [a, b, d] at q; omega
        refine zk ?_
        refine zs ?_
        refine zR ?_
        refine zLI ?_
        refine zn ?_
        refine zt ?_
        refine ends (l := [.int _ _]) (q := .int _ _) (.inr rfl) rfl ⟨trivial, trivial⟩ rfl rfl ?_
        rw [formE, if_pos h1, if_pos h2, if_pos h3]
def regS (w : Int) : Span := if w = 16 then wordS else longS
theorem check_reg16 : Ok Try.prog 77 [.int .i64 16] (.agg (spanC wordS)) := by
  refine fn_ok Tb_ok (fn := Try.f77) Try.func77 rfl rfl (e := [(0, _)]) rfl (by decide) rfl ?_
  refine zs ?_
  refine zR ?_
  refine zal [.int .i64 0, .int .i64 0] 2 ?_
  refine zn ?_
  refine zs ?_
  refine zR ?_
  refine zLI ?_
  refine zLI ?_
  refine L_v Tb_ok (v := .int _ _) (av rfl ⟨trivial, (by decide)⟩) rfl ?_
  refine zLI ?_
  refine zn ?_
  refine zs ?_
  refine zR ?_
  refine zLI ?_
  refine zLI ?_
  refine zLI ?_
  refine zLI ?_
  refine zLG [.int _ _, .int _ _] ?_
  refine zst (.agg [.int _ _, .int _ _]) [_, _] [[_, _]] ?_
  refine zn ?_
  refine zt ?_
  refine ends (l := [.agg [.int _ _, .int _ _]]) (q := .agg [.int _ _, .int _ _]) (.inr rfl) rfl ⟨rfl, trivial⟩ rfl rfl ?_
  rfl
theorem check_reg32 : Ok Try.prog 77 [.int .i64 32] (.agg (spanC longS)) := by
  refine fn_ok Tb_ok (fn := Try.f77) Try.func77 rfl rfl (e := [(0, _)]) rfl (by decide) rfl ?_
  refine zs ?_
  refine zR ?_
  refine zal [.int .i64 0, .int .i64 0] 2 ?_
  refine zn ?_
  refine zs ?_
  refine zR ?_
  refine zLI ?_
  refine zLI ?_
  refine L_v Tb_ok (v := .int _ _) (av rfl ⟨trivial, (by decide)⟩) rfl ?_
  refine zLI ?_
  refine zn ?_
  refine zs ?_
  refine zR ?_
  refine zLI ?_
  refine zLI ?_
  refine zLI ?_
  refine zLI ?_
  refine zLG [.int _ _, .int _ _] ?_
  refine zst (.agg [.int _ _, .int _ _]) [_, _] [[_, _]] ?_
  refine zn ?_
  refine zt ?_
  refine ends (l := [.agg [.int _ _, .int _ _]]) (q := .agg [.int _ _, .int _ _]) (.inr rfl) rfl ⟨rfl, trivial⟩ rfl rfl ?_
  rfl
theorem check_reg {w : Int} (h : w = 16 ∨ w = 32) : Ok Try.prog 77 [.int .i64 w] (.agg (spanC (regS w))) := by
  rcases h with rfl | rfl
  · exact check_reg16
  · exact check_reg32
def chanE (m : Model) (op ch : Int) (s : Span) (p : Chan) : Int :=
  if askE m op ch s = 0 then if formE p (findS m op).Len = 0 then
    if holdsF longS (runS m op ch s) = true ∧ holdsF (regS p.Width) p.Part = true ∧ holdsF longS p.Total = true then
      if holdsF p.Part (if p.Width = 16 then partS m op ch s p.Depth else runS m op ch s) = true then if holdsF p.Total (totS m op ch s) = true then 0 else 153 else 152
    else 154 else formE p (findS m op).Len else askE m op ch s
theorem form_zero {p : Chan} {n : Int} (h : formE p n = 0) : (p.Part.Lo ≤ p.Part.Hi ∧ p.Total.Lo ≤ p.Total.Hi) ∧ (p.Width = 16 ∨ p.Width = 32) ∧ 1 ≤ p.Depth ∧ p.Depth ≤ n ∧ (p.Width = 32 → n ≤ p.Depth) := by
  unfold formE at h
  split at h
  · rename_i h1
    split at h
    · rename_i h2
      split at h
      · rename_i h3; exact ⟨h1, h2, h3⟩
      · omega
    · omega
  · omega
theorem check_Chan (m : Model) (hm : m.Wf) (op ch : Int) (s : Span) (p : Chan) : Ok Try.prog 38 [.agg (modelC m), .int .i64 op, .int .i64 ch, .agg (spanC s), .agg (chanC p)] (.int .i64 (chanE m op ch s p)) := by
  --@@1
  skip
  refine fn_ok Tb_ok (fn := Try.f38) Try.func38 rfl rfl (e := [(0, _), (1, _), (2, _), (3, _), (4, _)]) rfl (by decide) rfl ?_
  refine zs ?_
  refine zR ?_
  refine zbx [.int _ _, .int _ _, .int _ _, .int _ _, .int _ _, _, .int _ _] 7 ?_
  refine zbx [.int _ _, .int _ _] 2 ?_
  refine zbx [.int _ _, .int _ _, .int _ _, .int _ _, .int _ _, .int _ _] 6 ?_
  refine zLI ?_
  refine zn ?_
  refine zs ?_
  refine zR ?_
  refine zLG [.int _ _, .int _ _, .int _ _, .int _ _, .int _ _, _, .int _ _] ?_
  refine zLI ?_
  refine zLI ?_
  refine zLG [.int _ _, .int _ _] ?_
  refine zLc (bound_Run m hm op ch s) ?_
  refine zLT [_, _] ?_
  refine zLG [.int _ _, .int _ _] ?_
  refine zLI ?_
  refine zal [.int .i64 0, .int .i64 0] 2 ?_
  refine zst (.agg [.int _ _, .int _ _]) [_, _] [[_, _]] ?_
  refine zLI ?_
  refine zn ?_
  refine zs ?_
  refine zs ?_
  refine zR ?_
  refine zLI ?_
  refine zLB ?_
  refine zn ?_
  refine W_cond (b := _) rfl (fun h28 => ?_) (fun h28 => ?_)
  · have hz : ¬ askE m op ch s = 0 := by simpa using h28
    refine zs ?_
    refine zR ?_
    refine zLI ?_
    refine zLI ?_
    refine zn ?_
    refine zt ?_
    refine ends (l := [.int _ _]) (q := .int _ _) (.inr rfl) rfl ⟨trivial, trivial⟩ rfl rfl ?_
    rw [chanE, if_neg hz]
  · have hz : askE m op ch s = 0 := by simpa using h28
    refine zk ?_
    refine zs ?_
    refine zR ?_
    refine zLG [.int _ _, .int _ _, .int _ _, .int _ _, .int _ _, _, .int _ _] ?_
    refine zLI ?_
    refine zLc (terms_Length m op) ?_
    refine zLT [_, _] ?_
    refine zLI ?_
    refine zLI ?_
    refine zLI ?_
    refine zLI ?_
    refine zn ?_
    refine zs ?_
    refine zs ?_
    refine zR ?_
    refine zLG [.int _ _, .int _ _, .int _ _, .int _ _, .int _ _, .int _ _] ?_
    refine zLI ?_
    refine zLc (check_form p _) ?_
    refine zLI ?_
    refine zn ?_
    refine zs ?_
    refine zR ?_
    refine zLI ?_
    refine zLB ?_
    refine zn ?_
    refine W_cond (b := _) rfl (fun h40 => ?_) (fun h40 => ?_)
    · have hf : ¬ formE p (findS m op).Len = 0 := by simpa using h40
      refine zs ?_
      refine zR ?_
      refine zLI ?_
      refine zLI ?_
      refine zn ?_
      refine zt ?_
      refine ends (l := [.int _ _]) (q := .int _ _) (.inr rfl) rfl ⟨trivial, trivial⟩ rfl rfl ?_
      rw [chanE, if_pos hz, if_neg hf]
    · have hf : formE p (findS m op).Len = 0 := by simpa using h40
      have hfz := form_zero hf
      refine zk ?_
      refine zs ?_
      refine zR ?_
      refine zLc (check_reg32) ?_
      refine zal [.int .i64 0, .int .i64 0] 2 ?_
      refine zst (.agg [.int _ _, .int _ _]) [_, _] [[_, _]] ?_
      refine zn ?_
      refine zs ?_
      refine zs ?_
      refine W_draw 20 Tb_mixed rfl (by decide) (by kernel_rfl) (by kernel_rfl) ?_
      refine zEG [.int _ _, .int _ _] ?_
      refine zEG [.int _ _, .int _ _] ?_
      refine zEc (span_Holds longS (runS m op ch s)) ?_
      refine zEB ?_
      refine zEB ?_
      refine zgEP ?_
      refine zgEI ?_
      refine E_callg (hr := fun hg => check_reg hfz.2.1) rfl rfl rfl rfl rfl (fun hg => ⟨⟨(by exact hg), True.intro⟩, True.intro⟩) rfl rfl ?_
      refine zgEP ?_
      refine zgEG [.int _ _, .int _ _] ?_
      refine E_callg (hr := fun hg => span_Holds (regS p.Width) p.Part) rfl rfl rfl rfl rfl (fun hg => ⟨⟨(by exact hg), True.intro⟩, ⟨⟨(by exact hg), True.intro⟩, True.intro⟩⟩) rfl rfl ?_
      refine zgEB ?_
      refine zpEB ?_
      refine zEB ?_
      refine zgEG [.int _ _, .int _ _] ?_
      refine zgEP ?_
      refine zgEG [.int _ _, .int _ _] ?_
      refine E_callg (hr := fun hg => span_Holds longS p.Total) rfl rfl rfl rfl rfl (fun hg => ⟨⟨(by exact hg), True.intro⟩, ⟨⟨(by exact hg), True.intro⟩, True.intro⟩⟩) rfl rfl ?_
      refine zgEB ?_
      refine zpEB ?_
      refine LexE_nil ?_
      refine zn ?_
      refine W_cond (b := _) rfl (fun h62 => ?_) (fun h62 => ?_)
      · have h3 : ¬ (holdsF longS (runS m op ch s) = true ∧ holdsF (regS p.Width) p.Part = true ∧ holdsF longS p.Total = true) := by
          have q : (bif bif !holdsF longS (runS m op ch s) then true else !holdsF (regS p.Width) p.Part then true else !holdsF longS p.Total) = true := h62
          rintro ⟨a, b, c⟩; simp [a, b, c] at q
        refine zs ?_
        refine zR ?_
        refine zLI ?_
        refine zn ?_
        refine zt ?_
        refine ends (l := [.int _ _]) (q := .int _ _) (.inr rfl) rfl ⟨trivial, trivial⟩ rfl rfl ?_
        rw [chanE, if_pos hz, if_pos hf, if_neg h3]
      · have h3 : holdsF longS (runS m op ch s) = true ∧ holdsF (regS p.Width) p.Part = true ∧ holdsF longS p.Total = true := by
          have q : (bif bif !holdsF longS (runS m op ch s) then true else !holdsF (regS p.Width) p.Part then true else !holdsF longS p.Total) = false := h62
          cases a : holdsF longS (runS m op ch s) <;> cases b : holdsF (regS p.Width) p.Part <;> cases c : holdsF longS p.Total <;> simp [a, b, c] at q ⊢
        refine zk ?_
        refine zs ?_
        refine zs ?_
        refine zR ?_
        refine zLP ?_
        refine zLI ?_
        refine zLB ?_
        refine zn ?_
        refine W_iftB (b := _) rfl [(1, .int _ _), (2, .int _ _), (5, .ptr 0 0 0), (8, .ptr 1 0 0), (9, .ptr 2 0 0), (11, .ptr 3 0 0)] (fun (z : Bool) => []) [(0, some ⟨_, _, _, _⟩), (1, some ⟨_, _, _, _⟩), (2, some ⟨_, _, _, _⟩)] (fun (z : Bool) => [(3, some ⟨28, 2, 0, [spanC (bif z then partS m op ch s p.Depth else runS m op ch s)]⟩)]) [] (fun (z : Bool) => []) 4 ⟨rfl, rfl, rfl, rfl, rfl, rfl, trivial⟩ ⟨.inr rfl, .inr rfl, .inr rfl, trivial⟩ trivial (fun h65 => ?_) (fun h65 => ?_) ?_
        · refine zR ?_
          refine zLG [.int _ _, .int _ _, .int _ _, .int _ _, .int _ _, _, .int _ _] ?_
          refine zLI ?_
          refine zLI ?_
          refine zLG [.int _ _, .int _ _] ?_
          refine zLP ?_
          refine zLI ?_
          refine zLc (bound_Part m hm op ch s p.Depth) ?_
          refine zLT [_, _] ?_
          refine zLG [.int _ _, .int _ _] ?_
          refine zLI ?_
          refine zst (.agg [.int _ _, .int _ _]) [_, _] [[_, _]] ?_
          refine zn ?_
          exact ⟨trivial, (le_fit (sub_cat trivial ⟨rfl, rfl, rfl, rfl, rfl, rfl, trivial⟩) (subO_cat ⟨.inr rfl, trivial⟩ ⟨.inr rfl, .inr rfl, .inr rfl, trivial⟩) (subK_cat trivial trivial) rfl rfl rfl rfl rfl)⟩
        · refine zk ?_
          exact ⟨trivial, (le_fit (sub_cat trivial ⟨rfl, rfl, rfl, rfl, rfl, rfl, trivial⟩) (subO_cat ⟨.inr rfl, trivial⟩ ⟨.inr rfl, .inr rfl, .inr rfl, trivial⟩) (subK_cat trivial trivial) rfl rfl rfl rfl rfl)⟩
        refine W.of_le (s' := ⟨[(1, .int _ _), (2, .int _ _), (5, .ptr 0 0 0), (8, .ptr 1 0 0), (9, .ptr 2 0 0), (11, .ptr 3 0 0)], [(3, some ⟨28, 2, 0, [spanC (bif _ then partS m op ch s p.Depth else runS m op ch s)]⟩), (0, some ⟨_, _, _, _⟩), (1, some ⟨_, _, _, _⟩), (2, some ⟨_, _, _, _⟩)], [], 4⟩) (le_fit ⟨rfl, rfl, rfl, rfl, rfl, rfl, trivial⟩ ⟨.inr rfl, .inr rfl, .inr rfl, .inr rfl, trivial⟩ trivial rfl rfl rfl rfl rfl) ?_
        have hbb : (bif p.Width == 16 then partS m op ch s p.Depth else runS m op ch s) = if p.Width = 16 then partS m op ch s p.Depth else runS m op ch s := cond_beq _ _ _ _
        refine zs ?_
        refine zs ?_
        refine zR ?_
        refine zLP ?_
        refine zLG [.int _ _, .int _ _] ?_
        refine zLG [.int _ _, .int _ _] ?_
        refine zLc (span_Holds p.Part (bif p.Width == 16 then partS m op ch s p.Depth else runS m op ch s)) ?_
        refine zLB ?_
        refine zn ?_
        refine W_cond (b := _) rfl (fun h80 => ?_) (fun h80 => ?_)
        · have h4 : ¬ holdsF p.Part (if p.Width = 16 then partS m op ch s p.Depth else runS m op ch s) = true := by rw [← hbb]; simpa using h80
          refine zs ?_
          refine zR ?_
          refine zLI ?_
          refine zn ?_
          refine zt ?_
          refine ends (l := [.int _ _]) (q := .int _ _) (.inr rfl) rfl ⟨trivial, trivial⟩ rfl rfl ?_
          rw [chanE, if_pos hz, if_pos hf, if_pos h3, if_neg h4]
        · have h4 : holdsF p.Part (if p.Width = 16 then partS m op ch s p.Depth else runS m op ch s) = true := by rw [← hbb]; simpa using h80
          refine zk ?_
          refine zs ?_
          refine zs ?_
          refine zR ?_
          refine zLG [.int _ _, .int _ _, .int _ _, .int _ _, .int _ _, _, .int _ _] ?_
          refine zLI ?_
          refine zLI ?_
          refine zLG [.int _ _, .int _ _] ?_
          refine zLc (bound_Total m hm op ch s) ?_
          refine zLT [_, _] ?_
          refine zLG [.int _ _, .int _ _] ?_
          refine zLI ?_
          refine zal [.int .i64 0, .int .i64 0] 2 ?_
          refine zst (.agg [.int _ _, .int _ _]) [_, _] [[_, _]] ?_
          refine zLI ?_
          refine zn ?_
          refine zs ?_
          refine zR ?_
          refine zLP ?_
          refine zLG [.int _ _, .int _ _] ?_
          refine zLG [.int _ _, .int _ _] ?_
          refine zLc (span_Holds p.Total (totS m op ch s)) ?_
          refine zLB ?_
          refine zn ?_
          refine W_cond (b := _) rfl (fun h93 => ?_) (fun h93 => ?_)
          · have h5 : ¬ holdsF p.Total (totS m op ch s) = true := by simpa using h93
            refine zs ?_
            refine zR ?_
            refine zLI ?_
            refine zn ?_
            refine zt ?_
            refine ends (l := [.int _ _]) (q := .int _ _) (.inr rfl) rfl ⟨trivial, trivial⟩ rfl rfl ?_
            rw [chanE, if_pos hz, if_pos hf, if_pos h3, if_pos h4, if_neg h5]
          · have h5 : holdsF p.Total (totS m op ch s) = true := by simpa using h93
            refine zk ?_
            refine zs ?_
            refine zR ?_
            refine zLI ?_
            refine zn ?_
            refine zt ?_
            refine ends (l := [.int _ _]) (q := .int _ _) (.inr rfl) rfl ⟨trivial, trivial⟩ rfl rfl ?_
            rw [chanE, if_pos hz, if_pos hf, if_pos h3, if_pos h4, if_pos h5]
end Go.AM
end
section
open Go Go.AM Go.Proofs
set_option maxRecDepth 10000
set_option linter.unusedVariables false
set_option linter.unusedSimpArgs false
namespace Go.AM
theorem most_pos {m : Model} (hm : m.Wf) {op ch : Int} {s : Span} (hs : askE m op ch s = 0) : 0 < mostM m op ch s ↔ okW (partS m op ch s 1) = true := by
  have hL := (site_ok (askE_zero hs).2.2).1.len
  constructor
  · intro h
    have h1 := mostD_ok _ _ (show mostM m op ch s ≠ 0 by omega)
    have hle := mostM_le m op ch s
    have h2 := ((okW_key hm hs (D := mostM m op ch s) (by omega) hle).1 h1).1
    refine (okW_key hm hs (D := 1) (Nat.le_refl _) (by omega)).2 ⟨h2, fun i _ hi => ?_⟩
    rw [bears_len] at hi ⊢
    have := h2 i hi; omega
  · intro h
    have := mostD_max (fun d : Nat => okW (partS m op ch s (d : Int))) (findS m op).Len.toNat 1 (by omega) h
    exact this
theorem most_okW {m : Model} {op ch : Int} {s : Span} {d : Nat} (h1 : 1 ≤ d) (h2 : mostM m op ch s ≤ d) (h3 : d ≤ (findS m op).Len.toNat) : ((d : Int) == (mostM m op ch s : Int)) = okW (partS m op ch s (d : Int)) := by
  by_cases e : d = mostM m op ch s
  · have : okW (partS m op ch s (mostM m op ch s : Int)) = true := mostD_ok (fun d : Nat => okW (partS m op ch s (d : Int))) _ (show mostM m op ch s ≠ 0 by omega)
    rw [e, this]; simp
  · rw [show ((d : Int) == (mostM m op ch s : Int)) = false by simp; omega]
    cases c : okW (partS m op ch s (d : Int)) with
    | false => rfl
    | true =>
      have : d ≤ mostM m op ch s := mostD_max (fun d : Nat => okW (partS m op ch s (d : Int))) _ d h3 c
      omega
theorem depthLargest (a : Ask18) (ha : a.Wf) : Ok Try.prog 9 [.agg (ask18C a)] (.bool true) := by
  have hP := bound_Product a.M ha.1 a.Op a.Ch a.S
  rw [partE_one] at hP
  have hM := depth_Most a.M ha.1 a.Op a.Ch a.S
  have hL := terms_Length a.M a.Op
  by_cases hz : askE a.M a.Op a.Ch a.S = 0
  · have f0 := (askE_zero hz).2.2
    have hLb := (site_ok f0).1.len
    obtain ⟨n, hn⟩ : ∃ n : Nat, n = (findS a.M a.Op).Len.toNat := ⟨_, rfl⟩
    have hkn : mostM a.M a.Op a.Ch a.S ≤ n := by rw [hn]; exact mostM_le _ _ _ _
    rw [hz] at hP
    rw [mostS, if_pos hz, hz] at hM
    rw [f0, show (findS a.M a.Op).Len = (n : Int) by omega] at hL
    have hpos := most_pos ha.1 hz
    have hlast : ∀ d : Nat, 1 ≤ d → mostM a.M a.Op a.Ch a.S ≤ d → d ≤ n → ((d : Int) == (mostM a.M a.Op a.Ch a.S : Int)) = okW (partS a.M a.Op a.Ch a.S (d : Int)) := fun d h1 h2 h3 => most_okW h1 h2 (by omega)
    have hpE : ∀ d : Nat, 1 ≤ d → d ≤ n → partE a.M a.Op a.Ch a.S (d : Int) = 0 := fun d h1 h2 => (partE_ok ha.1 hz).2 ⟨by omega, by omega⟩
    have hnb : n ≤ 512 := by omega
    clear hn hLb
    generalize mostM a.M a.Op a.Ch a.S = k at *
    --@@1
    skip
    refine fn_ok Tb_ok (fn := Try.f9) Try.func9 rfl rfl (e := [(0, _)]) rfl (by decide) rfl ?_
    refine zs ?_
    refine zR ?_
    refine zbx [.int _ _, .int _ _, .int _ _, .int _ _, .int _ _, _, .int _ _, .int _ _, .int _ _, .int _ _, .int _ _, .int _ _, .int _ _, .int _ _, .int _ _, .int _ _, .int _ _, .int _ _, .int _ _, .int _ _] 20 ?_
    refine zLB ?_
    refine zn ?_
    refine zs ?_
    refine zs ?_
    refine zR ?_
    refine zLc (law18_fixed) ?_
    refine zLB ?_
    refine zn ?_
    refine W_cond_f (b := _) rfl (by rfl) ?_
    refine zk ?_
    refine zs ?_
    refine zR ?_
    refine zLP ?_
    refine zLG [.int _ _, .int _ _, .int _ _, .int _ _, .int _ _, _, .int _ _] ?_
    refine zLP ?_
    refine zLI ?_
    refine zLP ?_
    refine zLI ?_
    refine zLP ?_
    refine zLG [.int _ _, .int _ _] ?_
    refine zLc (hM) ?_
    refine zLT [_, _] ?_
    refine zLI ?_
    refine zLI ?_
    refine zLI ?_
    refine zLI ?_
    refine zn ?_
    refine zs ?_
    refine zR ?_
    refine zLP ?_
    refine zLG [.int _ _, .int _ _, .int _ _, .int _ _, .int _ _, _, .int _ _] ?_
    refine zLP ?_
    refine zLI ?_
    refine zLc (hL) ?_
    refine zLT [_, _] ?_
    refine zLI ?_
    refine zLI ?_
    refine zLI ?_
    refine zLI ?_
    refine zn ?_
    refine zs ?_
    refine zR ?_
    refine zLP ?_
    refine zLG [.int _ _, .int _ _, .int _ _, .int _ _, .int _ _, _, .int _ _] ?_
    refine zLP ?_
    refine zLI ?_
    refine zLP ?_
    refine zLI ?_
    refine zLP ?_
    refine zLG [.int _ _, .int _ _] ?_
    refine zLc (hP) ?_
    refine zLT [_, _] ?_
    refine zLG [.int _ _, .int _ _] ?_
    refine zLI ?_
    refine zal [.int .i64 0, .int .i64 0] 2 ?_
    refine zst (.agg [.int _ _, .int _ _]) [_, _] [[_, _]] ?_
    refine zLI ?_
    refine zn ?_
    refine zs ?_
    refine zs ?_
    refine zR ?_
    refine zLI ?_
    refine zLB ?_
    refine zLB ?_
    refine zgLI ?_
    refine zgLB ?_
    refine zpLB ?_
    refine zLB ?_
    refine zgLI ?_
    refine zgLB ?_
    refine zpLB ?_
    refine zn ?_
    refine W_cond_f (b := _) rfl (by rfl) ?_
    refine zk ?_
    refine zs ?_
    refine zR ?_
    refine zLG [.int _ _, .int _ _] ?_
    refine zal [.int .i64 0, .int .i64 0] 2 ?_
    refine zst (.agg [.int _ _, .int _ _]) [_, _] [[_, _]] ?_
    refine zn ?_
    refine zs ?_
    refine zs ?_
    refine zR ?_
    refine zLI ?_
    refine zLB ?_
    refine zLB ?_
    refine zgLI ?_
    refine zgLI ?_
    refine zgLB ?_
    refine zpLB ?_
    refine zLB ?_
    refine zgLI ?_
    refine zgLB ?_
    refine zgLG [.int _ _, .int _ _] ?_
    refine zgLG [.int _ _, .int _ _] ?_
    refine L_callg (hr := fun hg => span_Holds wordS (partS a.M a.Op a.Ch a.S 1)) rfl rfl rfl rfl rfl (fun hg => ⟨⟨(by exact hg), True.intro⟩, ⟨⟨(by exact hg), True.intro⟩, True.intro⟩⟩) rfl rfl ?_
    refine zgLB ?_
    refine zpLB ?_
    refine zn ?_
    refine W_cond (b := _) rfl (fun h81 => ?_) (fun h81 => ?_)
    · exfalso
      have q : (bif bif decide ((k : Int) < 0) then true else decide ((k : Int) > (n : Int)) then true else ((k : Int) == 0) == okW (partS a.M a.Op a.Ch a.S 1)) = true := h81
      rw [decide_eq_false (show ¬ (k : Int) < 0 by omega), decide_eq_false (show ¬ (k : Int) > (n : Int) by omega)] at q
      simp only [cond_false, beq_iff_eq] at q
      by_cases c : 0 < k
      · rw [hpos.1 c] at q; simp at q; omega
      · obtain rfl : k = 0 := by omega
        have : okW (partS a.M a.Op a.Ch a.S 1) = true := by rw [← q]; rfl
        exact c (hpos.2 this)
    · have hmx : (if (k : Int) > 1 then (k : Int) else 1) = ((max 1 k : Nat) : Int) := by split <;> omega
      refine zk ?_
      refine zs ?_
      refine zs ?_
      refine zR ?_
      refine zLI ?_
      refine zLI ?_
      refine zLI ?_
      refine zn ?_
      refine W_block ?_
      refine W_inv (ι := {d : Nat // max 1 k ≤ d ∧ d ≤ n + 1}) (fun d => ⟨[(1, .ptr 0 0 0), (3, .int .i64 (k : Int)), (5, .int .i64 (n : Int)), (9, .ptr 2 0 0), (10, .int .i64 (d.1 : Int))], [(0, some ⟨65, 20, 0, [ask18C a]⟩), (2, some ⟨28, 2, 0, [spanC wordS]⟩)], [], 3⟩) (fun d => n + 1 - d.1) ⟨max 1 k, Nat.le_refl _, by omega⟩ (le_fit ⟨rfl, rfl, rfl, rfl, congrArg (AV.int .i64) hmx, trivial⟩ ⟨.inr rfl, .inr rfl, trivial⟩ trivial rfl rfl rfl rfl rfl) ?_
      rintro ⟨d, hd, hd2⟩
      dsimp only
      refine zs ?_
      refine zs ?_
      refine zR ?_
      refine zLI ?_
      refine zLI ?_
      refine zLB ?_
      refine zLB ?_
      refine zgLI ?_
      refine zgLI ?_
      refine zgLI ?_
      refine zgLB ?_
      refine zpLB ?_
      refine zn ?_
      refine W_cond (b := _) rfl (fun h92 => ?_) (fun h92 => ?_)
      · have hdn : d ≤ n := by
          have q : (bif decide ((d : Int) ≤ (n : Int)) then decide ((d : Int) < IntKind.i64.wrap ((k : Int) + 40)) else false) = true := h92
          by_cases c : (d : Int) ≤ (n : Int)
          · omega
          · rw [decide_eq_false c] at q; cases q
        have p0 := hpE d (by omega) hdn
        have sB : safeB a.M a.Op a.Ch a.S (d : Int) = okW (partS a.M a.Op a.Ch a.S (d : Int)) := by unfold safeB; rw [p0]; rfl
        have kd := hlast d (by omega) (by omega) hdn
        refine zk ?_
        refine zs ?_
        refine W_block ?_
        refine zs ?_
        refine zR ?_
        refine zLP ?_
        refine zLG [.int _ _, .int _ _, .int _ _, .int _ _, .int _ _, _, .int _ _] ?_
        refine zLP ?_
        refine zLI ?_
        refine zLP ?_
        refine zLI ?_
        refine zLP ?_
        refine zLG [.int _ _, .int _ _] ?_
        refine zLI ?_
        refine zLc (depth_Safe a.M ha.1 a.Op a.Ch a.S (d : Int)) ?_
        refine zLT [_, _] ?_
        refine zLB ?_
        refine zLI ?_
        refine zLB ?_
        refine zLI ?_
        refine zn ?_
        refine zs ?_
        refine zR ?_
        refine zLP ?_
        refine zLG [.int _ _, .int _ _, .int _ _, .int _ _, .int _ _, _, .int _ _] ?_
        refine zLP ?_
        refine zLI ?_
        refine zLP ?_
        refine zLI ?_
        refine zLP ?_
        refine zLG [.int _ _, .int _ _] ?_
        refine zLI ?_
        refine zLc (bound_Part a.M ha.1 a.Op a.Ch a.S (d : Int)) ?_
        refine zLT [_, _] ?_
        refine zLG [.int _ _, .int _ _] ?_
        refine zLI ?_
        refine zal [.int .i64 0, .int .i64 0] 2 ?_
        refine zst (.agg [.int _ _, .int _ _]) [_, _] [[_, _]] ?_
        refine zLI ?_
        refine zn ?_
        refine zs ?_
        refine zR ?_
        refine zLI ?_
        refine zLB ?_
        refine zLB ?_
        refine zgLI ?_
        refine zgLB ?_
        refine zpLB ?_
        refine zLB ?_
        refine zgLB ?_
        refine zgLI ?_
        refine zgLI ?_
        refine zgLB ?_
        refine zgLB ?_
        refine zpLB ?_
        refine zLB ?_
        refine zgLB ?_
        refine zgLG [.int _ _, .int _ _] ?_
        refine zgLG [.int _ _, .int _ _] ?_
        refine L_callg (hr := fun hg => span_Holds wordS (partS a.M a.Op a.Ch a.S (d : Int))) rfl rfl rfl rfl rfl (fun hg => ⟨⟨(by exact hg), True.intro⟩, ⟨⟨(by exact hg), True.intro⟩, True.intro⟩⟩) rfl rfl ?_
        refine zgLB ?_
        refine zpLB ?_
        refine zn ?_
        refine W_cond (b := _) rfl (fun h140 => ?_) (fun h140 => ?_)
        · exfalso
          have q : (bif bif bif partE a.M a.Op a.Ch a.S (d : Int) != 0 then true else partE a.M a.Op a.Ch a.S (d : Int) != 0 then true else safeB a.M a.Op a.Ch a.S (d : Int) != ((d : Int) == (k : Int)) then true else safeB a.M a.Op a.Ch a.S (d : Int) != okW (partS a.M a.Op a.Ch a.S (d : Int))) = true := h140
          rw [p0, sB, kd] at q; simp at q
        · refine zk ?_
          refine zR ?_
          refine zLI ?_
          refine zLI ?_
          refine zLI ?_
          refine zn ?_
          refine round_end (Q := fun _ _ => True) ⟨d + 1, by omega, by omega⟩ (by dsimp only; omega) (le_fit ⟨rfl, rfl, rfl, rfl, congrArg (AV.int .i64) (show IntKind.i64.wrap ((d : Int) + 1) = ((d + 1 : Nat) : Int) from (w64_id (by omega)).trans (by omega)), trivial⟩ ⟨.inr rfl, .inr rfl, trivial⟩ trivial rfl rfl rfl rfl rfl)
      · refine W_exit ?_
        repeat (first | refine pass_then ?_ | refine pass_round ?_)
        refine blockQ_hit ?_
        refine zs ?_
        refine zR ?_
        refine zLB ?_
        refine zn ?_
        refine zt ?_
        refine ends (l := [.bool _]) (q := .bool _) (.inr rfl) rfl ⟨trivial, trivial⟩ rfl rfl ?_
        rfl
  · rw [mostS, if_neg hz] at hM
    --@@2
    skip
    refine fn_ok Tb_ok (fn := Try.f9) Try.func9 rfl rfl (e := [(0, _)]) rfl (by decide) rfl ?_
    refine zs ?_
    refine zR ?_
    refine zbx [.int _ _, .int _ _, .int _ _, .int _ _, .int _ _, _, .int _ _, .int _ _, .int _ _, .int _ _, .int _ _, .int _ _, .int _ _, .int _ _, .int _ _, .int _ _, .int _ _, .int _ _, .int _ _, .int _ _] 20 ?_
    refine zLB ?_
    refine zn ?_
    refine zs ?_
    refine zs ?_
    refine zR ?_
    refine zLc (law18_fixed) ?_
    refine zLB ?_
    refine zn ?_
    refine W_cond_f (b := _) rfl (by rfl) ?_
    refine zk ?_
    refine zs ?_
    refine zR ?_
    refine zLP ?_
    refine zLG [.int _ _, .int _ _, .int _ _, .int _ _, .int _ _, _, .int _ _] ?_
    refine zLP ?_
    refine zLI ?_
    refine zLP ?_
    refine zLI ?_
    refine zLP ?_
    refine zLG [.int _ _, .int _ _] ?_
    refine zLc (hM) ?_
    refine zLT [_, _] ?_
    refine zLI ?_
    refine zLI ?_
    refine zLI ?_
    refine zLI ?_
    refine zn ?_
    refine zs ?_
    refine zR ?_
    refine zLP ?_
    refine zLG [.int _ _, .int _ _, .int _ _, .int _ _, .int _ _, _, .int _ _] ?_
    refine zLP ?_
    refine zLI ?_
    refine zLc (hL) ?_
    refine zLT [_, _] ?_
    refine zLI ?_
    refine zLI ?_
    refine zLI ?_
    refine zLI ?_
    refine zn ?_
    refine zs ?_
    refine zR ?_
    refine zLP ?_
    refine zLG [.int _ _, .int _ _, .int _ _, .int _ _, .int _ _, _, .int _ _] ?_
    refine zLP ?_
    refine zLI ?_
    refine zLP ?_
    refine zLI ?_
    refine zLP ?_
    refine zLG [.int _ _, .int _ _] ?_
    refine zLc (hP) ?_
    refine zLT [_, _] ?_
    refine zLG [.int _ _, .int _ _] ?_
    refine zLI ?_
    refine zal [.int .i64 0, .int .i64 0] 2 ?_
    refine zst (.agg [.int _ _, .int _ _]) [_, _] [[_, _]] ?_
    refine zLI ?_
    refine zn ?_
    refine zs ?_
    refine zs ?_
    refine zR ?_
    refine zLI ?_
    refine zLB ?_
    refine zLB ?_
    refine zgLI ?_
    refine zgLB ?_
    refine zpLB ?_
    refine zLB ?_
    refine zgLI ?_
    refine zgLB ?_
    refine zpLB ?_
    refine zn ?_
    refine W_cond (b := _) rfl (fun h58 => ?_) (fun h58 => ?_)
    · refine zs ?_
      refine zR ?_
      refine zLI ?_
      refine zLB ?_
      refine zLB ?_
      refine zgLI ?_
      refine zgLI ?_
      refine zgLB ?_
      refine zpLB ?_
      refine zLB ?_
      refine zn ?_
      refine zt ?_
      refine ends (l := [.bool _]) (q := .bool _) (.inr rfl) rfl ⟨trivial, trivial⟩ rfl rfl ?_
      simp
    · exfalso
      have q : (bif bif askE a.M a.Op a.Ch a.S != 0 then true else findE a.M a.Op != 0 then true else askE a.M a.Op a.Ch a.S != 0) = false := h58
      simp [hz] at q
end Go.AM
end
section
open Go Go.AM Go.Proofs
set_option maxRecDepth 10000
set_option linter.unusedVariables false
set_option linter.unusedSimpArgs false
namespace Go.AM
theorem okW_mono {m : Model} (hm : m.Wf) {op ch : Int} {s t : Span} (hs : askE m op ch s = 0) (ht : askE m op ch t = 0) (h : subS t s) {d : Int} (hk : okW (partS m op ch s d) = true) : okW (partS m op ch t d) = true :=
  holdsF_trans hk (nest_parts hm ht hs h)
theorem most_mono {m : Model} (hm : m.Wf) {op ch : Int} {s t : Span} (hs : askE m op ch s = 0) (ht : askE m op ch t = 0) (h : subS t s) : mostM m op ch s ≤ mostM m op ch t := by
  by_cases c : mostM m op ch s = 0
  · omega
  · have h1 : okW (partS m op ch s (mostM m op ch s : Int)) = true := mostD_ok (fun d : Nat => okW (partS m op ch s (d : Int))) _ c
    exact mostD_max (fun d : Nat => okW (partS m op ch t (d : Int))) _ _ (mostM_le m op ch s) (okW_mono hm hs ht h h1)
theorem partE_eq {m : Model} {op ch : Int} {s t : Span} (hs : askE m op ch s = 0) (ht : askE m op ch t = 0) (d : Int) : partE m op ch s d = partE m op ch t d := by unfold partE; rw [if_pos hs, if_pos ht]
theorem safe_mono {m : Model} (hm : m.Wf) {op ch : Int} {s t : Span} (hs : askE m op ch s = 0) (ht : askE m op ch t = 0) (h : subS t s) {d : Int} (hk : safeB m op ch s d = true) : safeB m op ch t d = true := by
  unfold safeB at hk ⊢
  rw [← partE_eq hs ht d]
  cases c : partE m op ch s d == 0
  · rw [c] at hk; cases hk
  · rw [c] at hk; exact okW_mono hm hs ht h hk
theorem choose_ok {m : Model} {op ch : Int} {s : Span} (h : chooseE m op ch s = 0) : askE m op ch s = 0 ∧ holdsF longS (runS m op ch s) = true := by
  unfold chooseE at h
  split at h
  · split at h
    · exact ⟨by assumption, by assumption⟩
    · omega
  · exact absurd h (by assumption)
theorem choose_mono {m : Model} (hm : m.Wf) {op ch : Int} {s t : Span} (hs : askE m op ch s = 0) (ht : askE m op ch t = 0) (h : subS t s) (hE : chooseE m op ch s = 0) :
    chooseE m op ch t = 0 ∧ (chooseC m op ch t).Width ≤ (chooseC m op ch s).Width ∧ holdsF (chooseC m op ch s).Total (chooseC m op ch t).Total = true := by
  obtain ⟨_, hr⟩ := choose_ok hE
  have hE2 : chooseE m op ch t = 0 := by rw [chooseE, if_pos ht, if_pos (holdsF_trans hr (nest_runs hm ht hs h))]
  have hk := most_mono hm hs ht h
  have hT : ∀ s, chooseE m op ch s = 0 → (chooseC m op ch s).Total = totS m op ch s := fun s q => by
    rw [chooseC, if_pos q]; split <;> rfl
  refine ⟨hE2, ?_, ?_⟩
  · rw [chooseC, chooseC, if_pos hE, if_pos hE2]
    by_cases c : 0 < mostM m op ch s
    · rw [if_pos c, if_pos (by omega)]; exact Int.le_refl _
    · rw [if_neg c]; split
      · show (16 : Int) ≤ 32; omega
      · exact Int.le_refl _
  · rw [hT _ hE, hT _ hE2]; exact nest_tot hm ht hs h
theorem depthNests (a : Ask18) (ha : a.Wf) : Ok Try.prog 10 [.agg (ask18C a)] (.bool true) := by
  --@@1
  skip
  refine fn_ok Tb_ok (fn := Try.f10) Try.func10 rfl rfl (e := [(0, _)]) rfl (by decide) rfl ?_
  refine zs ?_
  refine zR ?_
  refine zbx [.int _ _, .int _ _, .int _ _, .int _ _, .int _ _, _, .int _ _, .int _ _, .int _ _, .int _ _, .int _ _, .int _ _, .int _ _, .int _ _, .int _ _, .int _ _, .int _ _, .int _ _, .int _ _, .int _ _] 20 ?_
  refine zLB ?_
  refine zn ?_
  refine zs ?_
  refine zs ?_
  refine zR ?_
  refine zLc (law18_fixed) ?_
  refine zLB ?_
  refine zn ?_
  refine W_cond_f (b := _) rfl (by rfl) ?_
  refine zk ?_
  refine zs ?_
  refine zR ?_
  refine zLP ?_
  refine zLG [.int _ _, .int _ _, .int _ _, .int _ _, .int _ _, _, .int _ _] ?_
  refine zLP ?_
  refine zLI ?_
  refine zLP ?_
  refine zLI ?_
  refine zLP ?_
  refine zLG [.int _ _, .int _ _] ?_
  refine zLc (depth_Most a.M ha.1 a.Op a.Ch a.S) ?_
  refine zLT [_, _] ?_
  refine zLI ?_
  refine zLI ?_
  refine zLI ?_
  refine zLI ?_
  refine zn ?_
  refine zs ?_
  refine zR ?_
  refine zLP ?_
  refine zLG [.int _ _, .int _ _, .int _ _, .int _ _, .int _ _, _, .int _ _] ?_
  refine zLP ?_
  refine zLI ?_
  refine zLP ?_
  refine zLI ?_
  refine zLP ?_
  refine zLG [.int _ _, .int _ _] ?_
  refine zLc (depth_Most a.M ha.1 a.Op a.Ch a.T) ?_
  refine zLT [_, _] ?_
  refine zLI ?_
  refine zLI ?_
  refine zLI ?_
  refine zLI ?_
  refine zn ?_
  refine zs ?_
  refine zs ?_
  refine zR ?_
  refine zLI ?_
  refine zLB ?_
  refine zLB ?_
  refine zgLI ?_
  refine zgLB ?_
  refine zpLB ?_
  refine zLB ?_
  refine zgLP ?_
  refine zgLG [.int _ _, .int _ _] ?_
  refine zgLP ?_
  refine zgLG [.int _ _, .int _ _] ?_
  refine L_callg (hr := fun hg => span_Holds a.S a.T) rfl rfl rfl rfl rfl (fun hg => ⟨⟨(by exact hg), True.intro⟩, ⟨⟨(by exact hg), True.intro⟩, True.intro⟩⟩) rfl rfl ?_
  refine zgLB ?_
  refine zpLB ?_
  refine zn ?_
  refine W_cond (b := _) rfl (fun h52 => ?_) (fun h52 => ?_)
  · refine zs ?_
    refine zR ?_
    refine zLI ?_
    refine zLB ?_
    refine zLB ?_
    refine zgLI ?_
    refine zgLB ?_
    refine zpLB ?_
    refine zLB ?_
    refine zn ?_
    refine zt ?_
    refine ends (l := [.bool _]) (q := .bool _) (.inr rfl) rfl ⟨trivial, trivial⟩ rfl rfl ?_
    congr 1
    by_cases c : askE a.M a.Op a.Ch a.S = 0 <;> simp [mostS, c]
  · have q : (bif bif askE a.M a.Op a.Ch a.S != 0 then true else askE a.M a.Op a.Ch a.T != 0 then true else !holdsF a.S a.T) = false := h52
    have hs : askE a.M a.Op a.Ch a.S = 0 := by
      by_cases c : askE a.M a.Op a.Ch a.S = 0
      · exact c
      · simp [c] at q
    have ht : askE a.M a.Op a.Ch a.T = 0 := by
      by_cases c : askE a.M a.Op a.Ch a.T = 0
      · exact c
      · simp [hs, c] at q
    have hh : subS a.T a.S := by
      simp only [hs, ht] at q
      have q2 : holdsF a.S a.T = true := by simpa using q
      rw [holdsF_iff] at q2; exact ⟨q2.2.1, q2.2.2⟩
    have hk := most_mono ha.1 hs ht hh
    have hp := partE_eq hs ht a.Depth
    have hsm := fun h => safe_mono ha.1 hs ht hh (d := a.Depth) h
    refine zk ?_
    refine zs ?_
    refine zR ?_
    refine zLP ?_
    refine zLG [.int _ _, .int _ _, .int _ _, .int _ _, .int _ _, _, .int _ _] ?_
    refine zLP ?_
    refine zLI ?_
    refine zLP ?_
    refine zLI ?_
    refine zLP ?_
    refine zLG [.int _ _, .int _ _] ?_
    refine zLP ?_
    refine zLI ?_
    refine zLc (depth_Safe a.M ha.1 a.Op a.Ch a.S a.Depth) ?_
    refine zLT [_, _] ?_
    refine zLB ?_
    refine zLI ?_
    refine zLB ?_
    refine zLI ?_
    refine zn ?_
    refine zs ?_
    refine zR ?_
    refine zLP ?_
    refine zLG [.int _ _, .int _ _, .int _ _, .int _ _, .int _ _, _, .int _ _] ?_
    refine zLP ?_
    refine zLI ?_
    refine zLP ?_
    refine zLI ?_
    refine zLP ?_
    refine zLG [.int _ _, .int _ _] ?_
    refine zLP ?_
    refine zLI ?_
    refine zLc (depth_Safe a.M ha.1 a.Op a.Ch a.T a.Depth) ?_
    refine zLT [_, _] ?_
    refine zLB ?_
    refine zLI ?_
    refine zLB ?_
    refine zLI ?_
    refine zn ?_
    refine zs ?_
    refine zs ?_
    refine zR ?_
    refine zLI ?_
    refine zLI ?_
    refine zLB ?_
    refine zLB ?_
    refine zgLI ?_
    refine zgLI ?_
    refine zgLB ?_
    refine zpLB ?_
    refine zLB ?_
    refine zgLB ?_
    refine zgLB ?_
    refine zgLB ?_
    refine zgLB ?_
    refine zqLB ?_
    refine zpLB ?_
    refine zn ?_
    refine W_cond (b := _) rfl (fun h101 => ?_) (fun h101 => ?_)
    · exfalso
      have q : (bif bif decide (mostS a.M a.Op a.Ch a.T < mostS a.M a.Op a.Ch a.S) then true else partE a.M a.Op a.Ch a.S a.Depth != partE a.M a.Op a.Ch a.T a.Depth then true else bif safeB a.M a.Op a.Ch a.S a.Depth then !safeB a.M a.Op a.Ch a.T a.Depth else false) = true := h101
      rw [mostS, mostS, if_pos hs, if_pos ht, decide_eq_false (by omega), hp] at q
      cases c : safeB a.M a.Op a.Ch a.S a.Depth
      · simp [c] at q
      · simp [c, hsm c] at q
    · refine zk ?_
      refine zs ?_
      refine zR ?_
      refine zLP ?_
      refine zLG [.int _ _, .int _ _, .int _ _, .int _ _, .int _ _, _, .int _ _] ?_
      refine zLP ?_
      refine zLI ?_
      refine zLP ?_
      refine zLI ?_
      refine zLP ?_
      refine zLG [.int _ _, .int _ _] ?_
      refine zLc (depth_Choose a.M ha.1 a.Op a.Ch a.S) ?_
      refine zLT [_, _] ?_
      refine zLG [.int _ _, .int _ _, .int _ _, .int _ _, .int _ _, .int _ _] ?_
      refine zLI ?_
      refine zal [.int .i64 0, .int .i64 0, .int .i64 0, .int .i64 0, .int .i64 0, .int .i64 0] 6 ?_
      refine zst (.agg [.int _ _, .int _ _, .int _ _, .int _ _, .int _ _, .int _ _]) [_, _, _, _, _, _] [[_, _, _, _, _, _]] ?_
      refine zLI ?_
      refine zn ?_
      refine zs ?_
      refine zR ?_
      refine zLP ?_
      refine zLG [.int _ _, .int _ _, .int _ _, .int _ _, .int _ _, _, .int _ _] ?_
      refine zLP ?_
      refine zLI ?_
      refine zLP ?_
      refine zLI ?_
      refine zLP ?_
      refine zLG [.int _ _, .int _ _] ?_
      refine zLc (depth_Choose a.M ha.1 a.Op a.Ch a.T) ?_
      refine zLT [_, _] ?_
      refine zLG [.int _ _, .int _ _, .int _ _, .int _ _, .int _ _, .int _ _] ?_
      refine zLI ?_
      refine zal [.int .i64 0, .int .i64 0, .int .i64 0, .int .i64 0, .int .i64 0, .int .i64 0] 6 ?_
      refine zst (.agg [.int _ _, .int _ _, .int _ _, .int _ _, .int _ _, .int _ _]) [_, _, _, _, _, _] [[_, _, _, _, _, _]] ?_
      refine zLI ?_
      refine zn ?_
      refine zs ?_
      refine zs ?_
      refine zR ?_
      refine zLI ?_
      refine zLB ?_
      refine zn ?_
      refine W_cond (b := _) rfl (fun h127 => ?_) (fun h127 => ?_)
      · have hE : ¬ chooseE a.M a.Op a.Ch a.S = 0 := by simpa using h127
        refine zs ?_
        refine zR ?_
        refine zLG [.int _ _, .int _ _, .int _ _, .int _ _, .int _ _, .int _ _] ?_
        refine zLG [.int _ _, .int _ _, .int _ _, .int _ _, .int _ _, .int _ _] ?_
        refine zLB ?_
        refine zLB ?_
        refine zn ?_
        refine zt ?_
        refine ends (l := [.bool _]) (q := .bool _) (.inr rfl) rfl ⟨trivial, trivial⟩ rfl rfl ?_
        congr 1
        rw [chooseC, if_neg hE]; simp [chan0]
      · have hE : chooseE a.M a.Op a.Ch a.S = 0 := by simpa using h127
        refine zk ?_
        refine zs ?_
        refine zR ?_
        refine zLI ?_
        refine zLB ?_
        refine zLB ?_
        refine zgLP ?_
        refine zgLI ?_
        refine zgLP ?_
        refine zgLI ?_
        refine zgLB ?_
        refine zpLB ?_
        refine zLB ?_
        refine zgLP ?_
        refine zgLG [.int _ _, .int _ _] ?_
        refine zgLP ?_
        refine zgLG [.int _ _, .int _ _] ?_
        refine L_callg (hr := fun hg => span_Holds (chooseC a.M a.Op a.Ch a.S).Total (chooseC a.M a.Op a.Ch a.T).Total) rfl rfl rfl rfl rfl (fun hg => ⟨⟨(by exact hg), True.intro⟩, ⟨⟨(by exact hg), True.intro⟩, True.intro⟩⟩) rfl rfl ?_
        refine zpLB ?_
        refine zLB ?_
        refine zn ?_
        refine zt ?_
        refine ends (l := [.bool _]) (q := .bool _) (.inr rfl) rfl ⟨trivial, trivial⟩ rfl rfl ?_
        obtain ⟨e1, e2, e3⟩ := choose_mono ha.1 hs ht hh hE
        congr 1
        simp [e1, e2, e3]
theorem choose_holds {m : Model} (hm : m.Wf) {op ch : Int} {s : Span} (hE : chooseE m op ch s = 0) : chanE m op ch s (chooseC m op ch s) = 0 := by
  obtain ⟨hs, hr⟩ := choose_ok hE
  have hle := mostM_le m op ch s
  have hLb := (site_ok (askE_zero hs).2.2).1.len
  obtain ⟨q, q1, q2, q3, q4⟩ := tot_first hm hs
  have htv : (totS m op ch s).Lo ≤ (totS m op ch s).Hi := by rw [totS, if_pos hs]; unfold hullS; dsimp only; omega
  have hrv := run_valid hm hs
  have htr := nest_run hm hs
  have htt : holdsF (totS m op ch s) (totS m op ch s) = true := by rw [holdsF_iff]; omega
  have hrr : holdsF (runS m op ch s) (runS m op ch s) = true := by rw [holdsF_iff]; omega
  by_cases c : 0 < mostM m op ch s
  · have hp := most_part hm hs c
    have h1 : okW (partS m op ch s (mostM m op ch s : Int)) = true := mostD_ok (fun d : Nat => okW (partS m op ch s (d : Int))) _ (show mostM m op ch s ≠ 0 by omega)
    have hpp : holdsF (partS m op ch s (mostM m op ch s : Int)) (partS m op ch s (mostM m op ch s : Int)) = true := by
      unfold okW at h1; rw [holdsF_iff] at h1 ⊢; omega
    have e : chooseC m op ch s = ⟨16, mostM m op ch s, partS m op ch s (mostM m op ch s : Int), totS m op ch s⟩ := by rw [chooseC, if_pos hE, if_pos c]
    have hf : formE (chooseC m op ch s) (findS m op).Len = 0 := by
      rw [e, formE]; dsimp only
      have := holdsF_iff.1 h1
      rw [if_pos ⟨this.1, htv⟩, if_pos (.inl rfl), if_pos ⟨by omega, by omega, fun q => by omega⟩]
    rw [chanE, if_pos hs, if_pos hf, e]
    dsimp only
    rw [if_pos ⟨hr, h1, holdsF_trans hr htr⟩, if_pos rfl, if_pos hpp, if_pos htt]
  · have e : chooseC m op ch s = ⟨32, (findS m op).Len, runS m op ch s, totS m op ch s⟩ := by rw [chooseC, if_pos hE, if_neg c]
    have hf : formE (chooseC m op ch s) (findS m op).Len = 0 := by
      rw [e, formE]; dsimp only
      rw [if_pos ⟨hrv, htv⟩, if_pos (.inr rfl), if_pos ⟨by omega, by omega, fun q => by omega⟩]
    rw [chanE, if_pos hs, if_pos hf, e]
    dsimp only
    rw [if_pos ⟨hr, hr, holdsF_trans hr htr⟩, if_neg (show ¬ (32 : Int) = 16 by decide), if_pos hrr, if_pos htt]
/-- what a plan that holds tells -/
theorem chan_ok {m : Model} {op ch : Int} {s : Span} {p : Chan} (h : chanE m op ch s p = 0) : askE m op ch s = 0 ∧ formE p (findS m op).Len = 0 ∧ (holdsF longS (runS m op ch s) = true ∧ holdsF (regS p.Width) p.Part = true ∧ holdsF longS p.Total = true) ∧ holdsF p.Part (if p.Width = 16 then partS m op ch s p.Depth else runS m op ch s) = true ∧ holdsF p.Total (totS m op ch s) = true := by
  unfold chanE at h
  by_cases h1 : askE m op ch s = 0
  · rw [if_pos h1] at h
    by_cases h2 : formE p (findS m op).Len = 0
    · rw [if_pos h2] at h
      by_cases h3 : holdsF longS (runS m op ch s) = true ∧ holdsF (regS p.Width) p.Part = true ∧ holdsF longS p.Total = true
      · rw [if_pos h3] at h
        by_cases h4 : holdsF p.Part (if p.Width = 16 then partS m op ch s p.Depth else runS m op ch s) = true
        · rw [if_pos h4] at h
          by_cases h5 : holdsF p.Total (totS m op ch s) = true
          · exact ⟨h1, h2, h3, h4, h5⟩
          · rw [if_neg h5] at h; omega
        · rw [if_neg h4] at h; omega
      · rw [if_neg h3] at h; omega
    · rw [if_neg h2] at h; exact absurd h h2
  · rw [if_neg h1] at h; exact absurd h h1
theorem best_ok {m : Model} (hm : m.Wf) {op ch : Int} {s : Span} {p : Chan} (h : chanE m op ch s p = 0) : chooseE m op ch s = 0 ∧ holdsF p.Total (chooseC m op ch s).Total = true ∧ (p.Width = 32 ∨ ((chooseC m op ch s).Width = 16 ∧ p.Depth ≤ (chooseC m op ch s).Depth)) := by
  obtain ⟨hs, hf, ⟨h1, h2, h3⟩, h4, h5⟩ := chan_ok h
  obtain ⟨_, hw, hd1, hd2, _⟩ := form_zero hf
  have hE : chooseE m op ch s = 0 := by rw [chooseE, if_pos hs, if_pos h1]
  have hT : (chooseC m op ch s).Total = totS m op ch s := by rw [chooseC, if_pos hE]; split <;> rfl
  refine ⟨hE, by rw [hT]; exact h5, ?_⟩
  rcases hw with hw | hw
  · right
    rw [if_pos hw] at h4
    rw [regS, if_pos hw] at h2
    have hk : okW (partS m op ch s ((p.Depth.toNat : Nat) : Int)) = true := by
      rw [show ((p.Depth.toNat : Nat) : Int) = p.Depth by omega]; exact holdsF_trans h2 h4
    have := mostD_max (fun d : Nat => okW (partS m op ch s (d : Int))) (findS m op).Len.toNat p.Depth.toNat (by omega) hk
    have h7 : p.Depth.toNat ≤ mostM m op ch s := this
    rw [chooseC, if_pos hE, if_pos (by omega)]
    exact ⟨rfl, by dsimp only; omega⟩
  · exact .inl hw
theorem ask_chan {m : Model} {op ch : Int} {s : Span} {p : Chan} (h : ¬ chooseE m op ch s = 0) : ¬ chanE m op ch s p = 0 := fun q => by
  obtain ⟨hs, _, ⟨h1, _⟩, _⟩ := chan_ok q
  exact h (by rw [chooseE, if_pos hs, if_pos h1])
theorem depthHolds (a : Ask18) (ha : a.Wf) : Ok Try.prog 12 [.agg (ask18C a)] (.bool true) := by
  --@@2
  skip
  refine fn_ok Tb_ok (fn := Try.f12) Try.func12 rfl rfl (e := [(0, _)]) rfl (by decide) rfl ?_
  refine zs ?_
  refine zR ?_
  refine zbx [.int _ _, .int _ _, .int _ _, .int _ _, .int _ _, _, .int _ _, .int _ _, .int _ _, .int _ _, .int _ _, .int _ _, .int _ _, .int _ _, .int _ _, .int _ _, .int _ _, .int _ _, .int _ _, .int _ _] 20 ?_
  refine zLB ?_
  refine zn ?_
  refine zs ?_
  refine zs ?_
  refine zR ?_
  refine zLc (law18_fixed) ?_
  refine zLB ?_
  refine zn ?_
  refine W_cond_f (b := _) rfl (by rfl) ?_
  refine zk ?_
  refine zs ?_
  refine zR ?_
  refine zLP ?_
  refine zLG [.int _ _, .int _ _, .int _ _, .int _ _, .int _ _, _, .int _ _] ?_
  refine zLP ?_
  refine zLI ?_
  refine zLP ?_
  refine zLI ?_
  refine zLP ?_
  refine zLG [.int _ _, .int _ _] ?_
  refine zLc (depth_Choose a.M ha.1 a.Op a.Ch a.S) ?_
  refine zLT [_, _] ?_
  refine zLG [.int _ _, .int _ _, .int _ _, .int _ _, .int _ _, .int _ _] ?_
  refine zLI ?_
  refine zal [.int .i64 0, .int .i64 0, .int .i64 0, .int .i64 0, .int .i64 0, .int .i64 0] 6 ?_
  refine zst (.agg [.int _ _, .int _ _, .int _ _, .int _ _, .int _ _, .int _ _]) [_, _, _, _, _, _] [[_, _, _, _, _, _]] ?_
  refine zLI ?_
  refine zn ?_
  refine zs ?_
  refine zR ?_
  refine zLP ?_
  refine zLG [.int _ _, .int _ _, .int _ _, .int _ _, .int _ _, _, .int _ _] ?_
  refine zLP ?_
  refine zLI ?_
  refine zLP ?_
  refine zLI ?_
  refine zLP ?_
  refine zLG [.int _ _, .int _ _] ?_
  refine zLP ?_
  refine zLG [.int _ _, .int _ _, .int _ _, .int _ _, .int _ _, .int _ _] ?_
  refine zLc (check_Chan a.M ha.1 a.Op a.Ch a.S a.P) ?_
  refine zLI ?_
  refine zn ?_
  refine zs ?_
  refine zs ?_
  refine zR ?_
  refine zLI ?_
  refine zLB ?_
  refine zn ?_
  refine W_cond (b := _) rfl (fun h32 => ?_) (fun h32 => ?_)
  · have hE : ¬ chooseE a.M a.Op a.Ch a.S = 0 := by simpa using h32
    refine zs ?_
    refine zR ?_
    refine zLG [.int _ _, .int _ _, .int _ _, .int _ _, .int _ _, .int _ _] ?_
    refine zLG [.int _ _, .int _ _, .int _ _, .int _ _, .int _ _, .int _ _] ?_
    refine zLB ?_
    refine zLB ?_
    refine zgLI ?_
    refine zgLB ?_
    refine zpLB ?_
    refine zLB ?_
    refine zn ?_
    refine zt ?_
    refine ends (l := [.bool _]) (q := .bool _) (.inr rfl) rfl ⟨trivial, trivial⟩ rfl rfl ?_
    congr 1
    have := ask_chan (p := a.P) hE
    rw [chooseC, if_neg hE]; simp [chan0, this]
  · have hE : chooseE a.M a.Op a.Ch a.S = 0 := by simpa using h32
    refine zk ?_
    refine zs ?_
    refine zs ?_
    refine zR ?_
    refine zLP ?_
    refine zLG [.int _ _, .int _ _, .int _ _, .int _ _, .int _ _, _, .int _ _] ?_
    refine zLP ?_
    refine zLI ?_
    refine zLP ?_
    refine zLI ?_
    refine zLP ?_
    refine zLG [.int _ _, .int _ _] ?_
    refine zLG [.int _ _, .int _ _, .int _ _, .int _ _, .int _ _, .int _ _] ?_
    refine zLc (check_Chan a.M ha.1 a.Op a.Ch a.S (chooseC a.M a.Op a.Ch a.S)) ?_
    refine zLB ?_
    refine zn ?_
    refine W_cond (b := _) rfl (fun h50 => ?_) (fun h50 => ?_)
    · exfalso
      have q : (chanE a.M a.Op a.Ch a.S (chooseC a.M a.Op a.Ch a.S) != 0) = true := h50
      rw [choose_holds ha.1 hE] at q; simp at q
    · refine zk ?_
      refine zs ?_
      refine zs ?_
      refine zR ?_
      refine zLI ?_
      refine zLB ?_
      refine zn ?_
      refine W_cond (b := _) rfl (fun h52 => ?_) (fun h52 => ?_)
      · refine zs ?_
        refine zR ?_
        refine zLB ?_
        refine zn ?_
        refine zt ?_
        refine ends (l := [.bool _]) (q := .bool _) (.inr rfl) rfl ⟨trivial, trivial⟩ rfl rfl ?_
        rfl
      · have hP : chanE a.M a.Op a.Ch a.S a.P = 0 := by simpa using h52
        refine zk ?_
        refine zs ?_
        refine zR ?_
        refine zLP ?_
        refine zLP ?_
        refine zLG [.int _ _, .int _ _] ?_
        refine zLP ?_
        refine zLG [.int _ _, .int _ _] ?_
        refine zLc (span_Holds a.P.Total (chooseC a.M a.Op a.Ch a.S).Total) ?_
        refine zLB ?_
        refine zgLP ?_
        refine zgLP ?_
        refine zgLI ?_
        refine zgLB ?_
        refine zgLB ?_
        refine zgLP ?_
        refine zgLI ?_
        refine zgLB ?_
        refine zgLB ?_
        refine zgLP ?_
        refine zgLI ?_
        refine zgLP ?_
        refine zgLP ?_
        refine zgLI ?_
        refine zgLB ?_
        refine zqLB ?_
        refine zqLB ?_
        refine zpLB ?_
        refine zLB ?_
        refine zn ?_
        refine zt ?_
        refine ends (l := [.bool _]) (q := .bool _) (.inr rfl) rfl ⟨trivial, trivial⟩ rfl rfl ?_
        obtain ⟨_, e2, e3⟩ := best_ok ha.1 hP
        congr 1
        rcases e3 with e3 | ⟨e3, e4⟩
        · simp [e2, e3]
        · simp [e2, e3, e4]
end Go.AM
end
section
namespace Go.Proofs.Ytkcigpfdlplbdaa.depthHolds
open Go.ChangeShapes Go.WideShapes Go.ChangeAt Go.RowKit
open Go.ChangeMaps (open_string shut_string)
set_option linter.unusedVariables false
theorem own : ownKnob Try.prog.godebug = none := by kernel_rfl
theorem laidOut : laidOutB Try.prog = true := by kernel_rfl
set_option maxRecDepth 100000 in
theorem lifted (os : Os) (started : os.Started) (H : Type) (enc : TypeId × Value → H) :
    ReturnsInHanded {} Try.checked os 12 .any (Rows.depthHoldsSpec.pre6 enc Try.prog Try.f12 Rows.depthHoldsRow.domain false) (Rows.depthHoldsSpec.post enc Try.prog Try.f12 false true false false) := by
  refine returnsInHanded_of_change_sized (C := Try.checked) own started (by kernel_rfl) Try.func12
    (ChangeSpec.witness6 (enc := enc) (C := Try.checked) false ⟨#[], #[.agg #[.int .i64 0, .int .i64 0, .int .i64 0, .int .i64 0, .int .i64 0, .slice none 0 0, .int .i64 0, .int .i64 0, .int .i64 0, .int .i64 0, .int .i64 0, .int .i64 0, .int .i64 0, .int .i64 0, .int .i64 0, .int .i64 0, .int .i64 0, .int .i64 0, .int .i64 0, .int .i64 0]], []⟩ 8 (by kernel_rfl) (by kernel_rfl) (by kernel_rfl) (by kernel_rfl)) ?_
  intro W base args ds gs before hval0 hW hcnd hsz0 _
  have hsz : (DataW.weightsEach Try.prog (Try.f12.params.toList ++ Rows.depthHoldsSpec.plain.varTypes Try.prog) (ds ++ gs)).all (· ≤ reachBytes) = true := hsz0
  have hval : ∀ (j : Nat) t v, Try.f12.params[j]? = some t → args[j]? = some v → Value.okWide Try.prog W .any base t v := hval0
  have hW' := hW
  obtain ⟨p, q, hA0, hV, rfl, hfz, hnd⟩ := hW
  have hA : DataW.TrodAll enc Try.prog W 0 (fun _ => true) true Try.f12.params.toList args.toList ds p := hA0
  rw [Try.params12] at hA hval hsz
  obtain ⟨v0, vs0, d0, ds0, p0, q0, hargs, rfl, rfl, h0, r0⟩ := trodAll_cons hA
  obtain ⟨rfl, rfl, rfl⟩ := trodAll_nil r0
  obtain rfl : args = #[v0] := by cases args; simp_all
  obtain ⟨rfl, rfl⟩ := trodVars_none hV
  have k0 := h0
  have lt0 : ∀ x ∈ p0, x.block < W.heap.size := by obtain ⟨m, hm⟩ := k0; exact DataW.trod_lt m _ _ _ hm
  obtain ⟨y0, K0, w0⟩ := Go.AM.Opn.arg Go.AM.arg0 h0 (j := 0) (t := 65) hsz rfl rfl
  have R0 := Go.AM.arg_agg Try.underlying65 (hval 0 65 v0 rfl rfl) K0
  clear hA0 hval0 hsz0 hsz
  refine (Go.AM.Ok.law (Go.AM.depthHolds y0 w0) (Go.AM.rel1 R0)).mono fun e W' ⟨he, bel⟩ => ?_
  subst he
  exact ⟨_, rfl, _, _, _, [], _, [], hW', trodAll_mk1 (shut_bool Try.underlying4 _), (trodAll_cons_mk (Below.trod laidOut (by kernel_rfl) (of_decide_eq_true (by kernel_rfl)) k0 bel lt0) trodAll_mk0), rfl, bel.frame _, fun h => by cases h⟩
theorem over : Rows.depthHoldsRow.holds Try.pinned (OpenSpec.ofChange Rows.depthHoldsSpec) :=
  OpenClaim.holds_of_wide 12 Try.f12 rfl rfl rfl rfl rfl rfl rfl ⟨rfl, rfl, rfl, rfl, rfl⟩ rfl rfl rfl rfl rfl (by kernel_rfl) Try.func12 (by kernel_rfl)
    (of_decide_eq_true (by kernel_rfl)) (by unfold Func.isWrapper; first | (rw [if_pos (by decide +kernel)]; kernel_rfl) | (rw [if_neg (by decide +kernel)]; exact ⟨rfl, rfl⟩))
    (fun os started H enc _ => lifted os started H enc)
theorem proved : Rows.DepthHoldsSaid := over
end Go.Proofs.Ytkcigpfdlplbdaa.depthHolds
namespace Go.Proofs.Ytkcigpfdlplbdaa
/-- The row, under a short name, for the claim. -/
theorem depthHolds_holds : Rows.DepthHoldsSaid := depthHolds.proved
end Go.Proofs.Ytkcigpfdlplbdaa
end
