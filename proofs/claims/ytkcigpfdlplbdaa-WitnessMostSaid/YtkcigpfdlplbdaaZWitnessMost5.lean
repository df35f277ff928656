/- The law WitnessMost answers true, whatever its arguments: part 6 of 6 of its proof. -/
import Derived.Test.YtkcigpfdlplbdaaRows
import Derived.WalkKit
import Derived.Test.YtkcigpfdlplbdaaZWitnessMost4
section
open Go Go.AM Go.Proofs
set_option maxRecDepth 10000
set_option linter.unusedVariables false
set_option linter.unusedSimpArgs false
namespace Go.AM
theorem all_snocP {p : Nat → Prop} {k : Nat} (h : ∀ i, i < k → p i) (hk : p k) : ∀ i, i < k + 1 → p i := fun i hi => by
  by_cases e : i = k
  · rw [e]; exact hk
  · exact h i (by omega)
theorem ext_getD {α : Type} [Inhabited α] {a b : List α} (hl : a.length = b.length) (h : ∀ j, j < a.length → a.getD j default = b.getD j default) : a = b := by
  apply List.ext_getElem hl
  intro j h1 h2
  have := h j h1
  simpa [List.getD_eq_getElem?_getD, h1, h2] using this
theorem ref11_Same (a b : List Int) (ha : a.length ≤ 1048576) : Ok Try.prog 24 [.ro (a.map i8C), .ro (b.map i8C)] (.bool (decide (a = b))) := by
  --@@2
  skip
  refine fn_ok Tb_ok (fn := Try.f24) Try.func24 rfl rfl (e := [(0, _), (1, _)]) rfl (by decide) rfl ?_
  refine zs ?_
  refine zR ?_
  refine zLB ?_
  refine zn ?_
  refine zs ?_
  refine zs ?_
  refine zR ?_
  refine zLO ?_
  refine zLI ?_
  refine zLO ?_
  refine zLI ?_
  refine zLB ?_
  refine zn ?_
  refine W_cond (b := _) rfl (fun h10 => ?_) (fun h10 => ?_)
  · have hl : a.length ≠ b.length := fun e => by simp [e] at h10
    refine zs ?_
    refine zR ?_
    refine zLB ?_
    refine zn ?_
    refine zt ?_
    refine ends (l := [.bool _]) (q := .bool _) (.inr rfl) rfl ⟨trivial, trivial⟩ rfl rfl ?_
    rw [decide_eq_false (fun e => hl (by rw [e]))]
  · have hl : a.length = b.length := by simp at h10; omega
    refine zk ?_
    refine zs ?_
    refine zs ?_
    refine zR ?_
    refine zLO ?_
    refine zLI ?_
    refine zLI ?_
    refine zn ?_
    refine W_block ?_
    refine W_forEF (a.length) (fun (i : Nat) => ∀ j, j < i → a.getD j default = b.getD j default) (fun j hj => absurd hj (by omega)) [(0, .ro _), (1, .ro _), (12, .int _ _)] (fun (i : Nat) => [(13, .int .i64 (i : Int))]) [] (fun (i : Nat) => []) [] (fun (i : Nat) => []) 0 (le_fit (sub_cat ⟨rfl, trivial⟩ ⟨rfl, rfl, rfl, trivial⟩) (subO_cat trivial trivial) (subK_cat trivial trivial) rfl rfl rfl (by rfl) rfl) ?_
    intro i hi hfi
    refine W.of_le (s' := ⟨[(13, .int .i64 (i : Int)), (0, .ro _), (1, .ro _), (12, .int _ _)], [], [], 0⟩) (le_fit ⟨rfl, rfl, rfl, rfl, trivial⟩ trivial trivial rfl rfl rfl (by rfl) rfl) ?_
    refine zs ?_
    refine zR ?_
    refine zLB ?_
    refine zn ?_
    refine zs ?_
    refine W_cond (b := _) rfl (fun h14 => ?_) (fun h14 => ?_)
    · have hit : i < a.length := by (have := of_decide_eq_true h14; simp only [List.length_map, List.length_take, List.length_drop] at this; omega)
      refine zk ?_
      refine zs ?_
      refine W_block ?_
      refine zs ?_
      refine zR ?_
      refine zLI ?_
      refine zLI ?_
      refine zn ?_
      refine zs ?_
      refine W_draw 9 Tb_mixed rfl (by decide) (by kernel_rfl) (by kernel_rfl) ?_
      refine zEO ?_
      refine zEI ?_
      (refine E_v Tb_ok (v := _) (ave_index_ro rfl rfl rfl (fun _ => rfl) rfl (by first | omega | assumption | decide | (simp_all; done) | (simp_all; omega)) (by first | omega | assumption | decide | (simp_all; done) | (simp_all; omega)) trivial) rfl ?_)
      refine zEI ?_
      refine zEO ?_
      refine zEI ?_
      (refine E_v Tb_ok (v := _) (ave_index_ro rfl rfl rfl (fun _ => rfl) rfl (by first | omega | assumption | decide | (simp_all; done) | (simp_all; omega)) (by first | omega | assumption | decide | (simp_all; done) | (simp_all; omega)) trivial) rfl ?_)
      refine zEI ?_
      refine zEB ?_
      refine LexE_nil ?_
      refine zn ?_
      refine W_cond (b := _) rfl (fun h24 => ?_) (fun h24 => ?_)
      · have hn : a.getD i default ≠ b.getD i default := by simpa [i8C] using h24
        refine zs ?_
        refine zR ?_
        refine zLB ?_
        refine zn ?_
        refine zt ?_
        refine ends (l := [.bool _]) (q := .bool _) (.inr rfl) rfl ⟨trivial, trivial⟩ rfl rfl ?_
        rw [decide_eq_false (fun e => hn (by rw [e]))]
      · have hn : a.getD i default = b.getD i default := by simpa [i8C] using h24
        refine zk ?_
        refine zR ?_
        refine zLI ?_
        refine zLI ?_
        refine zn ?_
        refine forF_end hit (all_snocP (p := fun j => a.getD j default = b.getD j default) hfi hn) (le_fit (sub_cat ⟨congrArg _ (w_succ hit (by omega)), trivial⟩ ⟨rfl, rfl, rfl, trivial⟩) (subO_cat trivial trivial) (subK_cat trivial trivial) rfl rfl rfl (by rfl) rfl)
    · have hie : i = a.length := by (have := of_decide_eq_false h14; simp only [List.length_map, List.length_take, List.length_drop] at this; omega)
      refine W_exit ?_
      repeat (first | refine pass_then ?_ | refine pass_forF ?_)
      refine blockQ_hit ?_
      refine zs ?_
      refine zR ?_
      refine zLB ?_
      refine zn ?_
      refine zt ?_
      refine ends (l := [.bool _]) (q := .bool _) (.inr rfl) rfl ⟨trivial, trivial⟩ rfl rfl ?_
      rw [decide_eq_true (ext_getD hl (hie ▸ hfi))]
theorem ref10_Value (s : Site) (t : Term) (a : List Int) (h : t.At < a.length) : Ok Try.prog 58 [.agg (rsiteC s), .agg (termC t), .ro (a.map i8C)] (.int .i64 (w64 (t.W * vT a s.Op.Pad t))) := by
  --@@3
  skip
  refine fn_ok Tb_ok (fn := Try.f58) Try.func58 rfl rfl (e := [(0, _), (1, _), (2, _)]) rfl (by decide) rfl ?_
  refine zs ?_
  refine zR ?_
  refine zbx [.int _ _, .int _ _, .int _ _, .int _ _, .int _ _, .int _ _, .int _ _, .int _ _, .int _ _, .int _ _, .int _ _, .int _ _, _, _, .int _ _, .int _ _, .int _ _, .int _ _, .int _ _, .int _ _, .int _ _, .int _ _, .int _ _, .int _ _, .int _ _, .int _ _, .int _ _, .int _ _] 28 ?_
  refine zbx [.int _ _, .int _ _] 2 ?_
  refine zLI ?_
  refine zn ?_
  refine zs ?_
  refine zs ?_
  refine zR ?_
  refine zLP ?_
  refine zLI ?_
  refine zLB ?_
  refine zn ?_
  refine W_cond (b := _) rfl (fun h9 => ?_) (fun h9 => ?_)
  · have hn : ¬ t.At ≥ 0 := by simp at h9; omega
    refine zs ?_
    refine zR ?_
    refine zLP ?_
    refine zLI ?_
    refine zLP ?_
    refine zLP ?_
    refine zLI ?_
    refine zLI ?_
    refine zLI ?_
    refine zn ?_
    refine zt ?_
    refine ends (l := [.int _ _]) (q := .int _ _) (.inr rfl) rfl ⟨trivial, trivial⟩ rfl rfl ?_
    rw [vT, if_neg hn]; rfl
  · have hn : t.At ≥ 0 := by simp at h9; omega
    have hb : t.At < ((a.map i8C).length : Int) := by rw [List.length_map]; exact h
    refine zk ?_
    refine zs ?_
    refine W_draw 10 Tb_mixed rfl (by decide) (by kernel_rfl) (by kernel_rfl) ?_
    refine zEP ?_
    refine zEI ?_
    refine zEO ?_
    refine zEP ?_
    refine zEI ?_
    (refine E_v Tb_ok (v := _) (ave_index_ro rfl rfl rfl (fun _ => rfl) rfl (by first | exact hn | exact hb | exact h) (by first | exact hn | exact hb | exact h) trivial) rfl ?_)
    refine zEI ?_
    refine zEI ?_
    refine zEI ?_
    refine zEI ?_
    refine LexE_nil ?_
    refine zn ?_
    refine zt ?_
    refine ends (l := [.int _ _]) (q := .int _ _) (.inr rfl) rfl ⟨trivial, trivial⟩ rfl rfl ?_
    rw [vT, if_pos hn]; rfl
theorem ref11_Sum {S : Site} (hS : SiteOk S) (hln : lenF S.Op S.In = S.Len) {ch at_ : Int} (hch : 1 ≤ ch ∧ ch ≤ S.Out.C) (hat : 0 ≤ at_ ∧ at_ < S.Out.H * S.Out.W) (a : List Int) (ha : (a.length : Int) = S.In.H * S.In.W * S.In.C) (hl : (tlF S ch at_).length ≤ 512) : Ok Try.prog 49 [.agg (rsiteC S), .int .i64 ch, .int .i64 at_, .ro (a.map i8C)] (.int .i64 (sumT (if S.Op.Kind = 4 then 0 else w64 (S.Op.Bias.getD (w64 (ch - 1)).toNat default)) (tlF S ch at_) a S.Op.Pad)) := by
  have hlt : ∀ t ∈ tlF S ch at_, t.At < (a.length : Int) := fun t ht => by
    have e0 : 0 ≤ (a.length : Int) := by omega
    rcases tlF_at hS hch at_ t ht with h | h <;> omega
  obtain ⟨b, hb⟩ : ∃ b, b = (if S.Op.Kind = 4 then 0 else w64 (S.Op.Bias.getD (w64 (ch - 1)).toNat default)) := ⟨_, rfl⟩
  have hB := ref10_Bias S ch (bias_ix hS hch)
  rw [← hb] at hB ⊢
  have hT := ref10_Terms hS hln hch hat
  generalize tlF S ch at_ = l at *
  --@@4
  skip
  refine fn_ok Tb_ok (fn := Try.f49) Try.func49 rfl rfl (e := [(0, _), (1, _), (2, _), (3, _)]) rfl (by decide) rfl ?_
  refine zs ?_
  refine zR ?_
  refine zbx [.int _ _, .int _ _, .int _ _, .int _ _, .int _ _, .int _ _, .int _ _, .int _ _, .int _ _, .int _ _, .int _ _, .int _ _, _, _, .int _ _, .int _ _, .int _ _, .int _ _, .int _ _, .int _ _, .int _ _, .int _ _, .int _ _, .int _ _, .int _ _, .int _ _, .int _ _, .int _ _] 28 ?_
  refine zLI ?_
  refine zn ?_
  refine zs ?_
  refine zR ?_
  refine zLG [.int _ _, .int _ _, .int _ _, .int _ _, .int _ _, .int _ _, .int _ _, .int _ _, .int _ _, .int _ _, .int _ _, .int _ _, _, _, .int _ _, .int _ _, .int _ _, .int _ _, .int _ _, .int _ _, .int _ _, .int _ _, .int _ _, .int _ _, .int _ _, .int _ _, .int _ _, .int _ _] ?_
  refine zLI ?_
  refine zLc (hB) ?_
  refine zLI ?_
  refine zn ?_
  refine zs ?_
  refine zs ?_
  refine zR ?_
  refine zLG [.int _ _, .int _ _, .int _ _, .int _ _, .int _ _, .int _ _, .int _ _, .int _ _, .int _ _, .int _ _, .int _ _, .int _ _, _, _, .int _ _, .int _ _, .int _ _, .int _ _, .int _ _, .int _ _, .int _ _, .int _ _, .int _ _, .int _ _, .int _ _, .int _ _, .int _ _, .int _ _] ?_
  refine zLI ?_
  refine zLI ?_
  refine zLc (hT) ?_
  refine zLI ?_
  refine zLI ?_
  refine zn ?_
  refine W_block ?_
  refine W_forE (l.length) [(3, .ro _), (4, .ptr 0 0 0), (18, .ro _), (19, .int _ _)] (fun (i : Nat) => [(20, .int .i64 (i : Int)), (9, .int .i64 (sumT b (l.take i) a S.Op.Pad))]) [(0, some ⟨_, _, _, _⟩)] (fun (i : Nat) => []) [] (fun (i : Nat) => []) 1 (le_fit (sub_cat ⟨rfl, rfl, trivial⟩ ⟨rfl, rfl, rfl, rfl, trivial⟩) (subO_cat trivial ⟨.inr rfl, trivial⟩) (subK_cat trivial trivial) rfl rfl rfl (by rfl) rfl) ?_
  intro i hi
  refine W.of_le (s' := ⟨[(20, .int .i64 (i : Int)), (9, .int .i64 (sumT b (l.take i) a S.Op.Pad)), (3, .ro _), (4, .ptr 0 0 0), (18, .ro _), (19, .int _ _)], [(0, some ⟨_, _, _, _⟩)], [], 1⟩) (le_fit ⟨rfl, rfl, rfl, rfl, rfl, rfl, trivial⟩ ⟨.inr rfl, trivial⟩ trivial rfl rfl rfl (by rfl) rfl) ?_
  refine zs ?_
  refine zR ?_
  refine zLB ?_
  refine zn ?_
  refine zs ?_
  refine W_cond (b := _) rfl (fun h21 => ?_) (fun h21 => ?_)
  · have hit : i < l.length := by (have := of_decide_eq_true h21; simp only [List.length_map, List.length_take, List.length_drop] at this; omega)
    have hi := hlt (l.getD i default) (by rw [List.getD_eq_getElem?_getD, List.getElem?_eq_getElem hit]; exact List.getElem_mem hit)
    refine zk ?_
    refine zs ?_
    refine W_block ?_
    refine zs ?_
    refine zR ?_
    (refine L_v Tb_ok (v := _) (ave_index_ro rfl rfl rfl (fun _ => rfl) rfl (by first | omega | assumption | decide | (simp_all; done) | (simp_all; omega)) (by first | omega | assumption | decide | (simp_all; done) | (simp_all; omega)) trivial) rfl ?_)
    refine zLG [.int _ _, .int _ _] ?_
    refine zal [.int .i64 0, .int .i64 0] 2 ?_
    refine zst (.agg [.int _ _, .int _ _]) [_, _] [[_, _]] ?_
    refine zn ?_
    refine zR ?_
    refine zLI ?_
    refine zLG [.int _ _, .int _ _, .int _ _, .int _ _, .int _ _, .int _ _, .int _ _, .int _ _, .int _ _, .int _ _, .int _ _, .int _ _, _, _, .int _ _, .int _ _, .int _ _, .int _ _, .int _ _, .int _ _, .int _ _, .int _ _, .int _ _, .int _ _, .int _ _, .int _ _, .int _ _, .int _ _] ?_
    refine zLG [.int _ _, .int _ _] ?_
    refine zLO ?_
    refine zLc (ref10_Value S (l.getD i default) a hi) ?_
    refine zLI ?_
    refine zLI ?_
    refine zn ?_
    refine zR ?_
    refine zLI ?_
    refine zLI ?_
    refine zn ?_
    refine for_end hit (le_fit (sub_cat ⟨congrArg _ (w_succ hit (by omega)), congrArg (AV.int .i64) (by unfold sumT; rw [foldl_take' _ _ _ _ hit]; rfl), trivial⟩ ⟨rfl, rfl, rfl, rfl, trivial⟩) (subO_cat trivial ⟨.inr rfl, trivial⟩) (subK_cat trivial trivial) rfl rfl rfl (by rfl) rfl)
  · have hie : i = l.length := by (have := of_decide_eq_false h21; simp only [List.length_map, List.length_take, List.length_drop] at this; omega)
    refine W_exit ?_
    repeat (first | refine pass_then ?_ | refine pass_for ?_)
    refine blockQ_hit ?_
    refine zs ?_
    refine zR ?_
    refine zLI ?_
    refine zLI ?_
    refine zn ?_
    refine zt ?_
    refine ends (l := [.int _ _]) (q := .int _ _) (.inr rfl) rfl ⟨trivial, trivial⟩ rfl rfl ?_
    rw [hie, List.take_length]
theorem witness_Break_no (m : Model) (hm : m.Wf) (op ch : Int) (s : Span) (k : Int) (h : partE m op ch s k ≠ 0 ∨ safeB m op ch s k = true) : Ok Try.prog 20 [.agg (modelC m), .int .i64 op, .int .i64 ch, .agg (spanC s), .int .i64 k] (.tup [.agg [.int .i64 0, .int .i64 0, .int .i64 0, .ro []], .bool false, .int .i64 (partE m op ch s k)]) := by
  have hc43 : (bif (partE m op ch s k != 0) then true else safeB m op ch s k) = true := by
    rcases h with h | h
    · simp [h]
    · rw [h]; simp
  --@@5
  skip
  refine fn_ok Tb_ok (fn := Try.f20) Try.func20 rfl rfl (e := [(0, _), (1, _), (2, _), (3, _), (4, _)]) rfl (by decide) rfl ?_
  refine zs ?_
  refine zR ?_
  refine zbx [.int _ _, .int _ _, .int _ _, .int _ _, .int _ _, _, .int _ _] 7 ?_
  refine zbx [.int _ _, .int _ _] 2 ?_
  refine zal [.int .i64 0, .int .i64 0, .int .i64 0, .nils] 4 ?_
  refine zLB ?_
  refine zLI ?_
  refine zn ?_
  refine zs ?_
  refine zR ?_
  refine zLG [.int _ _, .int _ _, .int _ _, .int _ _, .int _ _, _, .int _ _] ?_
  refine zLI ?_
  refine zLI ?_
  refine zLG [.int _ _, .int _ _] ?_
  refine zLI ?_
  refine zLc (depth_Safe m hm op ch s k) ?_
  refine zLT [_, _] ?_
  refine zLB ?_
  refine zLI ?_
  refine zLB ?_
  refine zLI ?_
  refine zn ?_
  refine zs ?_
  refine zs ?_
  refine zR ?_
  refine zLI ?_
  refine zLB ?_
  refine zLB ?_
  refine zgLB ?_
  refine zpLB ?_
  refine zn ?_
  refine W_cond_t (b := _) rfl (by exact hc43) ?_
  refine zs ?_
  refine zR ?_
  refine zLG [.int _ _, .int _ _, .int _ _, _] ?_
  refine zLI ?_
  refine zst (.agg [.int _ _, .int _ _, .int _ _, _]) [_, _, _, _] [[_, _, _, _]] ?_
  refine zLB ?_
  refine zLI ?_
  refine zn ?_
  refine zt ?_
  refine ends (l := [.agg [.int _ _, .int _ _, .int _ _, _], .bool _, .int _ _]) (q := .tup [.agg [.int _ _, .int _ _, .int _ _, _], .bool _, .int _ _]) (.inr rfl) rfl ⟨rfl, trivial, trivial, trivial⟩ rfl rfl ?_
  rfl
def mOneW : Model := ⟨⟨1, 1, 2⟩, -128, 127, [⟨1, 0, 0, 1, ⟨0, 0, 0, 0, 0, 0, 0, 0⟩, [3, -2], [1], ⟨1, 0⟩, ⟨0, 0⟩, 0, 0, -128, 127⟩], 1⟩
theorem law23_one : Ok Try.prog 42 [] (.agg (modelC mOneW)) := by
  refine fn_ok Tb_ok (fn := Try.f42) Try.func42 rfl rfl (e := []) rfl (by decide) rfl ?_
  refine zs ?_
  refine zR ?_
  refine zal [.int .i64 0, .int .i64 0, .int .i64 0, .int .i64 0, .int .i64 0, .nils, .int .i64 0] 7 ?_
  refine zn ?_
  refine zs ?_
  refine zR ?_
  refine zLG [.int _ _, .int _ _, .int _ _] ?_
  refine L_build Tb_ok (t := 39) (len := 2) (el := 107) (sz := 1) (es := [[_], [_]]) (z := [.int .i16 0]) rfl rfl rfl rfl rfl (by decide) trivial rfl rfl rfl rfl rfl ?_
  refine L_build Tb_ok (t := 40) (len := 1) (el := 21) (sz := 1) (es := [[_]]) (z := [.int .i32 0]) rfl rfl rfl rfl rfl (by decide) trivial rfl rfl rfl rfl rfl ?_
  refine zLG [.int _ _, .int _ _] ?_
  refine L_freeze (t := 2) (l := _) rfl rfl rfl rfl rfl rfl rfl ?_
  refine L_freeze (t := 3) (l := _) rfl rfl rfl rfl rfl rfl rfl ?_
  refine zLG [.int _ _, .int _ _, .int _ _, .int _ _, .int _ _, .int _ _, .int _ _, .int _ _, .int _ _, .int _ _, .int _ _, .int _ _, _, _, .int _ _, .int _ _, .int _ _, .int _ _, .int _ _, .int _ _, .int _ _, .int _ _] ?_
  refine L_build Tb_ok (t := 24) (len := 1) (el := 44) (sz := 22) (es := [[_, _, _, _, _, _, _, _, _, _, _, _, _, _, _, _, _, _, _, _, _, _]]) (z := [.int .i64 0, .int .i64 0, .int .i64 0, .int .i64 0, .int .i64 0, .int .i64 0, .int .i64 0, .int .i64 0, .int .i64 0, .int .i64 0, .int .i64 0, .int .i64 0, .nils, .nils, .int .i64 0, .int .i64 0, .int .i64 0, .int .i64 0, .int .i64 0, .int .i64 0, .int .i64 0, .int .i64 0]) rfl rfl rfl rfl rfl (by decide) trivial rfl rfl rfl rfl rfl ?_
  refine L_freeze (t := 6) (l := _) rfl rfl rfl rfl rfl rfl rfl ?_
  refine zLG [.int _ _, .int _ _, .int _ _, .int _ _, .int _ _, _, .int _ _] ?_
  refine zst (.agg [.int _ _, .int _ _, .int _ _, .int _ _, .int _ _, _, .int _ _]) [_, _, _, _, _, _, _] [[_, _, _, _, _, _, _]] ?_
  refine zn ?_
  refine zt ?_
  refine ends (l := [.agg [.int _ _, .int _ _, .int _ _, .int _ _, .int _ _, _, .int _ _]]) (q := .agg [.int _ _, .int _ _, .int _ _, .int _ _, .int _ _, _, .int _ _]) (.inr rfl) rfl ⟨rfl, trivial⟩ rfl rfl ?_
  rfl
theorem mOneW_Wf : mOneW.Wf := by
  simp [mOneW, Model.Wf, Shape.Wf, ListWf, MOp.Wf, Window.Wf, Scale.Wf, I64.iff, I32.iff, I16.iff, reachBytes]
theorem one_wit {up : Bool} {w : Wit} (h : WitOk mOneW 1 1 ⟨0, 10⟩ up w) : w = ⟨0, rowT (upC up) 0 10 2 (termsF mOneW 1 1 0)⟩ := by
  obtain ⟨M, k, H, hk, e, _⟩ := h.2 (by decide +kernel)
  have hM := H.eM
  rw [show elemsW (findS mOneW 1).In = 2 by decide +kernel] at hM
  have hp : posN mOneW 1 = 1 := by decide +kernel
  obtain rfl : k = 0 := by omega
  obtain rfl : M = 2 := by omega
  exact e
theorem law23_fixed : Ok Try.prog 17 [] (.bool true) := by
  obtain ⟨a, ha, h1⟩ := witness_Low mOneW mOneW_Wf 1 1 ⟨0, 10⟩
  obtain ⟨b, hb, h2⟩ := witness_High mOneW mOneW_Wf 1 1 ⟨0, 10⟩
  have h3 := witness_Break_no mOneW mOneW_Wf 1 1 ⟨0, 10⟩ 2 (.inr (by decide +kernel))
  have h4 := witness_Break_no mOneW mOneW_Wf 1 1 ⟨0, 10⟩ 3 (.inl (by decide +kernel))
  rw [one_wit ha, show rowT (upC false) 0 10 2 (termsF mOneW 1 1 0) = [0, 10] by decide +kernel, show askE mOneW 1 1 ⟨0, 10⟩ = 0 by decide +kernel] at h1
  rw [one_wit hb, show rowT (upC true) 0 10 2 (termsF mOneW 1 1 0) = [10, 0] by decide +kernel, show askE mOneW 1 1 ⟨0, 10⟩ = 0 by decide +kernel] at h2
  rw [show partE mOneW 1 1 ⟨0, 10⟩ 2 = 0 by decide +kernel] at h3
  rw [show partE mOneW 1 1 ⟨0, 10⟩ 3 = 151 by decide +kernel] at h4
  --@@6
  skip
  refine fn_ok Tb_ok (fn := Try.f17) Try.func17 rfl rfl (e := []) rfl (by decide) rfl ?_
  refine zs ?_
  refine zR ?_
  refine zLB ?_
  refine zn ?_
  refine zs ?_
  refine zR ?_
  refine zLc (law23_one) ?_
  refine zLG [.int _ _, .int _ _] ?_
  refine zLc (h1) ?_
  refine zLT [_, _] ?_
  refine zLG [.int _ _, _] ?_
  refine zLI ?_
  refine zal [.int .i64 0, .nils] 2 ?_
  refine zst (.agg [.int _ _, _]) [_, _] [[_, _]] ?_
  refine zLI ?_
  refine zn ?_
  refine zs ?_
  refine zR ?_
  refine zLc (law23_one) ?_
  refine zLG [.int _ _, .int _ _] ?_
  refine zLc (h2) ?_
  refine zLT [_, _] ?_
  refine zLG [.int _ _, _] ?_
  refine zLI ?_
  refine zal [.int .i64 0, .nils] 2 ?_
  refine zst (.agg [.int _ _, _]) [_, _] [[_, _]] ?_
  refine zLI ?_
  refine zn ?_
  refine zs ?_
  refine zR ?_
  refine zLc (law23_one) ?_
  refine zLG [.int _ _, .int _ _] ?_
  refine zLc (h3) ?_
  refine zLT [_, _, _] ?_
  refine zLG [.int _ _, .int _ _, .int _ _, _] ?_
  refine zLB ?_
  refine zLI ?_
  refine zal [.int .i64 0, .int .i64 0, .int .i64 0, .nils] 4 ?_
  refine zst (.agg [.int _ _, .int _ _, .int _ _, _]) [_, _, _, _] [[_, _, _, _]] ?_
  refine zLB ?_
  refine zLI ?_
  refine zn ?_
  refine zs ?_
  refine zR ?_
  refine zLc (law23_one) ?_
  refine zLG [.int _ _, .int _ _] ?_
  refine zLc (h4) ?_
  refine zLT [_, _, _] ?_
  refine zLG [.int _ _, .int _ _, .int _ _, _] ?_
  refine zLB ?_
  refine zLI ?_
  refine zal [.int .i64 0, .int .i64 0, .int .i64 0, .nils] 4 ?_
  refine zst (.agg [.int _ _, .int _ _, .int _ _, _]) [_, _, _, _] [[_, _, _, _]] ?_
  refine zLB ?_
  refine zLI ?_
  refine zn ?_
  refine zs ?_
  refine zR ?_
  refine zLP ?_
  refine zLI ?_
  refine zLB ?_
  refine zLB ?_
  refine zgLP ?_
  refine zgLO ?_
  refine WL_split (d := 40) (want := true) (g := true) rfl rfl rfl rfl (fun _ => ?_) (fun h => by cases h)
  refine L_build Tb_ok (t := 31) (len := 2) (el := 60) (sz := 1) (es := [[_], [_]]) (z := [.int .i8 0]) rfl rfl rfl rfl rfl (by decide) trivial rfl rfl rfl rfl rfl ?_
  refine L_freeze (t := 43) (l := _) rfl rfl rfl rfl rfl rfl rfl ?_
  refine L_callg (hr := fun hg => ref11_Same [0, 10] [0, 10] (by decide)) rfl rfl rfl rfl rfl (fun hg => ⟨⟨(by exact hg), True.intro⟩, True.intro⟩) rfl rfl ?_
  refine zpLB ?_
  refine zLB ?_
  refine zgLI ?_
  refine zgLB ?_
  refine zpLB ?_
  refine zLB ?_
  refine zgLP ?_
  refine zgLI ?_
  refine zgLB ?_
  refine zpLB ?_
  refine zLB ?_
  refine zgLP ?_
  refine zgLO ?_
  refine WL_split (d := 55) (want := true) (g := true) rfl rfl rfl rfl (fun _ => ?_) (fun h => by cases h)
  refine L_build Tb_ok (t := 31) (len := 2) (el := 60) (sz := 1) (es := [[_], [_]]) (z := [.int .i8 0]) rfl rfl rfl rfl rfl (by decide) trivial rfl rfl rfl rfl rfl ?_
  refine L_freeze (t := 58) (l := _) rfl rfl rfl rfl rfl rfl rfl ?_
  refine L_callg (hr := fun hg => ref11_Same [10, 0] [10, 0] (by decide)) rfl rfl rfl rfl rfl (fun hg => ⟨⟨(by exact hg), True.intro⟩, True.intro⟩) rfl rfl ?_
  refine zpLB ?_
  refine zLB ?_
  refine zgLI ?_
  refine zgLB ?_
  refine zpLB ?_
  refine zLB ?_
  refine zgLB ?_
  refine zgLB ?_
  refine zpLB ?_
  refine zLB ?_
  refine zgLP ?_
  refine zgLO ?_
  refine zgLI ?_
  refine zgLB ?_
  refine zpLB ?_
  refine zLB ?_
  refine zgLI ?_
  refine zgLB ?_
  refine zpLB ?_
  refine zLB ?_
  refine zgLI ?_
  refine zgLB ?_
  refine zpLB ?_
  refine zLB ?_
  refine zn ?_
  refine zt ?_
  refine ends (l := [.bool _]) (q := .bool _) (.inr rfl) rfl ⟨trivial, trivial⟩ rfl rfl ?_
  rfl
end Go.AM
end
section
open Go Go.AM Go.Proofs
set_option maxRecDepth 10000
set_option linter.unusedVariables false
set_option linter.unusedSimpArgs false
namespace Go.AM
theorem pre_map (f : Term → Span) (T : List Term) (i k : Nat) : pre (T.map f) i k = (((T.drop i).take k).map f).foldl plusS ⟨0, 0⟩ := by
  unfold pre; rw [List.map_take, List.map_drop]
theorem okF.sub {T U : List Term} {f : Term → Span} (h : okF T f) (hs : ∀ t ∈ U, t ∈ T) : okF U f := fun t ht => h t (hs t ht)
theorem pre_val {f : Term → Span} {T : List Term} (h : okF T f) (hl : T.length ≤ 1024) (i k : Nat) : (pre (T.map f) i k).Lo ≤ (pre (T.map f) i k).Hi := by
  rw [pre_map]
  refine sum_valid _ (h.sub fun t ht => List.mem_of_mem_drop (List.mem_of_mem_take ht)) 0 _ (bS0 (by omega)) ?_ (Int.le_refl _)
  have : ((T.drop i).take k).length ≤ 1024 := by rw [List.length_take, List.length_drop]; omega
  omega
theorem pre_bS {f : Term → Span} {T : List Term} (h : okF T f) (hl : T.length ≤ 1024) (i : Nat) : ∀ k, i + k ≤ T.length → bS (4194304 * k) (pre (T.map f) i k)
  | 0, _ => bS0 (by omega)
  | k + 1, hk => by
    have ih := pre_bS h hl i k (by omega)
    have hin : T.getD (i + k) default ∈ T := getD_in (by omega)
    rw [pre_succ (by rw [List.length_map]; omega), show (T.map f).getD (i + k) default = f (T.getD (i + k) default) by simp [List.getD_eq_getElem?_getD, show i + k < T.length by omega]]
    have := (plus_eq ih (h _ hin).1 (by omega)).2
    rwa [show (4194304 : Int) * k + 4194304 = 4194304 * ((k + 1 : Nat) : Int) by omega] at this
theorem pre_one {f : Term → Span} {T : List Term} (h : okF T f) {i : Nat} (hi : i < T.length) : pre (T.map f) i 1 = f (T.getD i default) := by
  rw [pre_succ (by rw [List.length_map]; omega), pre_zero, Nat.add_zero, show (T.map f).getD i default = f (T.getD i default) by simp [List.getD_eq_getElem?_getD, hi], (plus_eq (A := 0) (bS0 (by omega)) (h _ (getD_in hi)).1 (by omega)).1]
  simp only [Int.zero_add]
theorem terms_len {m : Model} (hm : m.Wf) {op ch : Int} {s : Span} (hs : askE m op ch s = 0) {k : Nat} (hk : k < posN m op) : (termsF m op ch k).length = (findS m op).Len.toNat := by
  obtain ⟨z, hs', f0⟩ := askE_zero hs
  obtain ⟨_, fb, _⟩ := ofE_op z
  obtain ⟨hS, _⟩ := site_ok f0
  obtain ⟨hch, _⟩ := (ofBad_iff hS).1 fb
  have hb : ofBad (findS m op) ch k = false := (ofBad_iff hS).2 ⟨hch, by omega, by unfold posN at hk; omega⟩
  rw [termsF_eq f0 hb]; exact tlF_len hS ch k
theorem partE_ok {m : Model} (hm : m.Wf) {op ch : Int} {s : Span} (hs : askE m op ch s = 0) {d : Int} : partE m op ch s d = 0 ↔ 1 ≤ d ∧ d ≤ (findS m op).Len := by
  unfold partE; rw [if_pos hs]
  by_cases c : d < 1 ∨ d > (findS m op).Len
  · rw [if_pos c]; constructor
    · intro h; omega
    · intro h; omega
  · rw [if_neg c]; constructor
    · intro h; omega
    · intro h; rfl
section
variable {m : Model} (hm : m.Wf) {op ch : Int} {s : Span} (hs : askE m op ch s = 0)
include hm hs
theorem rows_ok : RowsOk (findS m op).Len.toNat (rowsF m op ch s) := by
  have key : ∀ r ∈ rowsF m op ch s, ∃ k : Nat, k < posN m op ∧ r = (termsF m op ch k).map (endF (findS m op).Op.Pad s) := by
    intro r hr
    obtain ⟨k, hk, rfl⟩ := List.mem_map.1 hr
    exact ⟨k, List.mem_range.1 hk, rfl⟩
  refine ⟨fun r hr => ?_, fun r hr i k _ => ?_, fun r hr i hi => ?_⟩
  · obtain ⟨k, hk, rfl⟩ := key r hr
    rw [List.length_map]; exact terms_len hm hs hk
  · obtain ⟨q, hq, rfl⟩ := key r hr
    exact pre_val (end_ok hm hs _) (row_len hm hs _) i k
  · obtain ⟨k, hk, rfl⟩ := key r hr
    have hi' : i < (termsF m op ch k).length := by rw [terms_len hm hs hk]; exact hi
    have ho := end_ok hm hs (k : Int)
    rw [show ((termsF m op ch k).map (endF (findS m op).Op.Pad s)).getD i default = endF (findS m op).Op.Pad s ((termsF m op ch k).getD i default) by simp [List.getD_eq_getElem?_getD, hi']]
    exact ⟨(ho _ (getD_in hi')).2, pre_one ho hi'⟩
/-- a depth's parts lie within 16 bits -/
theorem okW_in {d : Int} (hd : partE m op ch s d = 0) : okW (partS m op ch s d) = true ↔ inW (partH d.toNat (rowsF m op ch s)) := by
  obtain ⟨q, q1, q2, q3, q4⟩ := part_first (d := d) hm hs
  rw [partS, if_pos hd]
  generalize partH d.toNat (rowsF m op ch s) = H at *
  unfold okW holdsF wordS hullS inW
  rw [decide_eq_true_eq]
  dsimp only
  exact ⟨fun h _ => by omega, fun h => by have := h q2; omega⟩
theorem safe_iff {d : Int} (hd : partE m op ch s d = 0) : okW (partS m op ch s d) = true ↔ ∀ k, k < (rowsF m op ch s).length → ∀ i, i < ((rowsF m op ch s).getD k default).length → blkOk d.toNat ((rowsF m op ch s).getD k default) i := by
  rw [okW_in hm hs hd, partH_W]
  constructor
  · intro h k hk i hi
    have := h _ (by rw [List.getD_eq_getElem?_getD, List.getElem?_eq_getElem hk]; exact List.getElem_mem hk) i hi
    unfold blkOk
    rw [narB_iff, narB_iff, part_pre _ _ _ _ hi]; exact this
  · intro h r hr i hi
    obtain ⟨k, hk, rfl⟩ := List.getElem_of_mem hr
    have e : (rowsF m op ch s).getD k default = (rowsF m op ch s)[k] := by simp [List.getD_eq_getElem?_getD, hk]
    have := h k hk i (by rw [e]; exact hi)
    rw [e] at this
    unfold blkOk at this
    rw [narB_iff, narB_iff, part_pre _ _ _ _ hi] at this; exact this
def mostM (m : Model) (op ch : Int) (s : Span) : Nat := mostD (fun d => okW (partS m op ch s (d : Int))) (findS m op).Len.toNat
theorem ref18_Rows : Ok Try.prog 43 [.agg (rsiteC (rcS m op ch)), .int .i64 ch, .agg (spanC s)] (.ro ((rowsF m op ch s).map rowC)) ∧ rcS m op ch = findS m op := by
  obtain ⟨z, hs', f0⟩ := askE_zero hs
  obtain ⟨_, fb, _⟩ := ofE_op z
  obtain ⟨hS, _⟩ := site_ok f0
  obtain ⟨hch, _⟩ := (ofBad_iff hS).1 fb
  obtain ⟨e1, e2⟩ := (rc_ok f0).1 hch
  rw [e2]
  exact ⟨ref13_Rows hm z hs', rfl⟩
theorem ref18_safes {d : Int} (hd : partE m op ch s d = 0) : Ok Try.prog 56 [.ro ((rowsF m op ch s).map rowC), .int .i64 d] (.bool (okW (partS m op ch s d))) := by
  have := (partE_ok hm hs).1 hd
  exact ref18_safe _ d d.toNat (by omega) (by omega) (fun k hk => rowsF_len512 hk) (rowsF_len hs) _ (safe_iff hm hs hd)
theorem ref18_Safe {d : Int} (hd : partE m op ch s d = 0) : Ok Try.prog 22 [.agg (rsiteC (rcS m op ch)), .int .i64 ch, .agg (spanC s), .int .i64 d] (.bool (okW (partS m op ch s d))) := by
  have hR := (ref18_Rows hm hs).1
  have hS := ref18_safes hm hs hd
  --@@1
  skip
  refine fn_ok Tb_ok (fn := Try.f22) Try.func22 rfl rfl (e := [(0, _), (1, _), (2, _), (3, _)]) rfl (by decide) rfl ?_
  refine zs ?_
  refine zR ?_
  refine zbx [.int _ _, .int _ _, .int _ _, .int _ _, .int _ _, .int _ _, .int _ _, .int _ _, .int _ _, .int _ _, .int _ _, .int _ _, _, _, .int _ _, .int _ _, .int _ _, .int _ _, .int _ _, .int _ _, .int _ _, .int _ _, .int _ _, .int _ _, .int _ _, .int _ _, .int _ _, .int _ _] 28 ?_
  refine zbx [.int _ _, .int _ _] 2 ?_
  refine zLB ?_
  refine zn ?_
  refine zs ?_
  refine zR ?_
  refine zLG [.int _ _, .int _ _, .int _ _, .int _ _, .int _ _, .int _ _, .int _ _, .int _ _, .int _ _, .int _ _, .int _ _, .int _ _, _, _, .int _ _, .int _ _, .int _ _, .int _ _, .int _ _, .int _ _, .int _ _, .int _ _, .int _ _, .int _ _, .int _ _, .int _ _, .int _ _, .int _ _] ?_
  refine zLI ?_
  refine zLG [.int _ _, .int _ _] ?_
  refine zLc (hR) ?_
  refine zLI ?_
  refine zLc (hS) ?_
  refine zLB ?_
  refine zn ?_
  refine zt ?_
  refine ends (l := [.bool _]) (q := .bool _) (.inr rfl) rfl ⟨trivial, trivial⟩ rfl rfl ?_
  rfl
theorem ref18_Most : Ok Try.prog 28 [.agg (rsiteC (rcS m op ch)), .int .i64 ch, .agg (spanC s)] (.int .i64 (mostM m op ch s : Int)) := by
  obtain ⟨hR, e2⟩ := ref18_Rows hm hs
  have f0 := (askE_zero hs).2.2
  have hL := ref10_Length (rcS m op ch)
  rw [e2, lenF_site f0] at hL
  have hLb := (site_ok f0).1.len
  have hsafe : ∀ k : Nat, 0 < k → k ≤ (findS m op).Len.toNat → Ok Try.prog 56 [.ro ((rowsF m op ch s).map rowC), .int .i64 (k : Int)] (.bool (okW (partS m op ch s (k : Int)))) := fun k h1 h2 => ref18_safes hm hs ((partE_ok hm hs).2 ⟨by omega, by omega⟩)
  unfold mostM
  generalize hn : (findS m op).Len.toNat = n at *
  have hLn : (findS m op).Len = (n : Int) := by omega
  rw [hLn] at hL
  rw [e2] at hR ⊢
  generalize rowsF m op ch s = L at *
  --@@2
  skip
  refine fn_ok Tb_ok (fn := Try.f28) Try.func28 rfl rfl (e := [(0, _), (1, _), (2, _)]) rfl (by decide) rfl ?_
  refine zs ?_
  refine zR ?_
  refine zbx [.int _ _, .int _ _, .int _ _, .int _ _, .int _ _, .int _ _, .int _ _, .int _ _, .int _ _, .int _ _, .int _ _, .int _ _, _, _, .int _ _, .int _ _, .int _ _, .int _ _, .int _ _, .int _ _, .int _ _, .int _ _, .int _ _, .int _ _, .int _ _, .int _ _, .int _ _, .int _ _] 28 ?_
  refine zbx [.int _ _, .int _ _] 2 ?_
  refine zLI ?_
  refine zn ?_
  refine zs ?_
  refine zR ?_
  refine zLG [.int _ _, .int _ _, .int _ _, .int _ _, .int _ _, .int _ _, .int _ _, .int _ _, .int _ _, .int _ _, .int _ _, .int _ _, _, _, .int _ _, .int _ _, .int _ _, .int _ _, .int _ _, .int _ _, .int _ _, .int _ _, .int _ _, .int _ _, .int _ _, .int _ _, .int _ _, .int _ _] ?_
  refine zLI ?_
  refine zLG [.int _ _, .int _ _] ?_
  refine zLc (hR) ?_
  refine zLO ?_
  refine zn ?_
  refine zs ?_
  refine zs ?_
  refine zR ?_
  refine zLG [.int _ _, .int _ _, .int _ _, .int _ _, .int _ _, .int _ _, .int _ _, .int _ _, .int _ _, .int _ _, .int _ _, .int _ _, _, _, .int _ _, .int _ _, .int _ _, .int _ _, .int _ _, .int _ _, .int _ _, .int _ _, .int _ _, .int _ _, .int _ _, .int _ _, .int _ _, .int _ _] ?_
  refine zLc (hL) ?_
  refine zLI ?_
  refine zn ?_
  refine W_block ?_
  refine W_inv (ι := {k : Nat // k ≤ n ∧ ∀ j, k < j → j ≤ n → okW (partS m op ch s (j : Int)) = false}) (fun k => ⟨[(7, .ro (L.map rowC)), (8, .int .i64 (k.1 : Int))], [], [], 0⟩) (fun k => k.1) ⟨n, Nat.le_refl _, fun j h1 h2 => by omega⟩ (le_fit ⟨rfl, rfl, trivial⟩ trivial trivial rfl rfl rfl rfl rfl) ?_
  rintro ⟨k, hk, hf⟩
  dsimp only
  refine zs ?_
  refine zs ?_
  refine zR ?_
  refine zLI ?_
  refine zLB ?_
  refine zn ?_
  refine W_cond (b := _) rfl (fun h16 => ?_) (fun h16 => ?_)
  · have hk0 : 0 < k := by have := of_decide_eq_true h16; omega
    refine zk ?_
    refine zs ?_
    refine W_block ?_
    refine zs ?_
    refine zR ?_
    refine zLO ?_
    refine zLI ?_
    refine zLc (hsafe k hk0 hk) ?_
    refine zn ?_
    refine W_cond (b := _) rfl (fun h21 => ?_) (fun h21 => ?_)
    · refine zs ?_
      refine zR ?_
      refine zLI ?_
      refine zLI ?_
      refine zn ?_
      refine zt ?_
      refine ends (l := [.int _ _]) (q := .int _ _) (.inr rfl) rfl ⟨trivial, trivial⟩ rfl rfl ?_
      congr 1
      exact congrArg _ (mostD_eq (p := fun d : Nat => okW (partS m op ch s (d : Int))) hk (.inr h21) hf).symm
    · refine zk ?_
      refine zR ?_
      refine zLI ?_
      refine zLI ?_
      refine zLI ?_
      refine zn ?_
      refine round_end (Q := fun _ _ => True) ⟨k - 1, by omega, fun j h1 h2 => ?_⟩ (by dsimp only; omega) (le_fit ⟨rfl, congrArg (AV.int .i64) (show IntKind.i64.wrap ((k : Int) - 1) = ((k - 1 : Nat) : Int) from (w64_id (by omega)).trans (by omega)), trivial⟩ trivial trivial rfl rfl rfl rfl rfl)
      by_cases e : j = k
      · rw [e]; exact h21
      · exact hf j (by omega) h2
  · have hk0 : k = 0 := by have := of_decide_eq_false h16; omega
    refine W_exit ?_
    repeat (first | refine pass_then ?_ | refine pass_round ?_)
    refine blockQ_hit ?_
    refine zs ?_
    refine zR ?_
    refine zLI ?_
    refine zn ?_
    refine zt ?_
    refine ends (l := [.int _ _]) (q := .int _ _) (.inr rfl) rfl ⟨trivial, trivial⟩ rfl rfl ?_
    rw [mostD_eq (p := fun d : Nat => okW (partS m op ch s (d : Int))) (k := 0) (Nat.zero_le _) (.inl rfl) (fun j h1 h2 => hf j (by omega) h2)]; rfl
end
end Go.AM
end
section
open Go Go.AM Go.Proofs
set_option maxRecDepth 10000
set_option linter.unusedVariables false
set_option linter.unusedSimpArgs false
namespace Go.AM
def leakT (m : Model) (op ch : Int) (k f n : Nat) : List Term := ((termsF m op ch k).drop f).take n
def leakX (m : Model) (op ch : Int) (s : Span) (M k f n : Nat) (up : Bool) : List Int := rowT (upC up) s.Lo s.Hi M (leakT m op ch k f n)
def leakV (m : Model) (op ch : Int) (s : Span) (M k f n : Nat) (up : Bool) : Int := sumT 0 (leakT m op ch k f n) (leakX m op ch s M k f n up) (findS m op).Op.Pad
def badB (v : Int) : Bool := v != IntKind.i64.wrap (IntKind.i16.wrap v)
theorem badB_iff {v : Int} (hv : I64 v) : badB v = true ↔ v < -32768 ∨ v > 32767 := by
  have := I64.iff.1 hv
  unfold badB
  rw [bne_iff_ne]
  have e : IntKind.i64.wrap (IntKind.i16.wrap v) = IntKind.i16.wrap v := by
    have h : -32768 ≤ IntKind.i16.wrap v ∧ IntKind.i16.wrap v ≤ 32767 := by simp [IntKind.wrap, IntKind.bits, IntKind.signed]; split <;> omega
    exact w64_id (by omega)
  rw [e]
  constructor
  · intro h
    by_cases c : v < -32768 ∨ v > 32767
    · exact c
    · exact absurd (by simp [IntKind.wrap, IntKind.bits, IntKind.signed]; split <;> omega : v = IntKind.i16.wrap v) h
  · intro h q
    have h2 : -32768 ≤ IntKind.i16.wrap v ∧ IntKind.i16.wrap v ≤ 32767 := by simp [IntKind.wrap, IntKind.bits, IntKind.signed]; split <;> omega
    omega
theorem leakT_mem {m : Model} {op ch : Int} {k f n : Nat} {t : Term} (h : t ∈ leakT m op ch k f n) : t ∈ termsF m op ch k := List.mem_of_mem_drop (List.mem_of_mem_take h)
theorem sub_ends {S : Site} (hS : SiteOk S) {ch k : Int} (hch : 1 ≤ ch ∧ ch ≤ S.Out.C) (hk : 0 ≤ k ∧ k < S.Out.H * S.Out.W) {s : Span} (hs : -128 ≤ s.Lo ∧ s.Lo ≤ s.Hi ∧ s.Hi ≤ 127) {M : Nat} (hM : (M : Int) = S.In.H * S.In.W * S.In.C) (hW : ∀ t ∈ tlF S ch k, -32768 ≤ t.W ∧ t.W ≤ 32767) {T : List Term} (hT : ∀ t ∈ T, t ∈ tlF S ch k) :
    (∀ t ∈ T, w64 (t.W * vT (rowT (upC false) s.Lo s.Hi M T) S.Op.Pad t) = (endF S.Op.Pad s t).Lo) ∧ ∀ t ∈ T, w64 (t.W * vT (rowT (upC true) s.Lo s.Hi M T) S.Op.Pad t) = (endF S.Op.Pad s t).Hi := by
  have hp := (pad_bd hS).1
  have u0 : upC false = fun w => !decide (w > 0) := by funext w; unfold upC; cases decide (w > 0) <;> rfl
  have u1 : upC true = fun w => decide (w > 0) := by funext w; unfold upC; cases decide (w > 0) <;> rfl
  rw [u0, u1]
  have both : ∀ (c : Int → Bool), ∀ t ∈ T, vT (rowT c s.Lo s.Hi M T) S.Op.Pad t = if t.At < 0 then S.Op.Pad else if c t.W = true then s.Hi else s.Lo := by
    intro c t ht
    unfold vT
    rcases tlF_at hS hch k t (hT t ht) with h | ⟨h1, h2⟩
    · rw [if_neg (by omega), if_pos (by omega)]
    · rw [if_pos (by omega), if_neg (by omega), rowT_at (fun t ht u hu h0 he => by rw [term_same hS hch hk t (hT t ht) u (hT u hu) h0 he]) ht h1 (by omega)]
      split <;> exact w64_id (by omega)
  have m1 := fun t ht => mul_small (hW t ht) (show -128 ≤ s.Lo ∧ s.Lo ≤ 127 by omega)
  have m2 := fun t ht => mul_small (hW t ht) (show -128 ≤ s.Hi ∧ s.Hi ≤ 127 by omega)
  have m3 := fun t ht => mul_small (hW t ht) hp
  refine ⟨fun t ht => ?_, fun t ht => ?_⟩
  · rw [both _ t ht]
    have a1 := m1 t (hT t ht); have a2 := m2 t (hT t ht); have a3 := m3 t (hT t ht)
    unfold endF tmS
    by_cases c : t.At < 0
    · rw [if_pos c, if_pos c]; split <;> (dsimp only; rw [Int.mul_comm S.Op.Pad]; exact w64_id (by omega))
    · rw [if_neg c, if_neg c]
      by_cases d : t.W < 0
      · rw [if_pos d, if_pos (by simp; omega)]; dsimp only; rw [Int.mul_comm s.Hi]; exact w64_id (by omega)
      · rw [if_neg d]
        by_cases e : t.W > 0
        · rw [if_neg (by simp [e])]; dsimp only; rw [Int.mul_comm s.Lo]; exact w64_id (by omega)
        · rw [show t.W = 0 by omega]; simp [w64, IntKind.wrap_i64]
  · rw [both _ t ht]
    have a1 := m1 t (hT t ht); have a2 := m2 t (hT t ht); have a3 := m3 t (hT t ht)
    unfold endF tmS
    by_cases c : t.At < 0
    · rw [if_pos c, if_pos c]; split <;> (dsimp only; rw [Int.mul_comm S.Op.Pad]; exact w64_id (by omega))
    · rw [if_neg c, if_neg c]
      by_cases d : t.W < 0
      · rw [if_pos d, if_neg (by simp; omega)]; dsimp only; rw [Int.mul_comm s.Lo]; exact w64_id (by omega)
      · rw [if_neg d]
        by_cases e : t.W > 0
        · rw [if_pos (by simp [e])]; dsimp only; rw [Int.mul_comm s.Hi]; exact w64_id (by omega)
        · rw [show t.W = 0 by omega]; simp [w64, IntKind.wrap_i64]
theorem leak_val {m : Model} (hm : m.Wf) {op ch : Int} {s : Span} {M : Nat} (H : AskH m op ch s M) {k : Nat} (hk : k < posN m op) (f n : Nat) :
    leakV m op ch s M k f n false = (pre ((rowsF m op ch s).getD k default) f n).Lo ∧ leakV m op ch s M k f n true = (pre ((rowsF m op ch s).getD k default) f n).Hi := by
  obtain ⟨hS, _⟩ := site_ok H.f0
  have hp := H.pos
  have hb := H.bad k hk
  have e := termsF_eq H.f0 hb
  have hrow : (rowsF m op ch s).getD k default = (termsF m op ch k).map (endF (findS m op).Op.Pad s) := by simp [rowsF, rowF, List.getD_eq_getElem?_getD, hk]
  have E := sub_ends hS H.hch (k := (k : Int)) (by omega) H.hs (M := M) H.eM (by have h := termsF_W hm op ch k; rw [e] at h; exact h) (T := leakT m op ch k f n) (fun t ht => by rw [← e]; exact leakT_mem ht)
  unfold pre
  rw [hrow, ← List.map_drop, ← List.map_take]
  exact ⟨sumT_lo _ _ _ E.1, sumT_hi _ _ _ E.2⟩
theorem sumT_I64 (T : List Term) (x : List Int) (pad : Int) : I64 (sumT 0 T x pad) := by
  cases h : T.reverse with
  | nil => rw [List.reverse_eq_nil_iff.1 h]; exact I64.iff.2 (by show -9223372036854775808 ≤ (0 : Int) ∧ (0 : Int) ≤ 9223372036854775807; omega)
  | cons t l =>
    have e : T = l.reverse ++ [t] := by rw [← List.reverse_reverse T, h, List.reverse_cons]
    unfold sumT
    rw [e, List.foldl_append]
    exact I64.iff.2 (by simp only [List.foldl_cons, List.foldl_nil]; generalize l.reverse.foldl (fun s t => w64 (s + w64 (t.W * vT x pad t))) 0 + w64 (t.W * vT x pad t) = z; simp only [w64, IntKind.wrap_i64]; omega)
/-- the four that are tried at a term -/
def pickL (m : Model) (op ch : Int) (s : Span) (M D k i : Nat) : Option (Nat × Bool) :=
  bif badB (leakV m op ch s M k i (i + 1 - i) false) then some (i, false) else bif badB (leakV m op ch s M k i (i + 1 - i) true) then some (i, true) else
    bif badB (leakV m op ch s M k (i / D * D) (i + 1 - i / D * D) false) then some (i / D * D, false) else bif badB (leakV m op ch s M k (i / D * D) (i + 1 - i / D * D) true) then some (i / D * D, true) else none
theorem pickL_some {m : Model} {op ch : Int} {s : Span} {M D k i : Nat} {q : Nat × Bool} (h : pickL m op ch s M D k i = some q) : (q.1 = i ∨ q.1 = i / D * D) ∧ badB (leakV m op ch s M k q.1 (i + 1 - q.1) q.2) = true := by
  unfold pickL at h
  cases h1 : badB (leakV m op ch s M k i (i + 1 - i) false) <;> simp only [h1, cond_true, cond_false] at h
  · cases h2 : badB (leakV m op ch s M k i (i + 1 - i) true) <;> simp only [h2, cond_true, cond_false] at h
    · cases h3 : badB (leakV m op ch s M k (i / D * D) (i + 1 - i / D * D) false) <;> simp only [h3, cond_true, cond_false] at h
      · cases h4 : badB (leakV m op ch s M k (i / D * D) (i + 1 - i / D * D) true) <;> simp only [h4, cond_true, cond_false] at h
        · cases h
        · cases h; exact ⟨.inr rfl, h4⟩
      · cases h; exact ⟨.inr rfl, h3⟩
    · cases h; exact ⟨.inl rfl, h2⟩
  · cases h; exact ⟨.inl rfl, h1⟩
theorem opt4_none {α : Type} {a b c d : Bool} {x y z w : α} (h : (bif a then some x else bif b then some y else bif c then some z else bif d then some w else none) = none) : a = false ∧ b = false ∧ c = false ∧ d = false := by
  cases a <;> cases b <;> cases c <;> cases d <;> simp at h ⊢
/-- where a depth is not safe, one of these is bad -/
theorem leak_ex {m : Model} (hm : m.Wf) {op ch : Int} {s : Span} {M : Nat} (hz : askE m op ch s = 0) (H : AskH m op ch s M) {d : Int} {D : Nat} (hd : d = (D : Int)) (hD : 1 ≤ D) (hp : partE m op ch s d = 0) (hs : safeB m op ch s d = false) : ∃ k, k < posN m op ∧ ∃ i, i < (termsF m op ch k).length ∧ pickL m op ch s M D k i ≠ none := by
  have hn : ¬ okW (partS m op ch s d) = true := by
    intro q; unfold safeB at hs; rw [hp] at hs; simp at hs; rw [hs] at q; cases q
  rw [safe_iff hm hz hp] at hn
  have hrl : (rowsF m op ch s).length = posN m op := by simp [rowsF]
  refine Classical.byContradiction fun hc => hn fun k hk i hi => ?_
  rw [hrl] at hk
  have hrow : (rowsF m op ch s).getD k default = (termsF m op ch k).map (endF (findS m op).Op.Pad s) := by simp [rowsF, rowF, List.getD_eq_getElem?_getD, hk]
  have hi2 := hi
  rw [hrow, List.length_map] at hi2
  have hnone : pickL m op ch s M D k i = none := Classical.byContradiction fun q => hc ⟨k, hk, i, hi2, q⟩
  have V := leak_val hm H hk
  obtain ⟨b1, b2, b3, b4⟩ := opt4_none hnone
  have ok : ∀ f n up, badB (leakV m op ch s M k f n up) = false → -32768 ≤ leakV m op ch s M k f n up ∧ leakV m op ch s M k f n up ≤ 32767 := fun f n up q => by
    have := (badB_iff (v := leakV m op ch s M k f n up) (sumT_I64 _ _ _)).2
    refine ⟨?_, ?_⟩
    · by_cases c : leakV m op ch s M k f n up < -32768
      · rw [this (.inl c)] at q; cases q
      · omega
    · by_cases c : leakV m op ch s M k f n up > 32767
      · rw [this (.inr c)] at q; cases q
      · omega
  have v1 := ok _ _ _ b1; have v2 := ok _ _ _ b2; have v3 := ok _ _ _ b3; have v4 := ok _ _ _ b4
  rw [(V _ _).1] at v1 v3
  rw [(V _ _).2] at v2 v4
  have hmod : i - i % D = i / D * D := by have := Nat.div_add_mod i D; rw [Nat.mul_comm] at this; omega
  have hdn : d.toNat = D := by omega
  rw [hdn]
  unfold blkOk
  rw [narB_iff, narB_iff, part_pre _ _ _ _ hi, hmod]
  have hle : i / D * D ≤ i := by omega
  have e1 : i % D + 1 = i + 1 - i / D * D := by have := Nat.mod_le i D; omega
  rw [e1]
  have e2 : (pre ((rowsF m op ch s).getD k default) i 1) = ⟨w64 (0 + (((rowsF m op ch s).getD k default).getD i default).Lo), w64 (0 + (((rowsF m op ch s).getD k default).getD i default).Hi)⟩ := by
    rw [show (1 : Nat) = 0 + 1 from rfl, pre_succ (by omega), pre_zero]; rfl
  rw [show i + 1 - i = 1 by omega, e2] at v1 v2
  have hm2 : ((rowsF m op ch s).getD k default).getD i default = endF (findS m op).Op.Pad s ((termsF m op ch k).getD i default) := by rw [hrow]; simp [List.getD_eq_getElem?_getD, hi2]
  have hE := end_ok hm hz (k : Int) ((termsF m op ch k).getD i default) (by rw [List.getD_eq_getElem?_getD, List.getElem?_eq_getElem hi2]; exact List.getElem_mem hi2)
  rw [← hm2] at hE
  generalize ((rowsF m op ch s).getD k default).getD i default = z at *
  obtain ⟨⟨⟨g1, g2⟩, g3, g4⟩, _⟩ := hE
  unfold nar
  rw [show w64 (0 + z.Lo) = z.Lo from (w64_id (by omega)).trans (by omega)] at v1
  rw [show w64 (0 + z.Hi) = z.Hi from (w64_id (by omega)).trans (by omega)] at v2
  exact ⟨⟨v3.1, v4.2⟩, v1.1, v2.2⟩
end Go.AM
end
section
namespace Go.AM
open Go.RowKit
set_option linter.unusedVariables false
set_option linter.unusedSimpArgs false
section
variable {P : Program} {T : Tab} {nt lo : Nat}
theorem E_slice {G : Env → Prop} {ops : Array Oper} {rest : List Oper} {e : Env} {O : Objs} {K : Toks} {nx d : Nat} {ty : TypeId} {pos : String} {after : Array Edge} (hT : Tab.Ok P T) {t el sz : Nat} {x y z : Operand} {l : List (List AV)} {ky kz : IntKind} {p q : Int} (hx : strip (ev e x) = .ro l) (hy : strip (ev e y) = .int ky p) (hz : strip (ev e z) = .int kz q)
    (hk : (T.at t).kind = .slice el) (hsz : (T.at el).size = sz) (hpos : Nat.blt 0 sz = true) (hl : ∀ c ∈ l, c.length = sz) (h0 : 0 ≤ p) (h1 : p ≤ q) (h2 : q ≤ l.length) (hs : sg (ev e x) ∧ sg (ev e y) ∧ sg (ev e z)) (hd : Nat.blt d nt = true)
    (hn : LexE P nt lo ops O K nx rest ((d, .ro ((l.drop p.toNat).take (q.toNat - p.toNat))) :: e) G) : LexE P nt lo ops O K nx (⟨some d, .slice t x (some y) (some z) none, ty, pos, after, none⟩ :: rest) e G := by
  refine ⟨.ro ((l.drop p.toNat).take (q.toNat - p.toNat)), fun β a w e' he hr => .inl ⟨wanted_none rfl _, fun K' Q' hk' => ?_⟩, by dsimp only; rw [wr_some hd]; exact hn⟩
  obtain ⟨hdm, μ, F, hE, hX⟩ := hr
  have ex : ev e' x = ev e x := ev_on he x (by simp [Op.operands])
  have ey : ev e' y = ev e y := ev_on he y (by simp [Op.operands])
  have ez : ev e' z = ev e z := ev_on he z (by simp [Op.operands])
  have rx := (hE.ev x).strip (by dsimp only; rw [ex]; exact hs.1)
  have ry := (hE.ev y).strip (by dsimp only; rw [ey]; exact hs.2.1)
  have rz := (hE.ev z).strip (by dsimp only; rw [ez]; exact hs.2.2)
  dsimp only at rx ry rz
  rw [ex, hx] at rx
  rw [ey, hy] at ry
  rw [ez, hz] at rz
  obtain ⟨ti, hti, h3, _⟩ := hT.info (Tab.ne_none hk (by simp))
  rw [h3] at hk
  have hu := kind_slice hk
  have hpz : 0 < sz := by simpa [Nat.blt_eq] using hpos
  obtain ⟨ei, hei, _, hes, _⟩ := hT.info (t := el) (Tab.ne_none' (by omega))
  obtain ⟨ad, n, cap, hcv, hqc, hrel⟩ := ro_slice rx hl (p := p.toNat) (q := q.toNat) (by omega) (by omega)
  generalize hcx : a.eval x = cx at rx hcv
  generalize hcy : a.eval y = cy at ry
  generalize hcz : a.eval z = cz at rz
  cases ry; cases rz
  subst hcv
  have hrun : (execOp a.eval ⟨some d, .slice t x (some y) (some z) none, ty, pos, after, none⟩).run P w = .ok (.value (.slice (if cap = p.toNat then ad else ad.map (·.add (p.toNat * sz))) (q.toNat - p.toNat) (cap - p.toNat))) w := by
    have e1 : 0 ≤ q ∧ q ≤ (cap : Int) := by omega
    have e2 : 0 ≤ p ∧ p ≤ ((q.toNat : Nat) : Int) := by omega
    simp [execOp, hcx, hcy, hcz, Instr.sliceAt, Instr.slice, run_und hu, Instr.sliceBounds, Instr.sliceBound, asIntOf, e1, e2, run_size hei, ← hes, hsz]
    all_goals (intro hh; exact absurd hh (by omega))
  unfold Oper.wp
  rw [hrun]
  exact hk' _ w (Rel.put (s := ⟨e', O, K, nx⟩) (d := some d) hdm hE hrel hX)
theorem E_slice_map {G : Env → Prop} {ops : Array Oper} {rest : List Oper} {e : Env} {O : Objs} {K : Toks} {nx d : Nat} {ty : TypeId} {pos : String} {after : Array Edge} (hT : Tab.Ok P T) {α : Type} {f : α → List AV} {xs : List α} (a c : Nat) {t el sz : Nat} {x y z : Operand} {ky kz : IntKind} {p q : Int} (hx : strip (ev e x) = .ro (xs.map f)) (hy : strip (ev e y) = .int ky p) (hz : strip (ev e z) = .int kz q)
    (hk : (T.at t).kind = .slice el) (hsz : (T.at el).size = sz) (hpos : Nat.blt 0 sz = true) (hl : ∀ x, (f x).length = sz) (ha : p = (a : Int)) (hc : q = (c : Int)) (h1 : a ≤ c) (h2 : c ≤ xs.length) (hs : sg (ev e x) ∧ sg (ev e y) ∧ sg (ev e z)) (hd : Nat.blt d nt = true)
    (hn : LexE P nt lo ops O K nx rest ((d, .ro (((xs.drop a).take (c - a)).map f)) :: e) G) : LexE P nt lo ops O K nx (⟨some d, .slice t x (some y) (some z) none, ty, pos, after, none⟩ :: rest) e G := by
  subst ha hc
  refine E_slice hT hx hy hz hk hsz hpos (fun c hc => by obtain ⟨x, _, rfl⟩ := List.mem_map.1 hc; exact hl x) (by omega) (by omega) (by rw [List.length_map]; omega) hs hd ?_
  rw [Int.toNat_natCast, Int.toNat_natCast, ← List.map_drop, ← List.map_take]
  exact hn
end
end Go.AM
end
section
open Go Go.AM Go.Proofs
set_option maxRecDepth 10000
set_option linter.unusedVariables false
set_option linter.unusedSimpArgs false
namespace Go.AM
def leakC (k f n : Nat) (X : List Int) : List AV := [.int .i64 (k : Int), .int .i64 (f : Int), .int .i64 (n : Int), .ro (X.map i8C)]
/-- a leak -/
structure LeakH (m : Model) (op ch : Int) (s : Span) (D M k i f : Nat) (up : Bool) : Prop where
  H : AskH m op ch s M
  hk : k < posN m op
  hi : i < (termsF m op ch k).length
  hf : f = i ∨ f = i / D * D
  bad : badB (leakV m op ch s M k f (i + 1 - f) up) = true
theorem witness_Break {m : Model} (hm : m.Wf) {op ch : Int} {s : Span} {d : Int} (hp : partE m op ch s d = 0) (hs : safeB m op ch s d = false) :
    ∃ D M k i f up, d = ((D : Nat) : Int) ∧ 1 ≤ D ∧ LeakH m op ch s D M k i f up ∧ Ok Try.prog 20 [.agg (modelC m), .int .i64 op, .int .i64 ch, .agg (spanC s), .int .i64 d] (.tup [.agg (leakC k f (i + 1) (leakX m op ch s M k f (i + 1 - f) up)), .bool true, .int .i64 0]) := by
  have hz := partE_zero hp
  obtain ⟨M, H⟩ := ask_h hm hz
  have hM1 := H.M1
  have hpn := H.pn
  obtain ⟨hS, ⟨o1, o2⟩, hop, he, _⟩ := site_ok H.f0
  have hn := (whole_ok he).1
  have hL := hS.len
  have hdd : 1 ≤ d ∧ d ≤ (findS m op).Len := by
    have h := hp
    unfold partE at h
    rw [if_pos hz] at h
    split at h <;> omega
  obtain ⟨D, hD⟩ : ∃ D : Nat, d = (D : Int) := ⟨d.toNat, by omega⟩
  obtain ⟨n0, hn0⟩ := leak_ex hm hz H hD (by omega) hp hs
  obtain ⟨k0, hk0, ⟨hk1, i1, hi1⟩, hkm⟩ := exists_first (P := fun k => k < posN m op ∧ ∃ i, i < (termsF m op ch k).length ∧ pickL m op ch s M D k i ≠ none) n0 hn0
  obtain ⟨i0, hi0, ⟨hi2, hi3⟩, him⟩ := exists_first (P := fun i => i < (termsF m op ch k0).length ∧ pickL m op ch s M D k0 i ≠ none) i1 hi1
  obtain ⟨⟨f0, up0⟩, hq0⟩ : ∃ q, pickL m op ch s M D k0 i0 = some q := by
    cases h : pickL m op ch s M D k0 i0 with
    | none => exact absurd h hi3
    | some q => exact ⟨q, rfl⟩
  have hsm := pickL_some hq0
  refine ⟨D, M, k0, i0, f0, up0, hD, by omega, ⟨H, hk1, hi2, hsm.1, hsm.2⟩, ?_⟩
  have ow : IntKind.i64.wrap (op - 1) = op - 1 := w64_id (by omega)
  have x0 : 0 ≤ IntKind.i64.wrap (op - 1) := by rw [ow]; omega
  have x1 : IntKind.i64.wrap (op - 1) < (m.Ops.length : Int) := by rw [ow]; omega
  have hpad : (m.Ops.getD (IntKind.i64.wrap (op - 1)).toNat default).Pad = (findS m op).Op.Pad := by rw [ow, hop]
  have hsz := witness_size H.f0 H.eM
  have hnum : ∀ (k f n : Nat) (up : Bool), Ok Try.prog 53 [.ro ((((termsF m op ch k).drop f).take n).map termC), .agg (spanC s), .int .i64 (M : Int), .bool up] (.ro ((leakX m op ch s M k f n up).map i8C)) := fun k f n up =>
    witness_numbers _ s M up H.hs H.M1 (by have := H.tl k; rw [List.length_take, List.length_drop]; omega) (fun t ht => H.tat k t (List.mem_of_mem_drop (List.mem_of_mem_take ht)))
  have hsum : ∀ (k f n : Nat) (up : Bool), Ok Try.prog 54 [.ro ((((termsF m op ch k).drop f).take n).map termC), .ro ((leakX m op ch s M k f n up).map i8C), .int .i64 (findS m op).Op.Pad] (.int .i64 (leakV m op ch s M k f n up)) := fun k f n up =>
    witness_sum _ _ _ (by have := H.tl k; rw [List.length_take, List.length_drop]; omega) (fun t ht => by rw [leakX, rowT_len]; exact H.tat k t (List.mem_of_mem_drop (List.mem_of_mem_take ht)))
  have hPo := terms_Positions m op
  obtain ⟨p1, p2, p3⟩ := out_pos hS
  rw [H.f0, p1, ← H.pos] at hPo
  have hpD : ∀ i : Nat, i ≤ 512 → IntKind.i64.wrap (IntKind.i64.wrap ((i : Int).tdiv (D : Int)) * (D : Int)) = ((i / D * D : Nat) : Int) := fun i hi => by
    have h1 : i / D * D ≤ i := Nat.div_mul_le_self i D
    have h2 : i / D ≤ i := Nat.div_le_self i D
    rw [Int.tdiv_eq_ediv_of_nonneg (by omega), show (i : Int) / (D : Int) = ((i / D : Nat) : Int) from rfl]
    generalize i / D = q at *
    rw [show IntKind.i64.wrap (q : Int) = (q : Int) from w64_id (by omega), ← Int.natCast_mul]
    exact w64_id (by omega)
  have hDL : ∀ i : Nat, i / D * D ≤ i := fun i => Nat.div_mul_le_self i D
  have hSafe := depth_Safe m hm op ch s d
  rw [hp, hs] at hSafe
  subst hD
  have hP : ∀ k i, pickL m op ch s M D k i = (bif badB (leakV m op ch s M k i (i + 1 - i) false) then some (i, false) else bif badB (leakV m op ch s M k i (i + 1 - i) true) then some (i, true) else
    bif badB (leakV m op ch s M k (i / D * D) (i + 1 - i / D * D) false) then some (i / D * D, false) else bif badB (leakV m op ch s M k (i / D * D) (i + 1 - i / D * D) true) then some (i / D * D, true) else none) := fun k i => rfl
  have hTl := H.tl
  have hOf := H.Of
  generalize leakV m op ch s M = V at *
  generalize leakX m op ch s M = X at *
  generalize pickL m op ch s M D = PL at *
  have hfirst : ∀ (k i : Nat) (q : Nat × Bool), (∀ k' : Nat, k' < k → ∀ i' : Nat, i' < (termsF m op ch k').length → PL k' i' = none) → (∀ i', i' < i → PL k i' = none) → i < (termsF m op ch k).length → k < posN m op → PL k i = some q → k = k0 ∧ i = i0 ∧ q = (f0, up0) := fun k i q f1 f2 h1 h2 h3 => by
    have e : k = k0 := by
      by_cases c : k < k0
      · exact absurd ⟨h2, i, h1, by rw [h3]; simp⟩ (hkm k c)
      · by_cases c2 : k0 < k
        · exact absurd (f1 k0 c2 i0 hi2) hi3
        · omega
    subst e
    have e2 : i = i0 := by
      by_cases c : i < i0
      · exact absurd ⟨h1, by rw [h3]; simp⟩ (him i c)
      · by_cases c2 : i0 < i
        · exact absurd (f2 i0 c2) hi3
        · omega
    subst e2
    exact ⟨rfl, rfl, Option.some.inj (h3.symm.trans hq0)⟩
  --@@1
  skip
  refine fn_ok Tb_ok (fn := Try.f20) Try.func20 rfl rfl (e := [(0, _), (1, _), (2, _), (3, _), (4, _)]) rfl (by decide) rfl ?_
  refine W_seq ?_
  refine W_region rfl ?_
  refine L_box Tb_ok (cs := [.int _ _, .int _ _, .int _ _, .int _ _, .int _ _, _, .int _ _]) (n := 7) rfl rfl rfl rfl trivial ?_
  refine L_box Tb_ok (cs := [.int _ _, .int _ _]) (n := 2) rfl rfl rfl rfl trivial ?_
  refine L_alloc Tb_ok (z := [.int .i64 0, .int .i64 0, .int .i64 0, .nils]) (n := 4) rfl rfl rfl rfl rfl ?_
  refine L_v Tb_ok (v := .bool _) (av rfl ⟨trivial, trivial⟩) rfl ?_
  refine L_v Tb_ok (v := .int _ _) (av rfl ⟨trivial, trivial⟩) rfl ?_
  refine WL_nil ?_
  refine W_seq ?_
  refine W_region rfl ?_
  refine L_v Tb_ok (v := .agg [.int _ _, .int _ _, .int _ _, .int _ _, .int _ _, _, .int _ _]) (av rfl ⟨trivial, rfl⟩) rfl ?_
  refine L_v Tb_ok (v := .int _ _) (av rfl ⟨trivial, trivial⟩) rfl ?_
  refine L_v Tb_ok (v := .int _ _) (av rfl ⟨trivial, trivial⟩) rfl ?_
  refine L_v Tb_ok (v := .agg [.int _ _, .int _ _]) (av rfl ⟨trivial, rfl⟩) rfl ?_
  refine L_v Tb_ok (v := .int _ _) (av rfl ⟨trivial, trivial⟩) rfl ?_
  refine L_call (hr := hSafe) rfl rfl trivial rfl rfl ?_
  refine L_v Tb_ok (v := .tup [_, _]) (av rfl ⟨trivial, trivial⟩) rfl ?_
  refine L_v Tb_ok (v := .bool _) (av rfl ⟨trivial, trivial⟩) rfl ?_
  refine L_v Tb_ok (v := .int _ _) (av rfl ⟨trivial, trivial⟩) rfl ?_
  refine L_v Tb_ok (v := .bool _) (av rfl ⟨trivial, trivial⟩) rfl ?_
  refine L_v Tb_ok (v := .int _ _) (av rfl ⟨trivial, trivial⟩) rfl ?_
  refine WL_nil ?_
  refine W_seq ?_
  refine W_seq ?_
  refine W_region rfl ?_
  refine L_v Tb_ok (v := .int _ _) (av rfl ⟨trivial, trivial⟩) rfl ?_
  refine L_v Tb_ok (v := .bool _) (av rfl ⟨trivial, trivial⟩) rfl ?_
  refine L_v Tb_ok (v := .bool _) (av rfl ⟨trivial, trivial⟩) rfl ?_
  refine L_g Tb_ok (v := .bool _) rfl rfl ((fun hg => (av rfl ⟨trivial, trivial⟩))) rfl rfl ?_
  refine L_v Tb_ok (v := .bool _) (av rfl (by refine ⟨?_, fun h => ?_, fun h => ?_⟩ <;> first | exact True.intro | exact ⟨h, True.intro⟩ | (refine ⟨?_, True.intro⟩; first | (rw [h]; done) | (rw [h]; rfl) | (simp [h]; done) | (simp at h hg ⊢; simp [h, hg]; done) | (simp_all; done) | (simp_all; omega)))) rfl ?_
  refine WL_nil ?_
  refine W_cond_f (b := _) rfl (by first | exact hc43 | rfl | decide | simp_all) ?_
  refine W_skip ?_
  refine W_seq ?_
  refine W_draw 12 Tb_mixed rfl (by decide) (by kernel_rfl) (by kernel_rfl) ?_
  refine E_v Tb_ok (v := .agg [.int _ _, .int _ _, .int _ _, .int _ _, .int _ _, _, .int _ _]) (av rfl ⟨trivial, rfl⟩) rfl ?_
  refine E_v Tb_ok (v := .int _ _) (av rfl ⟨trivial, trivial⟩) rfl ?_
  refine E_call (hr := hsz) rfl rfl trivial rfl rfl ?_
  refine E_v Tb_ok (v := .ptr _ _ _) (av rfl ⟨trivial, trivial⟩) rfl ?_
  first | (refine E_v Tb_ok (v := .ro _) (av rfl ⟨trivial, rfl⟩) rfl ?_) | (refine E_v Tb_ok (v := .app _ _) (av rfl ⟨trivial, rfl⟩) rfl ?_) | (refine E_v Tb_ok (v := .row _ _ _) (av rfl ⟨trivial, rfl⟩) rfl ?_) | (refine E_v Tb_ok (v := .nils) (av rfl ⟨trivial, rfl⟩) rfl ?_)
  refine E_v Tb_ok (v := .int _ _) (av rfl ⟨trivial, trivial⟩) rfl ?_
  refine E_v Tb_ok (v := .int _ _) (av rfl ⟨trivial, trivial⟩) rfl ?_
  first | (refine E_v Tb_ok (v := _) (ave_index_ro rfl rfl rfl (fun _ => rfl) rfl (by first | exact x0 | exact x1 | (rw [List.length_map]; exact x1)) (by first | exact x0 | exact x1 | (rw [List.length_map]; exact x1)) trivial) rfl ?_) | (refine E_v Tb_ok (v := _) (ave_index_app rfl rfl rfl (fun _ => rfl) rfl (by first | exact x0 | exact x1 | (rw [List.length_map]; exact x1)) (by first | exact x0 | exact x1 | (rw [List.length_map]; exact x1)) trivial) rfl ?_) | (refine E_v Tb_ok (v := _) (ave_index_row rfl rfl rfl rfl rfl rfl (by first | exact x0 | exact x1 | (rw [List.length_map]; exact x1)) (by first | exact x0 | exact x1 | (rw [List.length_map]; exact x1)) trivial) rfl ?_) | (refine E_v Tb_ok (v := .rptr _) (av rfl ⟨trivial, ⟨(by first | exact x0 | exact x1 | (rw [List.length_map]; exact x1)), (by first | exact x0 | exact x1 | (rw [List.length_map]; exact x1))⟩, rfl⟩) rfl ?_) | (refine E_v Tb_ok (v := .ptr _ _ _) (av rfl ⟨trivial, ⟨(by first | exact x0 | exact x1 | (rw [List.length_map]; exact x1)), (by first | exact x0 | exact x1 | (rw [List.length_map]; exact x1))⟩, rfl⟩) rfl ?_)
  first | (refine E_v Tb_ok (v := .ptr _ _ _) (av rfl ⟨trivial, trivial⟩) rfl ?_) | (refine E_v Tb_ok (v := .rptr _) (av rfl ⟨trivial, trivial⟩) rfl ?_)
  refine E_v Tb_ok (v := .int _ _) (av rfl ⟨trivial, rfl⟩) rfl ?_
  refine E_v Tb_ok (v := .int _ _) (av rfl ⟨trivial, trivial⟩) rfl ?_
  simp only [hpad]
  refine E_v Tb_ok (v := .int _ _) (av rfl ⟨trivial, trivial⟩) rfl ?_
  refine LexE_nil ?_
  refine WL_nil ?_
  refine W_seq ?_
  refine W_region rfl ?_
  refine L_v Tb_ok (v := .agg [.int _ _, .int _ _, .int _ _, .int _ _, .int _ _, _, .int _ _]) (av rfl ⟨trivial, rfl⟩) rfl ?_
  refine L_v Tb_ok (v := .int _ _) (av rfl ⟨trivial, trivial⟩) rfl ?_
  refine L_call (hr := hPo) rfl rfl trivial rfl rfl ?_
  refine L_v Tb_ok (v := .tup [_, _]) (av rfl ⟨trivial, trivial⟩) rfl ?_
  refine L_v Tb_ok (v := .int _ _) (av rfl ⟨trivial, trivial⟩) rfl ?_
  refine L_v Tb_ok (v := .int _ _) (av rfl ⟨trivial, trivial⟩) rfl ?_
  refine L_v Tb_ok (v := .int _ _) (av rfl ⟨trivial, trivial⟩) rfl ?_
  refine L_v Tb_ok (v := .int _ _) (av rfl ⟨trivial, trivial⟩) rfl ?_
  refine WL_nil ?_
  refine W_seq ?_
  refine W_seq ?_
  refine W_region rfl ?_
  refine L_v Tb_ok (v := .int _ _) (av rfl ⟨trivial, trivial⟩) rfl ?_
  refine L_v Tb_ok (v := .int _ _) (av rfl ⟨trivial, trivial⟩) rfl ?_
  refine WL_nil ?_
  refine W_block ?_
  refine W_forEF (posN m op) (fun (k : Nat) => ∀ k' : Nat, k' < k → ∀ i' : Nat, i' < (termsF m op ch k').length → PL k' i' = none) (fun k' h => absurd h (by omega)) [(1, .int _ _), (2, .int _ _), (4, .int _ _), (5, .ptr 0 0 0), (8, .ptr 1 0 0), (10, .ptr 2 0 0), (15, .int _ _), (16, .int _ _), (62, .int _ _)] (fun (k : Nat) => [(63, .int .i64 (k : Int))]) [(0, some ⟨_, _, _, _⟩), (1, some ⟨_, _, _, _⟩), (2, some ⟨_, _, _, _⟩)] (fun (k : Nat) => []) [] (fun (k : Nat) => []) 3 (le_fit (sub_cat ⟨rfl, trivial⟩ ⟨rfl, rfl, rfl, rfl, rfl, rfl, rfl, rfl, rfl, trivial⟩) (subO_cat trivial ⟨.inr rfl, .inr rfl, .inr rfl, trivial⟩) (subK_cat trivial trivial) rfl rfl rfl (by first | rfl | (simp [ltOB, i8C, intC, spanC, AV.lt]; done)) rfl) ?_
  intro k hk hfk
  refine W.of_le (s' := ⟨[(63, .int .i64 (k : Int)), (1, .int _ _), (2, .int _ _), (4, .int _ _), (5, .ptr 0 0 0), (8, .ptr 1 0 0), (10, .ptr 2 0 0), (15, .int _ _), (16, .int _ _), (62, .int _ _)], [(0, some ⟨_, _, _, _⟩), (1, some ⟨_, _, _, _⟩), (2, some ⟨_, _, _, _⟩)], [], 3⟩) (le_fit ⟨rfl, rfl, rfl, rfl, rfl, rfl, rfl, rfl, rfl, rfl, trivial⟩ ⟨.inr rfl, .inr rfl, .inr rfl, trivial⟩ trivial rfl rfl rfl (by first | rfl | (simp [ltOB, i8C, intC, spanC, AV.lt]; done)) rfl) ?_
  refine W_seq ?_
  refine W_region rfl ?_
  refine L_v Tb_ok (v := .bool _) (av rfl ⟨trivial, trivial⟩) rfl ?_
  refine WL_nil ?_
  refine W_seq ?_
  refine W_cond (b := _) rfl (fun h64 => ?_) (fun h64 => ?_)
  · have hkt : k < posN m op := by first | (have := of_decide_eq_true h64; omega) | (have := of_decide_eq_true h64; simp only [List.length_map, List.length_take, List.length_drop] at this; omega) | (simp at h64; omega)
    refine W_skip ?_
    refine W_seq ?_
    refine W_block ?_
    refine W_seq ?_
    refine W_region rfl ?_
    refine L_v Tb_ok (v := .int _ _) (av rfl ⟨trivial, trivial⟩) rfl ?_
    refine L_v Tb_ok (v := .int _ _) (av rfl ⟨trivial, trivial⟩) rfl ?_
    refine WL_nil ?_
    refine W_seq ?_
    refine W_region rfl ?_
    refine L_v Tb_ok (v := .agg [.int _ _, .int _ _, .int _ _, .int _ _, .int _ _, _, .int _ _]) (av rfl ⟨trivial, rfl⟩) rfl ?_
    refine L_v Tb_ok (v := .int _ _) (av rfl ⟨trivial, trivial⟩) rfl ?_
    refine L_v Tb_ok (v := .int _ _) (av rfl ⟨trivial, trivial⟩) rfl ?_
    refine L_v Tb_ok (v := .int _ _) (av rfl ⟨trivial, trivial⟩) rfl ?_
    refine L_call (hr := hOf k hkt) rfl rfl trivial rfl rfl ?_
    refine L_v Tb_ok (v := .tup [_, _, _]) (av rfl ⟨trivial, trivial⟩) rfl ?_
    first | (refine L_v Tb_ok (v := .ro _) (av rfl ⟨trivial, trivial⟩) rfl ?_) | (refine L_v Tb_ok (v := .app _ _) (av rfl ⟨trivial, trivial⟩) rfl ?_) | (refine L_v Tb_ok (v := .row _ _ _) (av rfl ⟨trivial, trivial⟩) rfl ?_) | (refine L_v Tb_ok (v := .nils) (av rfl ⟨trivial, trivial⟩) rfl ?_)
    refine L_v Tb_ok (v := .int _ _) (av rfl ⟨trivial, trivial⟩) rfl ?_
    refine L_v Tb_ok (v := .int _ _) (av rfl ⟨trivial, trivial⟩) rfl ?_
    first | (refine L_v Tb_ok (v := .ro _) (av rfl ⟨trivial, trivial⟩) rfl ?_) | (refine L_v Tb_ok (v := .app _ _) (av rfl ⟨trivial, trivial⟩) rfl ?_) | (refine L_v Tb_ok (v := .row _ _ _) (av rfl ⟨trivial, trivial⟩) rfl ?_) | (refine L_v Tb_ok (v := .nils) (av rfl ⟨trivial, trivial⟩) rfl ?_)
    refine L_v Tb_ok (v := .int _ _) (av rfl ⟨trivial, trivial⟩) rfl ?_
    refine L_v Tb_ok (v := .int _ _) (av rfl ⟨trivial, trivial⟩) rfl ?_
    refine WL_nil ?_
    refine W_seq ?_
    refine W_region rfl ?_
    first | (refine L_v Tb_ok (v := .ro _) (av rfl ⟨trivial, trivial⟩) rfl ?_) | (refine L_v Tb_ok (v := .app _ _) (av rfl ⟨trivial, trivial⟩) rfl ?_) | (refine L_v Tb_ok (v := .row _ _ _) (av rfl ⟨trivial, trivial⟩) rfl ?_) | (refine L_v Tb_ok (v := .nils) (av rfl ⟨trivial, trivial⟩) rfl ?_)
    refine L_v Tb_ok (v := .int _ _) (av rfl ⟨trivial, trivial⟩) rfl ?_
    refine L_v Tb_ok (v := .int _ _) (av rfl ⟨trivial, trivial⟩) rfl ?_
    refine WL_nil ?_
    refine W_block ?_
    refine W_forEF ((termsF m op ch k).length) (fun (i : Nat) => ∀ i' : Nat, i' < i → PL k i' = none) (fun i' h => absurd h (by omega)) [(1, .int _ _), (2, .int _ _), (4, .int _ _), (5, .ptr 0 0 0), (8, .ptr 1 0 0), (10, .ptr 2 0 0), (15, .int _ _), (16, .int _ _), (19, .int _ _), (20, .ro _), (62, .int _ _), (63, .int _ _), (76, .int _ _)] (fun (i : Nat) => [(77, .int .i64 (i : Int))]) [(0, some ⟨_, _, _, _⟩), (1, some ⟨_, _, _, _⟩), (2, some ⟨_, _, _, _⟩)] (fun (i : Nat) => []) [] (fun (i : Nat) => []) 3 (le_fit (sub_cat ⟨rfl, trivial⟩ ⟨rfl, rfl, rfl, rfl, rfl, rfl, rfl, rfl, rfl, rfl, rfl, rfl, rfl, trivial⟩) (subO_cat trivial ⟨.inr rfl, .inr rfl, .inr rfl, trivial⟩) (subK_cat trivial trivial) rfl rfl rfl (by first | rfl | (simp [ltOB, i8C, intC, spanC, AV.lt]; done)) rfl) ?_
    intro i hi hfi
    refine W.of_le (s' := ⟨[(77, .int .i64 (i : Int)), (1, .int _ _), (2, .int _ _), (4, .int _ _), (5, .ptr 0 0 0), (8, .ptr 1 0 0), (10, .ptr 2 0 0), (15, .int _ _), (16, .int _ _), (19, .int _ _), (20, .ro _), (62, .int _ _), (63, .int _ _), (76, .int _ _)], [(0, some ⟨_, _, _, _⟩), (1, some ⟨_, _, _, _⟩), (2, some ⟨_, _, _, _⟩)], [], 3⟩) (le_fit ⟨rfl, rfl, rfl, rfl, rfl, rfl, rfl, rfl, rfl, rfl, rfl, rfl, rfl, rfl, trivial⟩ ⟨.inr rfl, .inr rfl, .inr rfl, trivial⟩ trivial rfl rfl rfl (by first | rfl | (simp [ltOB, i8C, intC, spanC, AV.lt]; done)) rfl) ?_
    refine W_seq ?_
    refine W_region rfl ?_
    refine L_v Tb_ok (v := .bool _) (av rfl ⟨trivial, trivial⟩) rfl ?_
    refine WL_nil ?_
    refine W_seq ?_
    refine W_cond (b := _) rfl (fun h78 => ?_) (fun h78 => ?_)
    · have hit : i < (termsF m op ch k).length := by first | (have := of_decide_eq_true h78; omega) | (have := of_decide_eq_true h78; simp only [List.length_map, List.length_take, List.length_drop] at this; omega) | (simp at h78; omega)
      have htl := hTl k
      have hpi := hpD i (by omega)
      have hdl := hDL i
      have hw1 : IntKind.i64.wrap ((i : Int) + 1) = ((i + 1 : Nat) : Int) := w_succ hit (by omega)
      refine W_skip ?_
      refine W_seq ?_
      refine W_block ?_
      refine W_seq ?_
      refine W_region rfl ?_
      refine L_v Tb_ok (v := .int _ _) (av rfl ⟨trivial, trivial⟩) rfl ?_
      refine L_v Tb_ok (v := .int _ _) (av rfl ⟨trivial, trivial⟩) rfl ?_
      refine WL_nil ?_
      refine W_seq ?_
      refine W_region rfl ?_
      refine L_v Tb_ok (v := .int _ _) (av rfl ⟨trivial, trivial⟩) rfl ?_
      refine L_v Tb_ok (v := .int _ _) (av rfl ⟨trivial, trivial⟩) rfl ?_
      refine L_v Tb_ok (v := .int _ _) (av rfl ⟨trivial, trivial⟩) rfl ?_
      refine L_v Tb_ok (v := .int _ _) (av rfl ⟨trivial, (by first | omega | decide)⟩) rfl ?_
      refine L_v Tb_ok (v := .int _ _) (av rfl ⟨trivial, trivial⟩) rfl ?_
      refine L_v Tb_ok (v := .int _ _) (av rfl ⟨trivial, trivial⟩) rfl ?_
      simp only [hpi]
      refine L_v Tb_ok (v := .agg [.int _ _, .int _ _]) (av rfl ⟨trivial, rfl⟩) rfl ?_
      refine L_v Tb_ok (v := .int _ _) (av rfl ⟨trivial, trivial⟩) rfl ?_
      refine WL_nil ?_
      refine W_block ?_
      refine W_loop_of ?_
      refine LoopW_once ?_
      refine W_seq ?_
      refine W_region rfl ?_
      refine L_v Tb_ok (v := .bool _) (av rfl ⟨trivial, trivial⟩) rfl ?_
      refine WL_nil ?_
      refine W_seq ?_
      refine W_cond_t (b := _) rfl (by first | exact hc88 | rfl | decide | simp_all) ?_
      refine W_skip ?_
      refine W_seq ?_
      refine W_block ?_
      refine W_seq ?_
      refine W_region rfl ?_
      refine L_v Tb_ok (v := .int _ _) (av rfl ⟨trivial, ⟨by first | omega | decide, by first | omega | decide⟩, rfl⟩) rfl ?_
      refine L_v Tb_ok (v := .int _ _) (av rfl ⟨trivial, trivial⟩) rfl ?_
      refine WL_nil ?_
      refine W_seq ?_
      refine W_region rfl ?_
      refine L_v Tb_ok (v := .agg [.bool _, .bool _]) (av rfl ⟨trivial, rfl⟩) rfl ?_
      refine L_v Tb_ok (v := .int _ _) (av rfl ⟨trivial, trivial⟩) rfl ?_
      refine WL_nil ?_
      refine W_block ?_
      refine W_loop_of ?_
      refine LoopW_once ?_
      refine W_seq ?_
      refine W_region rfl ?_
      refine L_v Tb_ok (v := .bool _) (av rfl ⟨trivial, trivial⟩) rfl ?_
      refine WL_nil ?_
      refine W_seq ?_
      refine W_cond_t (b := _) rfl (by first | exact hc92 | rfl | decide | simp_all) ?_
      refine W_skip ?_
      refine W_seq ?_
      refine W_block ?_
      refine W_seq ?_
      refine W_region rfl ?_
      refine L_v Tb_ok (v := .bool _) (av rfl ⟨trivial, ⟨by first | omega | decide, by first | omega | decide⟩, rfl⟩) rfl ?_
      refine L_v Tb_ok (v := .bool _) (av rfl ⟨trivial, trivial⟩) rfl ?_
      refine WL_nil ?_
      refine W_seq ?_
      refine W_draw 10 Tb_mixed rfl (by decide) (by kernel_rfl) (by kernel_rfl) ?_
      first | (refine E_v Tb_ok (v := .ro _) (av rfl ⟨trivial, trivial⟩) rfl ?_) | (refine E_v Tb_ok (v := .app _ _) (av rfl ⟨trivial, trivial⟩) rfl ?_) | (refine E_v Tb_ok (v := .row _ _ _) (av rfl ⟨trivial, trivial⟩) rfl ?_) | (refine E_v Tb_ok (v := .nils) (av rfl ⟨trivial, trivial⟩) rfl ?_)
      refine E_v Tb_ok (v := .int _ _) (av rfl ⟨trivial, trivial⟩) rfl ?_
      refine E_v Tb_ok (v := .int _ _) (av rfl ⟨trivial, trivial⟩) rfl ?_
      refine E_v Tb_ok (v := .int _ _) (av rfl ⟨trivial, trivial⟩) rfl ?_
      simp only [hw1]
      first | refine E_slice_map Tb_ok (f := termC) (xs := termsF m op ch k) (i) (i + 1) (el := 112) (sz := 2) rfl rfl rfl rfl rfl rfl (fun _ => rfl) rfl rfl (by omega) (by omega) ⟨trivial, trivial, trivial⟩ rfl ?_ | refine E_slice_map Tb_ok (f := termC) (xs := termsF m op ch k) (i / D * D) (i + 1) (el := 112) (sz := 2) rfl rfl rfl rfl rfl rfl (fun _ => rfl) rfl rfl (by omega) (by omega) ⟨trivial, trivial, trivial⟩ rfl ?_
      refine E_v Tb_ok (v := .agg [.int _ _, .int _ _]) (av rfl ⟨trivial, rfl⟩) rfl ?_
      refine E_v Tb_ok (v := .int _ _) (av rfl ⟨trivial, trivial⟩) rfl ?_
      refine E_v Tb_ok (v := .bool _) (av rfl ⟨trivial, trivial⟩) rfl ?_
      refine E_call (hr := hnum _ _ _ _) rfl rfl trivial rfl rfl ?_
      first | (refine E_v Tb_ok (v := .ro _) (av rfl ⟨trivial, trivial⟩) rfl ?_) | (refine E_v Tb_ok (v := .app _ _) (av rfl ⟨trivial, trivial⟩) rfl ?_) | (refine E_v Tb_ok (v := .row _ _ _) (av rfl ⟨trivial, trivial⟩) rfl ?_) | (refine E_v Tb_ok (v := .nils) (av rfl ⟨trivial, trivial⟩) rfl ?_)
      refine LexE_nil ?_
      refine WL_nil ?_
      refine W_seq ?_
      refine W_region rfl ?_
      first | (refine L_v Tb_ok (v := .ro _) (av rfl ⟨trivial, trivial⟩) rfl ?_) | (refine L_v Tb_ok (v := .app _ _) (av rfl ⟨trivial, trivial⟩) rfl ?_) | (refine L_v Tb_ok (v := .row _ _ _) (av rfl ⟨trivial, trivial⟩) rfl ?_) | (refine L_v Tb_ok (v := .nils) (av rfl ⟨trivial, trivial⟩) rfl ?_)
      refine L_v Tb_ok (v := .int _ _) (av rfl ⟨trivial, trivial⟩) rfl ?_
      refine L_v Tb_ok (v := .int _ _) (av rfl ⟨trivial, trivial⟩) rfl ?_
      refine L_v Tb_ok (v := .int _ _) (av rfl ⟨trivial, trivial⟩) rfl ?_
      simp only [hw1]
      first | refine L_slice_map Tb_ok (f := termC) (xs := termsF m op ch k) (i) (i + 1) (el := 112) (sz := 2) rfl rfl rfl rfl rfl rfl (fun _ => rfl) rfl rfl (by omega) (by omega) ⟨trivial, trivial, trivial⟩ rfl ?_ | refine L_slice_map Tb_ok (f := termC) (xs := termsF m op ch k) (i / D * D) (i + 1) (el := 112) (sz := 2) rfl rfl rfl rfl rfl rfl (fun _ => rfl) rfl rfl (by omega) (by omega) ⟨trivial, trivial, trivial⟩ rfl ?_
      first | (refine L_v Tb_ok (v := .ro _) (av rfl ⟨trivial, trivial⟩) rfl ?_) | (refine L_v Tb_ok (v := .app _ _) (av rfl ⟨trivial, trivial⟩) rfl ?_) | (refine L_v Tb_ok (v := .row _ _ _) (av rfl ⟨trivial, trivial⟩) rfl ?_) | (refine L_v Tb_ok (v := .nils) (av rfl ⟨trivial, trivial⟩) rfl ?_)
      refine L_v Tb_ok (v := .int _ _) (av rfl ⟨trivial, trivial⟩) rfl ?_
      refine L_call (hr := hsum _ _ _ _) rfl rfl trivial rfl rfl ?_
      refine L_v Tb_ok (v := .int _ _) (av rfl ⟨trivial, trivial⟩) rfl ?_
      refine WL_nil ?_
      refine W_seq ?_
      refine W_region rfl ?_
      refine L_v Tb_ok (v := .int _ _) (av rfl ⟨trivial, trivial⟩) rfl ?_
      refine L_v Tb_ok (v := .int _ _) (av rfl ⟨trivial, trivial⟩) rfl ?_
      refine L_v Tb_ok (v := .int _ _) (av rfl ⟨trivial, trivial⟩) rfl ?_
      refine L_v Tb_ok (v := .int _ _) (av rfl ⟨trivial, trivial⟩) rfl ?_
      refine L_v Tb_ok (v := .bool _) (av rfl ⟨trivial, trivial⟩) rfl ?_
      refine WL_nil ?_
      refine W_cond (b := _) rfl (fun h115 => ?_) (fun h115 => ?_)
      · first | have hb0 : badB (V k i (i + 1 - i) false) = true := h115 | have hb1 : badB (V k i (i + 1 - i) true) = true := h115 | have hb2 : badB (V k (i / D * D) (i + 1 - i / D * D) false) = true := h115 | have hb3 : badB (V k (i / D * D) (i + 1 - i / D * D) true) = true := h115
        refine W_seq ?_
        refine W_region rfl ?_
        refine L_v Tb_ok (v := .int _ _) (av rfl ⟨trivial, trivial⟩) rfl ?_
        refine L_v Tb_ok (v := .int _ _) (av rfl ⟨trivial, trivial⟩) rfl ?_
        refine L_v Tb_ok (v := .int _ _) (av rfl ⟨trivial, trivial⟩) rfl ?_
        refine L_v Tb_ok (v := .int _ _) (av rfl ⟨trivial, trivial⟩) rfl ?_
        first | (refine L_v Tb_ok (v := .ro _) (av rfl ⟨trivial, trivial⟩) rfl ?_) | (refine L_v Tb_ok (v := .app _ _) (av rfl ⟨trivial, trivial⟩) rfl ?_) | (refine L_v Tb_ok (v := .row _ _ _) (av rfl ⟨trivial, trivial⟩) rfl ?_) | (refine L_v Tb_ok (v := .nils) (av rfl ⟨trivial, trivial⟩) rfl ?_)
        refine L_v Tb_ok (v := .agg [.int _ _, .int _ _, .int _ _, _]) (av rfl ⟨trivial, rfl⟩) rfl ?_
        refine L_store Tb_ok (v := .agg [.int _ _, .int _ _, .int _ _, _]) (cs := [_, _, _, _]) (es' := [[_, _, _, _]]) rfl rfl rfl rfl rfl rfl rfl rfl rfl rfl ⟨trivial, trivial⟩ ?_
        refine L_v Tb_ok (v := .bool _) (av rfl ⟨trivial, trivial⟩) rfl ?_
        refine L_v Tb_ok (v := .int _ _) (av rfl ⟨trivial, trivial⟩) rfl ?_
        refine WL_nil ?_
        refine W_ret ?_
        refine ends (l := [.agg [.int _ _, .int _ _, .int _ _, _], .bool _, .int _ _]) (q := .tup [.agg [.int _ _, .int _ _, .int _ _, _], .bool _, .int _ _]) (.inr rfl) rfl ⟨rfl, trivial, trivial, trivial⟩ rfl rfl ?_
        first | exact absurd (hfk k0 (by omega) i0 hi2) hi3 | (obtain ⟨e1, e2, e3⟩ := hfirst k i (i, false) hfk hfi hit hkt (by rw [hP, hb0]; rfl); obtain ⟨e4, e5⟩ := Prod.mk.inj e3; subst e4 e5 e1 e2; rw [hw1]; rfl) | (obtain ⟨e1, e2, e3⟩ := hfirst k i (i, true) hfk hfi hit hkt (by rw [hP, hb0, hb1]; rfl); obtain ⟨e4, e5⟩ := Prod.mk.inj e3; subst e4 e5 e1 e2; rw [hw1]; rfl) | (obtain ⟨e1, e2, e3⟩ := hfirst k i (i / D * D, false) hfk hfi hit hkt (by rw [hP, hb0, hb1, hb2]; rfl); obtain ⟨e4, e5⟩ := Prod.mk.inj e3; subst e4 e5 e1 e2; rw [hw1]; rfl) | (obtain ⟨e1, e2, e3⟩ := hfirst k i (i / D * D, true) hfk hfi hit hkt (by rw [hP, hb0, hb1, hb2, hb3]; rfl); obtain ⟨e4, e5⟩ := Prod.mk.inj e3; subst e4 e5 e1 e2; rw [hw1]; rfl)
      · first | have hb0 : badB (V k i (i + 1 - i) false) = false := h115 | have hb1 : badB (V k i (i + 1 - i) true) = false := h115 | have hb2 : badB (V k (i / D * D) (i + 1 - i / D * D) false) = false := h115 | have hb3 : badB (V k (i / D * D) (i + 1 - i / D * D) true) = false := h115
        refine W_skip ?_
        refine W_region rfl ?_
        refine L_v Tb_ok (v := .int _ _) (av rfl ⟨trivial, trivial⟩) rfl ?_
        refine L_v Tb_ok (v := .int _ _) (av rfl ⟨trivial, trivial⟩) rfl ?_
        refine WL_nil ?_
        refine LoopW_once ?_
        refine W_seq ?_
        refine W_region rfl ?_
        refine L_v Tb_ok (v := .bool _) (av rfl ⟨trivial, trivial⟩) rfl ?_
        refine WL_nil ?_
        refine W_seq ?_
        refine W_cond_t (b := _) rfl (by first | exact hc92 | rfl | decide | simp_all) ?_
        refine W_skip ?_
        refine W_seq ?_
        refine W_block ?_
        refine W_seq ?_
        refine W_region rfl ?_
        refine L_v Tb_ok (v := .bool _) (av rfl ⟨trivial, ⟨by first | omega | decide, by first | omega | decide⟩, rfl⟩) rfl ?_
        refine L_v Tb_ok (v := .bool _) (av rfl ⟨trivial, trivial⟩) rfl ?_
        refine WL_nil ?_
        refine W_seq ?_
        refine W_draw 10 Tb_mixed rfl (by decide) (by kernel_rfl) (by kernel_rfl) ?_
        first | (refine E_v Tb_ok (v := .ro _) (av rfl ⟨trivial, trivial⟩) rfl ?_) | (refine E_v Tb_ok (v := .app _ _) (av rfl ⟨trivial, trivial⟩) rfl ?_) | (refine E_v Tb_ok (v := .row _ _ _) (av rfl ⟨trivial, trivial⟩) rfl ?_) | (refine E_v Tb_ok (v := .nils) (av rfl ⟨trivial, trivial⟩) rfl ?_)
        refine E_v Tb_ok (v := .int _ _) (av rfl ⟨trivial, trivial⟩) rfl ?_
        refine E_v Tb_ok (v := .int _ _) (av rfl ⟨trivial, trivial⟩) rfl ?_
        refine E_v Tb_ok (v := .int _ _) (av rfl ⟨trivial, trivial⟩) rfl ?_
        simp only [hw1]
        first | refine E_slice_map Tb_ok (f := termC) (xs := termsF m op ch k) (i) (i + 1) (el := 112) (sz := 2) rfl rfl rfl rfl rfl rfl (fun _ => rfl) rfl rfl (by omega) (by omega) ⟨trivial, trivial, trivial⟩ rfl ?_ | refine E_slice_map Tb_ok (f := termC) (xs := termsF m op ch k) (i / D * D) (i + 1) (el := 112) (sz := 2) rfl rfl rfl rfl rfl rfl (fun _ => rfl) rfl rfl (by omega) (by omega) ⟨trivial, trivial, trivial⟩ rfl ?_
        refine E_v Tb_ok (v := .agg [.int _ _, .int _ _]) (av rfl ⟨trivial, rfl⟩) rfl ?_
        refine E_v Tb_ok (v := .int _ _) (av rfl ⟨trivial, trivial⟩) rfl ?_
        refine E_v Tb_ok (v := .bool _) (av rfl ⟨trivial, trivial⟩) rfl ?_
        refine E_call (hr := hnum _ _ _ _) rfl rfl trivial rfl rfl ?_
        first | (refine E_v Tb_ok (v := .ro _) (av rfl ⟨trivial, trivial⟩) rfl ?_) | (refine E_v Tb_ok (v := .app _ _) (av rfl ⟨trivial, trivial⟩) rfl ?_) | (refine E_v Tb_ok (v := .row _ _ _) (av rfl ⟨trivial, trivial⟩) rfl ?_) | (refine E_v Tb_ok (v := .nils) (av rfl ⟨trivial, trivial⟩) rfl ?_)
        refine LexE_nil ?_
        refine WL_nil ?_
        refine W_seq ?_
        refine W_region rfl ?_
        first | (refine L_v Tb_ok (v := .ro _) (av rfl ⟨trivial, trivial⟩) rfl ?_) | (refine L_v Tb_ok (v := .app _ _) (av rfl ⟨trivial, trivial⟩) rfl ?_) | (refine L_v Tb_ok (v := .row _ _ _) (av rfl ⟨trivial, trivial⟩) rfl ?_) | (refine L_v Tb_ok (v := .nils) (av rfl ⟨trivial, trivial⟩) rfl ?_)
        refine L_v Tb_ok (v := .int _ _) (av rfl ⟨trivial, trivial⟩) rfl ?_
        refine L_v Tb_ok (v := .int _ _) (av rfl ⟨trivial, trivial⟩) rfl ?_
        refine L_v Tb_ok (v := .int _ _) (av rfl ⟨trivial, trivial⟩) rfl ?_
        simp only [hw1]
        first | refine L_slice_map Tb_ok (f := termC) (xs := termsF m op ch k) (i) (i + 1) (el := 112) (sz := 2) rfl rfl rfl rfl rfl rfl (fun _ => rfl) rfl rfl (by omega) (by omega) ⟨trivial, trivial, trivial⟩ rfl ?_ | refine L_slice_map Tb_ok (f := termC) (xs := termsF m op ch k) (i / D * D) (i + 1) (el := 112) (sz := 2) rfl rfl rfl rfl rfl rfl (fun _ => rfl) rfl rfl (by omega) (by omega) ⟨trivial, trivial, trivial⟩ rfl ?_
        first | (refine L_v Tb_ok (v := .ro _) (av rfl ⟨trivial, trivial⟩) rfl ?_) | (refine L_v Tb_ok (v := .app _ _) (av rfl ⟨trivial, trivial⟩) rfl ?_) | (refine L_v Tb_ok (v := .row _ _ _) (av rfl ⟨trivial, trivial⟩) rfl ?_) | (refine L_v Tb_ok (v := .nils) (av rfl ⟨trivial, trivial⟩) rfl ?_)
        refine L_v Tb_ok (v := .int _ _) (av rfl ⟨trivial, trivial⟩) rfl ?_
        refine L_call (hr := hsum _ _ _ _) rfl rfl trivial rfl rfl ?_
        refine L_v Tb_ok (v := .int _ _) (av rfl ⟨trivial, trivial⟩) rfl ?_
        refine WL_nil ?_
        refine W_seq ?_
        refine W_region rfl ?_
        refine L_v Tb_ok (v := .int _ _) (av rfl ⟨trivial, trivial⟩) rfl ?_
        refine L_v Tb_ok (v := .int _ _) (av rfl ⟨trivial, trivial⟩) rfl ?_
        refine L_v Tb_ok (v := .int _ _) (av rfl ⟨trivial, trivial⟩) rfl ?_
        refine L_v Tb_ok (v := .int _ _) (av rfl ⟨trivial, trivial⟩) rfl ?_
        refine L_v Tb_ok (v := .bool _) (av rfl ⟨trivial, trivial⟩) rfl ?_
        refine WL_nil ?_
        refine W_cond (b := _) rfl (fun h115_1 => ?_) (fun h115_1 => ?_)
        · first | have hb0 : badB (V k i (i + 1 - i) false) = true := h115_1 | have hb1 : badB (V k i (i + 1 - i) true) = true := h115_1 | have hb2 : badB (V k (i / D * D) (i + 1 - i / D * D) false) = true := h115_1 | have hb3 : badB (V k (i / D * D) (i + 1 - i / D * D) true) = true := h115_1
          refine W_seq ?_
          refine W_region rfl ?_
          refine L_v Tb_ok (v := .int _ _) (av rfl ⟨trivial, trivial⟩) rfl ?_
          refine L_v Tb_ok (v := .int _ _) (av rfl ⟨trivial, trivial⟩) rfl ?_
          refine L_v Tb_ok (v := .int _ _) (av rfl ⟨trivial, trivial⟩) rfl ?_
          refine L_v Tb_ok (v := .int _ _) (av rfl ⟨trivial, trivial⟩) rfl ?_
          first | (refine L_v Tb_ok (v := .ro _) (av rfl ⟨trivial, trivial⟩) rfl ?_) | (refine L_v Tb_ok (v := .app _ _) (av rfl ⟨trivial, trivial⟩) rfl ?_) | (refine L_v Tb_ok (v := .row _ _ _) (av rfl ⟨trivial, trivial⟩) rfl ?_) | (refine L_v Tb_ok (v := .nils) (av rfl ⟨trivial, trivial⟩) rfl ?_)
          refine L_v Tb_ok (v := .agg [.int _ _, .int _ _, .int _ _, _]) (av rfl ⟨trivial, rfl⟩) rfl ?_
          refine L_store Tb_ok (v := .agg [.int _ _, .int _ _, .int _ _, _]) (cs := [_, _, _, _]) (es' := [[_, _, _, _]]) rfl rfl rfl rfl rfl rfl rfl rfl rfl rfl ⟨trivial, trivial⟩ ?_
          refine L_v Tb_ok (v := .bool _) (av rfl ⟨trivial, trivial⟩) rfl ?_
          refine L_v Tb_ok (v := .int _ _) (av rfl ⟨trivial, trivial⟩) rfl ?_
          refine WL_nil ?_
          refine W_ret ?_
          refine ends (l := [.agg [.int _ _, .int _ _, .int _ _, _], .bool _, .int _ _]) (q := .tup [.agg [.int _ _, .int _ _, .int _ _, _], .bool _, .int _ _]) (.inr rfl) rfl ⟨rfl, trivial, trivial, trivial⟩ rfl rfl ?_
          first | exact absurd (hfk k0 (by omega) i0 hi2) hi3 | (obtain ⟨e1, e2, e3⟩ := hfirst k i (i, false) hfk hfi hit hkt (by rw [hP, hb0]; rfl); obtain ⟨e4, e5⟩ := Prod.mk.inj e3; subst e4 e5 e1 e2; rw [hw1]; rfl) | (obtain ⟨e1, e2, e3⟩ := hfirst k i (i, true) hfk hfi hit hkt (by rw [hP, hb0, hb1]; rfl); obtain ⟨e4, e5⟩ := Prod.mk.inj e3; subst e4 e5 e1 e2; rw [hw1]; rfl) | (obtain ⟨e1, e2, e3⟩ := hfirst k i (i / D * D, false) hfk hfi hit hkt (by rw [hP, hb0, hb1, hb2]; rfl); obtain ⟨e4, e5⟩ := Prod.mk.inj e3; subst e4 e5 e1 e2; rw [hw1]; rfl) | (obtain ⟨e1, e2, e3⟩ := hfirst k i (i / D * D, true) hfk hfi hit hkt (by rw [hP, hb0, hb1, hb2, hb3]; rfl); obtain ⟨e4, e5⟩ := Prod.mk.inj e3; subst e4 e5 e1 e2; rw [hw1]; rfl)
        · first | have hb0 : badB (V k i (i + 1 - i) false) = false := h115_1 | have hb1 : badB (V k i (i + 1 - i) true) = false := h115_1 | have hb2 : badB (V k (i / D * D) (i + 1 - i / D * D) false) = false := h115_1 | have hb3 : badB (V k (i / D * D) (i + 1 - i / D * D) true) = false := h115_1
          refine W_skip ?_
          refine W_region rfl ?_
          refine L_v Tb_ok (v := .int _ _) (av rfl ⟨trivial, trivial⟩) rfl ?_
          refine L_v Tb_ok (v := .int _ _) (av rfl ⟨trivial, trivial⟩) rfl ?_
          refine WL_nil ?_
          refine LoopW_once ?_
          refine W_seq ?_
          refine W_region rfl ?_
          refine L_v Tb_ok (v := .bool _) (av rfl ⟨trivial, trivial⟩) rfl ?_
          refine WL_nil ?_
          refine W_seq ?_
          refine W_cond_f (b := _) rfl (by first | exact hc92 | rfl | decide | simp_all) ?_
          refine W_exit ?_
          repeat (first | refine pass_then ?_ | refine pass_once ?_ | refine pass_le ?_ | refine pass_round ?_ | refine pass_for ?_ | refine pass_forF ?_ | refine pass_jump ?_ | refine blockQ_miss rfl ?_)
          refine blockQ_hit ?_
          refine W_region rfl ?_
          refine L_v Tb_ok (v := .int _ _) (av rfl ⟨trivial, trivial⟩) rfl ?_
          refine L_v Tb_ok (v := .int _ _) (av rfl ⟨trivial, trivial⟩) rfl ?_
          refine WL_nil ?_
          refine LoopW_once ?_
          refine W_seq ?_
          refine W_region rfl ?_
          refine L_v Tb_ok (v := .bool _) (av rfl ⟨trivial, trivial⟩) rfl ?_
          refine WL_nil ?_
          refine W_seq ?_
          refine W_cond_t (b := _) rfl (by first | exact hc88 | rfl | decide | simp_all) ?_
          refine W_skip ?_
          refine W_seq ?_
          refine W_block ?_
          refine W_seq ?_
          refine W_region rfl ?_
          refine L_v Tb_ok (v := .int _ _) (av rfl ⟨trivial, ⟨by first | omega | decide, by first | omega | decide⟩, rfl⟩) rfl ?_
          refine L_v Tb_ok (v := .int _ _) (av rfl ⟨trivial, trivial⟩) rfl ?_
          refine WL_nil ?_
          refine W_seq ?_
          refine W_region rfl ?_
          refine L_v Tb_ok (v := .agg [.bool _, .bool _]) (av rfl ⟨trivial, rfl⟩) rfl ?_
          refine L_v Tb_ok (v := .int _ _) (av rfl ⟨trivial, trivial⟩) rfl ?_
          refine WL_nil ?_
          refine W_block ?_
          refine W_loop_of ?_
          refine LoopW_once ?_
          refine W_seq ?_
          refine W_region rfl ?_
          refine L_v Tb_ok (v := .bool _) (av rfl ⟨trivial, trivial⟩) rfl ?_
          refine WL_nil ?_
          refine W_seq ?_
          refine W_cond_t (b := _) rfl (by first | exact hc92 | rfl | decide | simp_all) ?_
          refine W_skip ?_
          refine W_seq ?_
          refine W_block ?_
          refine W_seq ?_
          refine W_region rfl ?_
          refine L_v Tb_ok (v := .bool _) (av rfl ⟨trivial, ⟨by first | omega | decide, by first | omega | decide⟩, rfl⟩) rfl ?_
          refine L_v Tb_ok (v := .bool _) (av rfl ⟨trivial, trivial⟩) rfl ?_
          refine WL_nil ?_
          refine W_seq ?_
          refine W_draw 10 Tb_mixed rfl (by decide) (by kernel_rfl) (by kernel_rfl) ?_
          first | (refine E_v Tb_ok (v := .ro _) (av rfl ⟨trivial, trivial⟩) rfl ?_) | (refine E_v Tb_ok (v := .app _ _) (av rfl ⟨trivial, trivial⟩) rfl ?_) | (refine E_v Tb_ok (v := .row _ _ _) (av rfl ⟨trivial, trivial⟩) rfl ?_) | (refine E_v Tb_ok (v := .nils) (av rfl ⟨trivial, trivial⟩) rfl ?_)
          refine E_v Tb_ok (v := .int _ _) (av rfl ⟨trivial, trivial⟩) rfl ?_
          refine E_v Tb_ok (v := .int _ _) (av rfl ⟨trivial, trivial⟩) rfl ?_
          refine E_v Tb_ok (v := .int _ _) (av rfl ⟨trivial, trivial⟩) rfl ?_
          simp only [hw1]
          first | refine E_slice_map Tb_ok (f := termC) (xs := termsF m op ch k) (i) (i + 1) (el := 112) (sz := 2) rfl rfl rfl rfl rfl rfl (fun _ => rfl) rfl rfl (by omega) (by omega) ⟨trivial, trivial, trivial⟩ rfl ?_ | refine E_slice_map Tb_ok (f := termC) (xs := termsF m op ch k) (i / D * D) (i + 1) (el := 112) (sz := 2) rfl rfl rfl rfl rfl rfl (fun _ => rfl) rfl rfl (by omega) (by omega) ⟨trivial, trivial, trivial⟩ rfl ?_
          refine E_v Tb_ok (v := .agg [.int _ _, .int _ _]) (av rfl ⟨trivial, rfl⟩) rfl ?_
          refine E_v Tb_ok (v := .int _ _) (av rfl ⟨trivial, trivial⟩) rfl ?_
          refine E_v Tb_ok (v := .bool _) (av rfl ⟨trivial, trivial⟩) rfl ?_
          refine E_call (hr := hnum _ _ _ _) rfl rfl trivial rfl rfl ?_
          first | (refine E_v Tb_ok (v := .ro _) (av rfl ⟨trivial, trivial⟩) rfl ?_) | (refine E_v Tb_ok (v := .app _ _) (av rfl ⟨trivial, trivial⟩) rfl ?_) | (refine E_v Tb_ok (v := .row _ _ _) (av rfl ⟨trivial, trivial⟩) rfl ?_) | (refine E_v Tb_ok (v := .nils) (av rfl ⟨trivial, trivial⟩) rfl ?_)
          refine LexE_nil ?_
          refine WL_nil ?_
          refine W_seq ?_
          refine W_region rfl ?_
          first | (refine L_v Tb_ok (v := .ro _) (av rfl ⟨trivial, trivial⟩) rfl ?_) | (refine L_v Tb_ok (v := .app _ _) (av rfl ⟨trivial, trivial⟩) rfl ?_) | (refine L_v Tb_ok (v := .row _ _ _) (av rfl ⟨trivial, trivial⟩) rfl ?_) | (refine L_v Tb_ok (v := .nils) (av rfl ⟨trivial, trivial⟩) rfl ?_)
          refine L_v Tb_ok (v := .int _ _) (av rfl ⟨trivial, trivial⟩) rfl ?_
          refine L_v Tb_ok (v := .int _ _) (av rfl ⟨trivial, trivial⟩) rfl ?_
          refine L_v Tb_ok (v := .int _ _) (av rfl ⟨trivial, trivial⟩) rfl ?_
          simp only [hw1]
          first | refine L_slice_map Tb_ok (f := termC) (xs := termsF m op ch k) (i) (i + 1) (el := 112) (sz := 2) rfl rfl rfl rfl rfl rfl (fun _ => rfl) rfl rfl (by omega) (by omega) ⟨trivial, trivial, trivial⟩ rfl ?_ | refine L_slice_map Tb_ok (f := termC) (xs := termsF m op ch k) (i / D * D) (i + 1) (el := 112) (sz := 2) rfl rfl rfl rfl rfl rfl (fun _ => rfl) rfl rfl (by omega) (by omega) ⟨trivial, trivial, trivial⟩ rfl ?_
          first | (refine L_v Tb_ok (v := .ro _) (av rfl ⟨trivial, trivial⟩) rfl ?_) | (refine L_v Tb_ok (v := .app _ _) (av rfl ⟨trivial, trivial⟩) rfl ?_) | (refine L_v Tb_ok (v := .row _ _ _) (av rfl ⟨trivial, trivial⟩) rfl ?_) | (refine L_v Tb_ok (v := .nils) (av rfl ⟨trivial, trivial⟩) rfl ?_)
          refine L_v Tb_ok (v := .int _ _) (av rfl ⟨trivial, trivial⟩) rfl ?_
          refine L_call (hr := hsum _ _ _ _) rfl rfl trivial rfl rfl ?_
          refine L_v Tb_ok (v := .int _ _) (av rfl ⟨trivial, trivial⟩) rfl ?_
          refine WL_nil ?_
          refine W_seq ?_
          refine W_region rfl ?_
          refine L_v Tb_ok (v := .int _ _) (av rfl ⟨trivial, trivial⟩) rfl ?_
          refine L_v Tb_ok (v := .int _ _) (av rfl ⟨trivial, trivial⟩) rfl ?_
          refine L_v Tb_ok (v := .int _ _) (av rfl ⟨trivial, trivial⟩) rfl ?_
          refine L_v Tb_ok (v := .int _ _) (av rfl ⟨trivial, trivial⟩) rfl ?_
          refine L_v Tb_ok (v := .bool _) (av rfl ⟨trivial, trivial⟩) rfl ?_
          refine WL_nil ?_
          refine W_cond (b := _) rfl (fun h115_2 => ?_) (fun h115_2 => ?_)
          · first | have hb0 : badB (V k i (i + 1 - i) false) = true := h115_2 | have hb1 : badB (V k i (i + 1 - i) true) = true := h115_2 | have hb2 : badB (V k (i / D * D) (i + 1 - i / D * D) false) = true := h115_2 | have hb3 : badB (V k (i / D * D) (i + 1 - i / D * D) true) = true := h115_2
            refine W_seq ?_
            refine W_region rfl ?_
            refine L_v Tb_ok (v := .int _ _) (av rfl ⟨trivial, trivial⟩) rfl ?_
            refine L_v Tb_ok (v := .int _ _) (av rfl ⟨trivial, trivial⟩) rfl ?_
            refine L_v Tb_ok (v := .int _ _) (av rfl ⟨trivial, trivial⟩) rfl ?_
            refine L_v Tb_ok (v := .int _ _) (av rfl ⟨trivial, trivial⟩) rfl ?_
            first | (refine L_v Tb_ok (v := .ro _) (av rfl ⟨trivial, trivial⟩) rfl ?_) | (refine L_v Tb_ok (v := .app _ _) (av rfl ⟨trivial, trivial⟩) rfl ?_) | (refine L_v Tb_ok (v := .row _ _ _) (av rfl ⟨trivial, trivial⟩) rfl ?_) | (refine L_v Tb_ok (v := .nils) (av rfl ⟨trivial, trivial⟩) rfl ?_)
            refine L_v Tb_ok (v := .agg [.int _ _, .int _ _, .int _ _, _]) (av rfl ⟨trivial, rfl⟩) rfl ?_
            refine L_store Tb_ok (v := .agg [.int _ _, .int _ _, .int _ _, _]) (cs := [_, _, _, _]) (es' := [[_, _, _, _]]) rfl rfl rfl rfl rfl rfl rfl rfl rfl rfl ⟨trivial, trivial⟩ ?_
            refine L_v Tb_ok (v := .bool _) (av rfl ⟨trivial, trivial⟩) rfl ?_
            refine L_v Tb_ok (v := .int _ _) (av rfl ⟨trivial, trivial⟩) rfl ?_
            refine WL_nil ?_
            refine W_ret ?_
            refine ends (l := [.agg [.int _ _, .int _ _, .int _ _, _], .bool _, .int _ _]) (q := .tup [.agg [.int _ _, .int _ _, .int _ _, _], .bool _, .int _ _]) (.inr rfl) rfl ⟨rfl, trivial, trivial, trivial⟩ rfl rfl ?_
            first | exact absurd (hfk k0 (by omega) i0 hi2) hi3 | (obtain ⟨e1, e2, e3⟩ := hfirst k i (i, false) hfk hfi hit hkt (by rw [hP, hb0]; rfl); obtain ⟨e4, e5⟩ := Prod.mk.inj e3; subst e4 e5 e1 e2; rw [hw1]; rfl) | (obtain ⟨e1, e2, e3⟩ := hfirst k i (i, true) hfk hfi hit hkt (by rw [hP, hb0, hb1]; rfl); obtain ⟨e4, e5⟩ := Prod.mk.inj e3; subst e4 e5 e1 e2; rw [hw1]; rfl) | (obtain ⟨e1, e2, e3⟩ := hfirst k i (i / D * D, false) hfk hfi hit hkt (by rw [hP, hb0, hb1, hb2]; rfl); obtain ⟨e4, e5⟩ := Prod.mk.inj e3; subst e4 e5 e1 e2; rw [hw1]; rfl) | (obtain ⟨e1, e2, e3⟩ := hfirst k i (i / D * D, true) hfk hfi hit hkt (by rw [hP, hb0, hb1, hb2, hb3]; rfl); obtain ⟨e4, e5⟩ := Prod.mk.inj e3; subst e4 e5 e1 e2; rw [hw1]; rfl)
          · first | have hb0 : badB (V k i (i + 1 - i) false) = false := h115_2 | have hb1 : badB (V k i (i + 1 - i) true) = false := h115_2 | have hb2 : badB (V k (i / D * D) (i + 1 - i / D * D) false) = false := h115_2 | have hb3 : badB (V k (i / D * D) (i + 1 - i / D * D) true) = false := h115_2
            refine W_skip ?_
            refine W_region rfl ?_
            refine L_v Tb_ok (v := .int _ _) (av rfl ⟨trivial, trivial⟩) rfl ?_
            refine L_v Tb_ok (v := .int _ _) (av rfl ⟨trivial, trivial⟩) rfl ?_
            refine WL_nil ?_
            refine LoopW_once ?_
            refine W_seq ?_
            refine W_region rfl ?_
            refine L_v Tb_ok (v := .bool _) (av rfl ⟨trivial, trivial⟩) rfl ?_
            refine WL_nil ?_
            refine W_seq ?_
            refine W_cond_t (b := _) rfl (by first | exact hc92 | rfl | decide | simp_all) ?_
            refine W_skip ?_
            refine W_seq ?_
            refine W_block ?_
            refine W_seq ?_
            refine W_region rfl ?_
            refine L_v Tb_ok (v := .bool _) (av rfl ⟨trivial, ⟨by first | omega | decide, by first | omega | decide⟩, rfl⟩) rfl ?_
            refine L_v Tb_ok (v := .bool _) (av rfl ⟨trivial, trivial⟩) rfl ?_
            refine WL_nil ?_
            refine W_seq ?_
            refine W_draw 10 Tb_mixed rfl (by decide) (by kernel_rfl) (by kernel_rfl) ?_
            first | (refine E_v Tb_ok (v := .ro _) (av rfl ⟨trivial, trivial⟩) rfl ?_) | (refine E_v Tb_ok (v := .app _ _) (av rfl ⟨trivial, trivial⟩) rfl ?_) | (refine E_v Tb_ok (v := .row _ _ _) (av rfl ⟨trivial, trivial⟩) rfl ?_) | (refine E_v Tb_ok (v := .nils) (av rfl ⟨trivial, trivial⟩) rfl ?_)
            refine E_v Tb_ok (v := .int _ _) (av rfl ⟨trivial, trivial⟩) rfl ?_
            refine E_v Tb_ok (v := .int _ _) (av rfl ⟨trivial, trivial⟩) rfl ?_
            refine E_v Tb_ok (v := .int _ _) (av rfl ⟨trivial, trivial⟩) rfl ?_
            simp only [hw1]
            first | refine E_slice_map Tb_ok (f := termC) (xs := termsF m op ch k) (i) (i + 1) (el := 112) (sz := 2) rfl rfl rfl rfl rfl rfl (fun _ => rfl) rfl rfl (by omega) (by omega) ⟨trivial, trivial, trivial⟩ rfl ?_ | refine E_slice_map Tb_ok (f := termC) (xs := termsF m op ch k) (i / D * D) (i + 1) (el := 112) (sz := 2) rfl rfl rfl rfl rfl rfl (fun _ => rfl) rfl rfl (by omega) (by omega) ⟨trivial, trivial, trivial⟩ rfl ?_
            refine E_v Tb_ok (v := .agg [.int _ _, .int _ _]) (av rfl ⟨trivial, rfl⟩) rfl ?_
            refine E_v Tb_ok (v := .int _ _) (av rfl ⟨trivial, trivial⟩) rfl ?_
            refine E_v Tb_ok (v := .bool _) (av rfl ⟨trivial, trivial⟩) rfl ?_
            refine E_call (hr := hnum _ _ _ _) rfl rfl trivial rfl rfl ?_
            first | (refine E_v Tb_ok (v := .ro _) (av rfl ⟨trivial, trivial⟩) rfl ?_) | (refine E_v Tb_ok (v := .app _ _) (av rfl ⟨trivial, trivial⟩) rfl ?_) | (refine E_v Tb_ok (v := .row _ _ _) (av rfl ⟨trivial, trivial⟩) rfl ?_) | (refine E_v Tb_ok (v := .nils) (av rfl ⟨trivial, trivial⟩) rfl ?_)
            refine LexE_nil ?_
            refine WL_nil ?_
            refine W_seq ?_
            refine W_region rfl ?_
            first | (refine L_v Tb_ok (v := .ro _) (av rfl ⟨trivial, trivial⟩) rfl ?_) | (refine L_v Tb_ok (v := .app _ _) (av rfl ⟨trivial, trivial⟩) rfl ?_) | (refine L_v Tb_ok (v := .row _ _ _) (av rfl ⟨trivial, trivial⟩) rfl ?_) | (refine L_v Tb_ok (v := .nils) (av rfl ⟨trivial, trivial⟩) rfl ?_)
            refine L_v Tb_ok (v := .int _ _) (av rfl ⟨trivial, trivial⟩) rfl ?_
            refine L_v Tb_ok (v := .int _ _) (av rfl ⟨trivial, trivial⟩) rfl ?_
            refine L_v Tb_ok (v := .int _ _) (av rfl ⟨trivial, trivial⟩) rfl ?_
            simp only [hw1]
            first | refine L_slice_map Tb_ok (f := termC) (xs := termsF m op ch k) (i) (i + 1) (el := 112) (sz := 2) rfl rfl rfl rfl rfl rfl (fun _ => rfl) rfl rfl (by omega) (by omega) ⟨trivial, trivial, trivial⟩ rfl ?_ | refine L_slice_map Tb_ok (f := termC) (xs := termsF m op ch k) (i / D * D) (i + 1) (el := 112) (sz := 2) rfl rfl rfl rfl rfl rfl (fun _ => rfl) rfl rfl (by omega) (by omega) ⟨trivial, trivial, trivial⟩ rfl ?_
            first | (refine L_v Tb_ok (v := .ro _) (av rfl ⟨trivial, trivial⟩) rfl ?_) | (refine L_v Tb_ok (v := .app _ _) (av rfl ⟨trivial, trivial⟩) rfl ?_) | (refine L_v Tb_ok (v := .row _ _ _) (av rfl ⟨trivial, trivial⟩) rfl ?_) | (refine L_v Tb_ok (v := .nils) (av rfl ⟨trivial, trivial⟩) rfl ?_)
            refine L_v Tb_ok (v := .int _ _) (av rfl ⟨trivial, trivial⟩) rfl ?_
            refine L_call (hr := hsum _ _ _ _) rfl rfl trivial rfl rfl ?_
            refine L_v Tb_ok (v := .int _ _) (av rfl ⟨trivial, trivial⟩) rfl ?_
            refine WL_nil ?_
            refine W_seq ?_
            refine W_region rfl ?_
            refine L_v Tb_ok (v := .int _ _) (av rfl ⟨trivial, trivial⟩) rfl ?_
            refine L_v Tb_ok (v := .int _ _) (av rfl ⟨trivial, trivial⟩) rfl ?_
            refine L_v Tb_ok (v := .int _ _) (av rfl ⟨trivial, trivial⟩) rfl ?_
            refine L_v Tb_ok (v := .int _ _) (av rfl ⟨trivial, trivial⟩) rfl ?_
            refine L_v Tb_ok (v := .bool _) (av rfl ⟨trivial, trivial⟩) rfl ?_
            refine WL_nil ?_
            refine W_cond (b := _) rfl (fun h115_3 => ?_) (fun h115_3 => ?_)
            · first | have hb0 : badB (V k i (i + 1 - i) false) = true := h115_3 | have hb1 : badB (V k i (i + 1 - i) true) = true := h115_3 | have hb2 : badB (V k (i / D * D) (i + 1 - i / D * D) false) = true := h115_3 | have hb3 : badB (V k (i / D * D) (i + 1 - i / D * D) true) = true := h115_3
              refine W_seq ?_
              refine W_region rfl ?_
              refine L_v Tb_ok (v := .int _ _) (av rfl ⟨trivial, trivial⟩) rfl ?_
              refine L_v Tb_ok (v := .int _ _) (av rfl ⟨trivial, trivial⟩) rfl ?_
              refine L_v Tb_ok (v := .int _ _) (av rfl ⟨trivial, trivial⟩) rfl ?_
              refine L_v Tb_ok (v := .int _ _) (av rfl ⟨trivial, trivial⟩) rfl ?_
              first | (refine L_v Tb_ok (v := .ro _) (av rfl ⟨trivial, trivial⟩) rfl ?_) | (refine L_v Tb_ok (v := .app _ _) (av rfl ⟨trivial, trivial⟩) rfl ?_) | (refine L_v Tb_ok (v := .row _ _ _) (av rfl ⟨trivial, trivial⟩) rfl ?_) | (refine L_v Tb_ok (v := .nils) (av rfl ⟨trivial, trivial⟩) rfl ?_)
              refine L_v Tb_ok (v := .agg [.int _ _, .int _ _, .int _ _, _]) (av rfl ⟨trivial, rfl⟩) rfl ?_
              refine L_store Tb_ok (v := .agg [.int _ _, .int _ _, .int _ _, _]) (cs := [_, _, _, _]) (es' := [[_, _, _, _]]) rfl rfl rfl rfl rfl rfl rfl rfl rfl rfl ⟨trivial, trivial⟩ ?_
              refine L_v Tb_ok (v := .bool _) (av rfl ⟨trivial, trivial⟩) rfl ?_
              refine L_v Tb_ok (v := .int _ _) (av rfl ⟨trivial, trivial⟩) rfl ?_
              refine WL_nil ?_
              refine W_ret ?_
              refine ends (l := [.agg [.int _ _, .int _ _, .int _ _, _], .bool _, .int _ _]) (q := .tup [.agg [.int _ _, .int _ _, .int _ _, _], .bool _, .int _ _]) (.inr rfl) rfl ⟨rfl, trivial, trivial, trivial⟩ rfl rfl ?_
              first | exact absurd (hfk k0 (by omega) i0 hi2) hi3 | (obtain ⟨e1, e2, e3⟩ := hfirst k i (i, false) hfk hfi hit hkt (by rw [hP, hb0]; rfl); obtain ⟨e4, e5⟩ := Prod.mk.inj e3; subst e4 e5 e1 e2; rw [hw1]; rfl) | (obtain ⟨e1, e2, e3⟩ := hfirst k i (i, true) hfk hfi hit hkt (by rw [hP, hb0, hb1]; rfl); obtain ⟨e4, e5⟩ := Prod.mk.inj e3; subst e4 e5 e1 e2; rw [hw1]; rfl) | (obtain ⟨e1, e2, e3⟩ := hfirst k i (i / D * D, false) hfk hfi hit hkt (by rw [hP, hb0, hb1, hb2]; rfl); obtain ⟨e4, e5⟩ := Prod.mk.inj e3; subst e4 e5 e1 e2; rw [hw1]; rfl) | (obtain ⟨e1, e2, e3⟩ := hfirst k i (i / D * D, true) hfk hfi hit hkt (by rw [hP, hb0, hb1, hb2, hb3]; rfl); obtain ⟨e4, e5⟩ := Prod.mk.inj e3; subst e4 e5 e1 e2; rw [hw1]; rfl)
            · first | have hb0 : badB (V k i (i + 1 - i) false) = false := h115_3 | have hb1 : badB (V k i (i + 1 - i) true) = false := h115_3 | have hb2 : badB (V k (i / D * D) (i + 1 - i / D * D) false) = false := h115_3 | have hb3 : badB (V k (i / D * D) (i + 1 - i / D * D) true) = false := h115_3
              refine W_skip ?_
              refine W_region rfl ?_
              refine L_v Tb_ok (v := .int _ _) (av rfl ⟨trivial, trivial⟩) rfl ?_
              refine L_v Tb_ok (v := .int _ _) (av rfl ⟨trivial, trivial⟩) rfl ?_
              refine WL_nil ?_
              refine LoopW_once ?_
              refine W_seq ?_
              refine W_region rfl ?_
              refine L_v Tb_ok (v := .bool _) (av rfl ⟨trivial, trivial⟩) rfl ?_
              refine WL_nil ?_
              refine W_seq ?_
              refine W_cond_f (b := _) rfl (by first | exact hc92 | rfl | decide | simp_all) ?_
              refine W_exit ?_
              repeat (first | refine pass_then ?_ | refine pass_once ?_ | refine pass_le ?_ | refine pass_round ?_ | refine pass_for ?_ | refine pass_forF ?_ | refine pass_jump ?_ | refine blockQ_miss rfl ?_)
              refine blockQ_hit ?_
              refine W_region rfl ?_
              refine L_v Tb_ok (v := .int _ _) (av rfl ⟨trivial, trivial⟩) rfl ?_
              refine L_v Tb_ok (v := .int _ _) (av rfl ⟨trivial, trivial⟩) rfl ?_
              refine WL_nil ?_
              refine LoopW_once ?_
              refine W_seq ?_
              refine W_region rfl ?_
              refine L_v Tb_ok (v := .bool _) (av rfl ⟨trivial, trivial⟩) rfl ?_
              refine WL_nil ?_
              refine W_seq ?_
              refine W_cond_f (b := _) rfl (by first | exact hc88 | rfl | decide | simp_all) ?_
              refine W_exit ?_
              repeat (first | refine pass_then ?_ | refine pass_once ?_ | refine pass_le ?_ | refine pass_round ?_ | refine pass_for ?_ | refine pass_forF ?_ | refine pass_jump ?_ | refine blockQ_miss rfl ?_)
              refine blockQ_hit ?_
              refine W_region rfl ?_
              refine L_v Tb_ok (v := .int _ _) (av rfl ⟨trivial, trivial⟩) rfl ?_
              refine L_v Tb_ok (v := .int _ _) (av rfl ⟨trivial, trivial⟩) rfl ?_
              refine WL_nil ?_
              refine forF_end hit (all_snocP (p := fun i' => PL k i' = none) hfi (by rw [hP, hb0, hb1, hb2, hb3]; rfl)) (le_fit (sub_cat ⟨congrArg _ (w_succ hit (by omega)), trivial⟩ ⟨rfl, rfl, rfl, rfl, rfl, rfl, rfl, rfl, rfl, rfl, rfl, rfl, rfl, trivial⟩) (subO_cat trivial ⟨.inr rfl, .inr rfl, .inr rfl, trivial⟩) (subK_cat trivial trivial) rfl rfl rfl (by first | rfl | (simp [ltOB, i8C, intC, spanC, AV.lt]; done)) rfl)
    · have hie : i = (termsF m op ch k).length := by first | (have := of_decide_eq_false h78; omega) | (have := of_decide_eq_false h78; simp only [List.length_map, List.length_take, List.length_drop] at this; omega) | (simp at h78; omega)
      refine W_exit ?_
      repeat (first | refine pass_then ?_ | refine pass_once ?_ | refine pass_le ?_ | refine pass_round ?_ | refine pass_for ?_ | refine pass_forF ?_ | refine pass_jump ?_ | refine blockQ_miss rfl ?_)
      refine blockQ_hit ?_
      refine W_region rfl ?_
      refine L_v Tb_ok (v := .int _ _) (av rfl ⟨trivial, trivial⟩) rfl ?_
      refine L_v Tb_ok (v := .int _ _) (av rfl ⟨trivial, trivial⟩) rfl ?_
      refine WL_nil ?_
      refine forF_end hkt (all_snocP (p := fun k' : Nat => ∀ i' : Nat, i' < (termsF m op ch k').length → PL k' i' = none) hfk (hie ▸ hfi)) (le_fit (sub_cat ⟨congrArg _ (w_succ hkt (by omega)), trivial⟩ ⟨rfl, rfl, rfl, rfl, rfl, rfl, rfl, rfl, rfl, trivial⟩) (subO_cat trivial ⟨.inr rfl, .inr rfl, .inr rfl, trivial⟩) (subK_cat trivial trivial) rfl rfl rfl (by first | rfl | (simp [ltOB, i8C, intC, spanC, AV.lt]; done)) rfl)
  · have hke : k = posN m op := by first | (have := of_decide_eq_false h64; omega) | (have := of_decide_eq_false h64; simp only [List.length_map, List.length_take, List.length_drop] at this; omega) | (simp at h64; omega)
    refine W_exit ?_
    repeat (first | refine pass_then ?_ | refine pass_once ?_ | refine pass_le ?_ | refine pass_round ?_ | refine pass_for ?_ | refine pass_forF ?_ | refine pass_jump ?_ | refine blockQ_miss rfl ?_)
    refine blockQ_hit ?_
    refine W_seq ?_
    refine W_region rfl ?_
    refine L_v Tb_ok (v := .agg [.int _ _, .int _ _, .int _ _, _]) (av rfl ⟨trivial, rfl⟩) rfl ?_
    refine L_store Tb_ok (v := .agg [.int _ _, .int _ _, .int _ _, _]) (cs := [_, _, _, _]) (es' := [[_, _, _, _]]) rfl rfl rfl rfl rfl rfl rfl rfl rfl rfl ⟨trivial, trivial⟩ ?_
    refine L_v Tb_ok (v := .bool _) (av rfl ⟨trivial, trivial⟩) rfl ?_
    refine L_v Tb_ok (v := .int _ _) (av rfl ⟨trivial, trivial⟩) rfl ?_
    refine WL_nil ?_
    refine W_ret ?_
    refine ends (l := [.agg [.int _ _, .int _ _, .int _ _, _], .bool _, .int _ _]) (q := .tup [.agg [.int _ _, .int _ _, .int _ _, _], .bool _, .int _ _]) (.inr rfl) rfl ⟨rfl, trivial, trivial, trivial⟩ rfl rfl ?_
    first | exact absurd (hfk k0 (by omega) i0 hi2) hi3 | (obtain ⟨e1, e2, e3⟩ := hfirst k i (i, false) hfk hfi hit hkt (by rw [hP, hb0]; rfl); obtain ⟨e4, e5⟩ := Prod.mk.inj e3; subst e4 e5 e1 e2; rw [hw1]; rfl) | (obtain ⟨e1, e2, e3⟩ := hfirst k i (i, true) hfk hfi hit hkt (by rw [hP, hb0, hb1]; rfl); obtain ⟨e4, e5⟩ := Prod.mk.inj e3; subst e4 e5 e1 e2; rw [hw1]; rfl) | (obtain ⟨e1, e2, e3⟩ := hfirst k i (i / D * D, false) hfk hfi hit hkt (by rw [hP, hb0, hb1, hb2]; rfl); obtain ⟨e4, e5⟩ := Prod.mk.inj e3; subst e4 e5 e1 e2; rw [hw1]; rfl) | (obtain ⟨e1, e2, e3⟩ := hfirst k i (i / D * D, true) hfk hfi hit hkt (by rw [hP, hb0, hb1, hb2, hb3]; rfl); obtain ⟨e4, e5⟩ := Prod.mk.inj e3; subst e4 e5 e1 e2; rw [hw1]; rfl)
end Go.AM
end
section
open Go Go.AM Go.Proofs
set_option maxRecDepth 10000
set_option linter.unusedVariables false
set_option linter.unusedSimpArgs false
namespace Go.AM
def natC (v : Nat) : List AV := [.int .i64 (v : Int)]
/-- the first place of a number, or -1 -/
def firstF (l : List Nat) (v : Nat) : Int := if l.findIdx (· == v) < l.length then (l.findIdx (· == v) : Int) else -1
theorem first_ge (l : List Nat) (v : Nat) : decide (firstF l v ≥ 0) = decide (∃ i, i < l.length ∧ l.getD i 0 = v) := by
  unfold firstF
  by_cases h : l.findIdx (· == v) < l.length
  · rw [if_pos h, decide_eq_true (by omega), decide_eq_true]
    refine ⟨_, h, ?_⟩
    have := @List.findIdx_getElem _ (· == v) l h
    simpa [List.getD_eq_getElem?_getD, h] using this
  · rw [if_neg h, decide_eq_false (by omega)]
    symm
    apply decide_eq_false
    rintro ⟨i, hi, he⟩
    have hm : ∃ x ∈ l, (x == v) = true := ⟨l[i], List.getElem_mem hi, by simpa [List.getD_eq_getElem?_getD, hi] using he⟩
    exact h (List.findIdx_lt_length_of_exists hm)
theorem first_at {l : List Nat} {v k : Nat} (hk : k < l.length) (h : ∀ i, i < k → l.getD i 0 ≠ v) (he : l.getD k 0 = v) : firstF l v = (k : Int) := by
  have e : l.findIdx (· == v) = k := by
    rw [List.findIdx_eq hk]
    refine ⟨by simpa [List.getD_eq_getElem?_getD, hk] using he, fun i hi => ?_⟩
    have := h i hi
    simpa [List.getD_eq_getElem?_getD, show i < l.length by omega] using this
  unfold firstF; rw [e, if_pos hk]
theorem first_none {l : List Nat} {v : Nat} (h : ∀ i, i < l.length → l.getD i 0 ≠ v) : firstF l v = -1 := by
  unfold firstF
  rw [if_neg]
  intro q
  have := @List.findIdx_getElem _ (· == v) l q
  exact h _ q (by simpa [List.getD_eq_getElem?_getD, q] using this)
theorem slices_Index (l : List Nat) (v : Nat) (hl : l.length ≤ 1048576) : Ok Try.prog 86 [.ro (l.map natC), .int .i64 (v : Int)] (.int .i64 (firstF l v)) := by
  refine fn_ok Tb_ok (fn := Try.f86) Try.func86 rfl rfl (e := [(0, _), (1, _)]) rfl (by decide) rfl ?_
  refine zs ?_
  refine zR ?_
  refine zLI ?_
  refine zn ?_
  refine zs ?_
  refine zs ?_
  refine zR ?_
  refine zLO ?_
  refine zLI ?_
  refine zLI ?_
  refine zn ?_
  refine W_block ?_
  refine W_forEF (l.length) (fun (k : Nat) => ∀ i, i < k → l.getD i 0 ≠ v) (fun i hi => absurd hi (Nat.not_lt_zero _)) [(0, .ro _), (1, .int _ _), (7, .int _ _)] (fun (k : Nat) => [(8, .int .i64 (k : Int))]) [] (fun (k : Nat) => []) [] (fun (k : Nat) => []) 0 (le_fit (sub_cat ⟨rfl, trivial⟩ ⟨rfl, rfl, rfl, trivial⟩) (subO_cat trivial trivial) (subK_cat trivial trivial) rfl rfl rfl rfl rfl) ?_
  intro k hk hfk
  refine W.of_le (s' := ⟨[(8, .int .i64 (k : Int)), (0, .ro _), (1, .int _ _), (7, .int _ _)], [], [], 0⟩) (le_fit ⟨rfl, rfl, rfl, rfl, trivial⟩ trivial trivial rfl rfl rfl rfl rfl) ?_
  refine zs ?_
  refine zR ?_
  refine zLB ?_
  refine zn ?_
  refine zs ?_
  refine W_cond (b := _) rfl (fun h9 => ?_) (fun h9 => ?_)
  · have hkt : k < l.length := by (have := of_decide_eq_true h9; simp only [List.length_map, List.length_take, List.length_drop] at this; omega)
    refine zk ?_
    refine zs ?_
    refine W_block ?_
    refine zs ?_
    refine zR ?_
    refine zLI ?_
    refine zLI ?_
    refine zn ?_
    refine zs ?_
    refine zR ?_
    refine zLI ?_
    refine zLO ?_
    refine zLI ?_
    (refine L_v Tb_ok (v := _) (ave_index_ro rfl rfl rfl (fun _ => rfl) rfl (by first | omega | assumption | decide | (simp_all; done) | (simp_all; omega)) (by first | omega | assumption | decide | (simp_all; done) | (simp_all; omega)) trivial) rfl ?_)
    refine zLI ?_
    refine zLB ?_
    refine zn ?_
    refine W_cond (b := _) rfl (fun h16 => ?_) (fun h16 => ?_)
    · have he : l.getD k 0 = v := by have := h16; rw [Int.toNat_natCast, beq_iff_eq] at this; have := Int.ofNat.inj this; exact this.symm
      refine zs ?_
      refine zR ?_
      refine zLI ?_
      refine zLI ?_
      refine zn ?_
      refine zt ?_
      refine ends (l := [.int _ _]) (q := .int _ _) (.inr rfl) rfl ⟨trivial, trivial⟩ rfl rfl ?_
      rw [first_at hkt hfk he]
    · have hne : l.getD k 0 ≠ v := fun q => by have := h16; rw [Int.toNat_natCast] at this; rw [show l.getD k default = v from q] at this; simp at this
      refine zk ?_
      refine zR ?_
      refine zLI ?_
      refine zLI ?_
      refine zn ?_
      refine forF_end hkt (all_snoc hfk hne) (le_fit (sub_cat ⟨congrArg _ (w_succ hkt (by omega)), trivial⟩ ⟨rfl, rfl, rfl, trivial⟩) (subO_cat trivial trivial) (subK_cat trivial trivial) rfl rfl rfl rfl rfl)
  · have hke : k = l.length := by (have := of_decide_eq_false h9; simp only [List.length_map, List.length_take, List.length_drop] at this; omega)
    refine W_exit ?_
    repeat (first | refine pass_then ?_ | refine pass_forF ?_)
    refine blockQ_hit ?_
    refine zs ?_
    refine zR ?_
    refine zLI ?_
    refine zn ?_
    refine zt ?_
    refine ends (l := [.int _ _]) (q := .int _ _) (.inr rfl) rfl ⟨trivial, trivial⟩ rfl rfl ?_
    rw [first_none (fun i hi => hfk i (by omega))]
theorem slices_Contains (l : List Nat) (v : Nat) (hl : l.length ≤ 1048576) : Ok Try.prog 63 [.ro (l.map natC), .int .i64 (v : Int)] (.bool (decide (∃ i, i < l.length ∧ l.getD i 0 = v))) := by
  refine fn_ok Tb_ok (fn := Try.f63) Try.func63 rfl rfl (e := [(0, _), (1, _)]) rfl (by decide) rfl ?_
  refine zs ?_
  refine zR ?_
  refine zLB ?_
  refine zn ?_
  refine zs ?_
  refine zR ?_
  refine zLO ?_
  refine zLI ?_
  refine zLc (slices_Index l v hl) ?_
  refine zLB ?_
  refine zLB ?_
  refine zn ?_
  refine zt ?_
  refine ends (l := [.bool _]) (q := .bool _) (.inr rfl) rfl ⟨trivial, trivial⟩ rfl rfl ?_
  rw [first_ge]
/-- a list that is made anew place by place -/
def updW {α : Type} (o o' : List α) (i : Nat) : List α := o'.take i ++ o.drop i
theorem updW_zero {α : Type} (o o' : List α) : updW o o' 0 = o := by simp [updW]
theorem updW_len {α : Type} {o o' : List α} {i : Nat} (h : o'.length = o.length) (hi : i ≤ o.length) : (updW o o' i).length = o.length := by simp [updW]; omega
theorem updW_all {α : Type} {o o' : List α} (h : o'.length = o.length) : updW o o' o.length = o' := by simp [updW, ← h]
theorem updW_set {α : Type} [Inhabited α] {o o' : List α} {i : Nat} (h : o'.length = o.length) (hi : i < o.length) {v : α} (hv : o'.getD i default = v) : (updW o o' i).set i v = updW o o' (i + 1) := by
  have e : (o'.take i).length = i := by simp; omega
  unfold updW
  rw [List.set_append, if_neg (by omega), e, Nat.sub_self, List.drop_eq_getElem_cons hi, List.set_cons_zero, List.take_add_one, List.getElem?_eq_getElem (by omega)]
  have : o'[i] = v := by rw [← hv]; simp [List.getD_eq_getElem?_getD, h, hi]
  simp [this]
theorem updW_get {α : Type} [Inhabited α] {o o' : List α} {i : Nat} (h : o'.length = o.length) (hi : i < o.length) : (updW o o' i).getD i default = o.getD i default := by
  have e : (o'.take i).length = i := by simp; omega
  simp [updW, List.getD_eq_getElem?_getD, e, List.getElem?_append]
theorem updW_same {α : Type} [Inhabited α] {o o' : List α} {i : Nat} (h : o'.length = o.length) (hi : i < o.length) (hv : o'.getD i default = o.getD i default) : updW o o' i = updW o o' (i + 1) := by
  rw [← updW_set h hi hv]
  have := updW_get h hi
  apply List.ext_getElem (by simp)
  intro q h1 h2
  rw [List.getElem_set]
  split
  · rename_i hq; subst hq
    rw [← this]; simp [List.getD_eq_getElem?_getD, h1]
  · rfl
theorem bears_succ (n : Nat) {l : List (List Span)} {k : Nat} (h : k < l.length) : bearsF n (l.take (k + 1)) = bear1 (bearsF n (l.take k)) (l.getD k default) := take_fold bear1 _ h
theorem brk_le (r : List Span) (i n : Nat) : brk r i n ≤ n := (brk_spec r i n).1
theorem bear_le (n : Nat) : ∀ (l : List (List Span)) (i : Nat), i < n → (bearsF n l).getD i 0 ≤ n - i := by
  intro l i hi
  rw [← bear0_get hi]
  unfold bearsF
  have key : ∀ (l : List (List Span)) (o : List Nat), i < o.length → (l.foldl bear1 o).getD i 0 ≤ o.getD i 0 := by
    intro l
    induction l with
    | nil => intro o _; exact Nat.le_refl _
    | cons r l ih =>
      intro o ho
      rw [List.foldl_cons]
      refine Nat.le_trans (ih _ (by rw [bear1_len]; exact ho)) ?_
      rw [bear1_get ho]; exact brk_le _ _ _
  exact key l _ (by simp [bear0]; exact hi)
theorem updW_end {α : Type} {o o' : List α} {n : Nat} (h : o'.length = o.length) (hn : o.length = n) : updW o o' n = o' := by rw [← hn]; exact updW_all h
def bW (n : Nat) (L : List (List Span)) (k i : Nat) : List Nat := updW (bearsF n (L.take k)) (bearsF n (L.take (k + 1))) i
theorem bW_zero (n : Nat) (L : List (List Span)) (k : Nat) : bW n L k 0 = bearsF n (L.take k) := updW_zero _ _
theorem bW_eqlen (n : Nat) (L : List (List Span)) (k : Nat) : (bearsF n (L.take (k + 1))).length = (bearsF n (L.take k)).length := by rw [bears_len, bears_len]
theorem bW_len {n : Nat} {L : List (List Span)} {k i : Nat} (h : i ≤ n) : (bW n L k i).length = n := by
  unfold bW; rw [updW_len (bW_eqlen n L k) (by rw [bears_len]; exact h), bears_len]
theorem bW_end (n : Nat) (L : List (List Span)) (k : Nat) : bW n L k n = bearsF n (L.take (k + 1)) := updW_end (bW_eqlen n L k) (bears_len _ _)
theorem bW_get {n : Nat} {L : List (List Span)} {k i : Nat} (h : i < n) : (bW n L k i).getD i default = (bearsF n (L.take k)).getD i 0 := updW_get (bW_eqlen n L k) (by rw [bears_len]; exact h)
theorem bW_next {n : Nat} {L : List (List Span)} {k i : Nat} (hk : k < L.length) (h : i < n) : (bearsF n (L.take (k + 1))).getD i default = brk (L.getD k default) i ((bearsF n (L.take k)).getD i 0) := by
  rw [bears_succ n hk]; exact bear1_get (by rw [bears_len]; exact h)
theorem bW_set {n : Nat} {L : List (List Span)} {k i j : Nat} (hk : k < L.length) (h : i < n) (hj : brk (L.getD k default) i ((bearsF n (L.take k)).getD i 0) = j) : (bW n L k i).set i j = bW n L k (i + 1) :=
  updW_set (bW_eqlen n L k) (by rw [bears_len]; exact h) (by rw [bW_next hk h, hj])
theorem bW_same {n : Nat} {L : List (List Span)} {k i : Nat} (hk : k < L.length) (h : i < n) (hj : brk (L.getD k default) i ((bearsF n (L.take k)).getD i 0) = (bearsF n (L.take k)).getD i 0) : bW n L k i = bW n L k (i + 1) :=
  updW_same (bW_eqlen n L k) (by rw [bears_len]; exact h) (by rw [bW_next hk h, hj]; rfl)
/-- what depth.bears is told of -/
structure BearH (m : Model) (op ch : Int) (s : Span) (n P : Nat) (pad : Int) (L : List (List Span)) (T : Nat → List Term) (f : Term → Span) : Prop where
  hn : n ≤ 512
  hP : P ≤ 1048576
  hLn : Ok Try.prog 31 [.agg (modelC m), .int .i64 op] (.tup [.int .i64 (n : Int), .int .i64 0])
  hPo : Ok Try.prog 51 [.agg (modelC m), .int .i64 op] (.tup [.int .i64 (P : Int), .int .i64 0])
  hOf : ∀ k : Nat, k < P → ∃ b, Ok Try.prog 52 [.agg (modelC m), .int .i64 op, .int .i64 ch, .int .i64 (k : Int)] (.tup [.ro ((T k).map termC), .int .i64 b, .int .i64 0])
  hTl : ∀ k, k < P → (T k).length = n
  hLT : ∀ k, k < P → L.getD k default = (T k).map f
  hLl : L.length = P
  hW : ∀ k, ∀ t ∈ T k, -32768 ≤ t.W ∧ t.W ≤ 32767
  hf : ∀ t, f t = endF pad s t
  hok : ∀ k, okF (T k) f
  hs : -128 ≤ s.Lo ∧ s.Lo ≤ s.Hi ∧ s.Hi ≤ 127
  hp : -128 ≤ pad ∧ pad ≤ 127
  i0 : 0 ≤ IntKind.i64.wrap (op - 1)
  i1 : IntKind.i64.wrap (op - 1) < (m.Ops.length : Int)
  ip : (m.Ops.getD (IntKind.i64.wrap (op - 1)).toNat default).Pad = pad
theorem depth_bears' {m : Model} {op ch : Int} {s : Span} {n P : Nat} {pad : Int} {L : List (List Span)} {T : Nat → List Term} {f : Term → Span} (H : BearH m op ch s n P pad L T f) : Ok Try.prog 62 [.agg (modelC m), .int .i64 op, .int .i64 ch, .agg (spanC s)] (.ro ((bearsF n L).map natC)) := by
  have hn := H.hn
  have hP := H.hP
  have hLl := H.hLl
  have mk3 : ((Tb.at 3).bytes : Int) * (n : Int) ≤ 281474976710656 := by rw [show (Tb.at 3).bytes = 8 from rfl]; omega
  have hb0 : (bear0 n).length = (List.replicate n 0).length := by simp [bear0]
  have hrl : (List.replicate n 0).length = n := List.length_replicate
  --@@1
  skip
  refine fn_ok Tb_ok (fn := Try.f62) Try.func62 rfl rfl (e := [(0, _), (1, _), (2, _), (3, _)]) rfl (by decide) rfl ?_
  refine zs ?_
  refine zR ?_
  refine zbx [.int _ _, .int _ _, .int _ _, .int _ _, .int _ _, _, .int _ _] 7 ?_
  refine zbx [.int _ _, .int _ _] 2 ?_
  refine zLN ?_
  refine zn ?_
  refine zs ?_
  refine zR ?_
  refine zLG [.int _ _, .int _ _, .int _ _, .int _ _, .int _ _, _, .int _ _] ?_
  refine zLI ?_
  refine zLc (H.hLn) ?_
  refine zLT [_, _] ?_
  refine zLI ?_
  refine zLI ?_
  refine zLI ?_
  refine zLI ?_
  refine zn ?_
  refine zs ?_
  refine zR ?_
  refine zLG [.int _ _, .int _ _, .int _ _, .int _ _, .int _ _, _, .int _ _] ?_
  refine zLI ?_
  refine zLc (H.hPo) ?_
  refine zLT [_, _] ?_
  refine zLI ?_
  refine zLI ?_
  refine zLI ?_
  refine zLI ?_
  refine zn ?_
  refine zs ?_
  refine zR ?_
  refine zLP ?_
  refine zLO ?_
  refine zLI ?_
  refine zLI ?_
  (refine L_v Tb_ok (v := _) (ave_index_ro rfl rfl rfl (fun _ => rfl) rfl (by first | exact H.i0 | exact H.i1) (by first | exact H.i0 | exact H.i1) trivial) rfl ?_)
  refine zLQ ?_
  refine zLI ?_
  simp only [H.ip]
  refine zLI ?_
  refine zn ?_
  refine zs ?_
  refine zR ?_
  refine zLI ?_
  refine L_make Tb_ok (el := 3) (sz := 1) (z := [.int .i64 0]) rfl rfl rfl rfl rfl rfl rfl rfl ⟨trivial, trivial⟩ (by omega) (by omega) rfl ?_
  refine zLW ?_
  refine zn ?_
  refine zs ?_
  refine zs ?_
  refine zR ?_
  refine zLW ?_
  refine zLI ?_
  refine zLI ?_
  refine zn ?_
  refine W_block ?_
  refine W_forE (n) [(1, .int _ _), (2, .int _ _), (4, .ptr 0 0 0), (7, .ptr 1 0 0), (9, .int _ _), (11, .int _ _), (13, .int _ _), (14, .row 2 0 _), (47, .int _ _)] (fun (i : Nat) => [(48, .int .i64 (i : Int))]) [(0, some ⟨_, _, _, _⟩), (1, some ⟨_, _, _, _⟩)] (fun (i : Nat) => [(2, some ⟨3, 1, 0, (updW (List.replicate n 0) (bear0 n) i).map natC⟩)]) [] (fun (i : Nat) => []) 3 (le_fit (sub_cat ⟨rfl, trivial⟩ ⟨rfl, rfl, rfl, rfl, rfl, rfl, rfl, rfl, rfl, trivial⟩) (subO_cat ⟨.inr (by show some (Ob.mk 3 1 0 (List.replicate (((n : Nat) : Int)).toNat [AV.int .i64 0])) = _; rw [Int.toNat_natCast, updW_zero, List.map_replicate]; rfl), trivial⟩ ⟨.inr rfl, .inr rfl, trivial⟩) (subK_cat trivial trivial) rfl rfl rfl (by simp [ltOB, natC, AV.lt]) rfl) ?_
  intro i hi
  refine W.of_le (s' := ⟨[(48, .int .i64 (i : Int)), (1, .int _ _), (2, .int _ _), (4, .ptr 0 0 0), (7, .ptr 1 0 0), (9, .int _ _), (11, .int _ _), (13, .int _ _), (14, .row 2 0 _), (47, .int _ _)], [(2, some ⟨3, 1, 0, (updW (List.replicate n 0) (bear0 n) i).map natC⟩), (0, some ⟨_, _, _, _⟩), (1, some ⟨_, _, _, _⟩)], [], 3⟩) (le_fit ⟨rfl, rfl, rfl, rfl, rfl, rfl, rfl, rfl, rfl, rfl, trivial⟩ ⟨.inr rfl, .inr rfl, .inr rfl, trivial⟩ trivial rfl rfl rfl (by simp [ltOB, natC, AV.lt]) rfl) ?_
  refine zs ?_
  refine zR ?_
  refine zLB ?_
  refine zn ?_
  refine zs ?_
  refine W_cond (b := _) rfl (fun h49 => ?_) (fun h49 => ?_)
  · have hit : i < n := by (have := of_decide_eq_true h49; omega)
    refine zk ?_
    refine zs ?_
    refine W_block ?_
    refine zs ?_
    refine zR ?_
    refine zLI ?_
    refine zLI ?_
    refine zn ?_
    refine zR ?_
    refine zLW ?_
    refine zLI ?_
    refine zLI ?_
    refine zLI ?_
    refine zLI ?_
    (refine L_v Tb_ok (v := _) (ave_index_row rfl rfl rfl rfl rfl rfl (by omega) (by omega) trivial) rfl ?_)
    refine L_store_at Tb_ok (f := natC) (xs := updW (List.replicate n 0) (bear0 n) i) (i) (n - i) rfl rfl (by simp) (by rw [updW_len hb0 (by rw [hrl]; omega), hrl]; omega) rfl rfl rfl rfl (by show [AV.int .i64 _] = [AV.int .i64 _]; rw [show IntKind.i64.wrap ((n : Int) - (i : Int)) = ((n - i : Nat) : Int) from (w64_id (by omega)).trans (by omega)]) rfl rfl ⟨trivial, trivial⟩ ?_
    refine zn ?_
    refine zR ?_
    refine zLI ?_
    refine zLI ?_
    refine zn ?_
    refine for_end hit (le_fit (sub_cat ⟨congrArg _ (w_succ hit (by omega)), trivial⟩ ⟨rfl, rfl, rfl, rfl, rfl, rfl, rfl, rfl, rfl, trivial⟩) (subO_cat ⟨.inr (by rw [← updW_set hb0 (by rw [hrl]; exact hit) (bear0_get hit)]; rfl), trivial⟩ ⟨.inr rfl, .inr rfl, trivial⟩) (subK_cat trivial trivial) rfl rfl rfl (by simp [ltOB, natC, AV.lt]) rfl)
  · have hie : i = n := by (have := of_decide_eq_false h49; omega)
    refine W_exit ?_
    repeat (first | refine pass_then ?_ | refine pass_for ?_)
    refine blockQ_hit ?_
    refine zs ?_
    refine zs ?_
    refine zR ?_
    refine zLI ?_
    refine zLI ?_
    refine zn ?_
    refine W_block ?_
    refine W_forE (P) [(1, .int _ _), (2, .int _ _), (4, .ptr 0 0 0), (7, .ptr 1 0 0), (13, .int _ _), (14, .row 2 0 _), (58, .int _ _)] (fun (k : Nat) => [(59, .int .i64 (k : Int))]) [(0, some ⟨_, _, _, _⟩), (1, some ⟨_, _, _, _⟩)] (fun (k : Nat) => [(2, some ⟨3, 1, 0, (bearsF n (L.take k)).map natC⟩)]) [] (fun (k : Nat) => []) 3 (le_fit (sub_cat ⟨rfl, trivial⟩ ⟨rfl, rfl, rfl, rfl, rfl, rfl, rfl, trivial⟩) (subO_cat ⟨.inr (by show some (Ob.mk 3 1 0 ((updW (List.replicate n 0) (bear0 n) i).map natC)) = _; rw [hie, updW_end hb0 hrl]; rfl), trivial⟩ ⟨.inr rfl, .inr rfl, trivial⟩) (subK_cat trivial trivial) rfl rfl rfl (by simp [ltOB, natC, AV.lt]) rfl) ?_
    intro k hk
    refine W.of_le (s' := ⟨[(59, .int .i64 (k : Int)), (1, .int _ _), (2, .int _ _), (4, .ptr 0 0 0), (7, .ptr 1 0 0), (13, .int _ _), (14, .row 2 0 _), (58, .int _ _)], [(2, some ⟨3, 1, 0, (bearsF n (L.take k)).map natC⟩), (0, some ⟨_, _, _, _⟩), (1, some ⟨_, _, _, _⟩)], [], 3⟩) (le_fit ⟨rfl, rfl, rfl, rfl, rfl, rfl, rfl, rfl, trivial⟩ ⟨.inr rfl, .inr rfl, .inr rfl, trivial⟩ trivial rfl rfl rfl (by simp [ltOB, natC, AV.lt]) rfl) ?_
    refine zs ?_
    refine zR ?_
    refine zLB ?_
    refine zn ?_
    refine zs ?_
    refine W_cond (b := _) rfl (fun h60 => ?_) (fun h60 => ?_)
    · have hkt : k < P := by (have := of_decide_eq_true h60; omega)
      obtain ⟨b, hO⟩ := H.hOf k hkt
      have hT1 := H.hTl k hkt
      have hTT := H.hLT k hkt
      have hokk := H.hok k
      refine zk ?_
      refine zs ?_
      refine W_block ?_
      refine zs ?_
      refine zR ?_
      refine zLI ?_
      refine zLI ?_
      refine zn ?_
      refine zs ?_
      refine zR ?_
      refine zLG [.int _ _, .int _ _, .int _ _, .int _ _, .int _ _, _, .int _ _] ?_
      refine zLI ?_
      refine zLI ?_
      refine zLI ?_
      refine zLc (hO) ?_
      refine zLT [_, _, _] ?_
      refine zLO ?_
      refine zLI ?_
      refine zLI ?_
      refine zLO ?_
      refine zLI ?_
      refine zLI ?_
      refine zn ?_
      refine zs ?_
      refine zR ?_
      refine zLW ?_
      refine zLI ?_
      refine zLI ?_
      refine zn ?_
      refine W_block ?_
      refine W_forE (n) [(1, .int _ _), (2, .int _ _), (4, .ptr 0 0 0), (7, .ptr 1 0 0), (13, .int _ _), (14, .row 2 0 _), (17, .ro _), (58, .int _ _), (59, .int _ _), (72, .int _ _)] (fun (i : Nat) => [(73, .int .i64 (i : Int))]) [(0, some ⟨_, _, _, _⟩), (1, some ⟨_, _, _, _⟩)] (fun (i : Nat) => [(2, some ⟨3, 1, 0, (bW n L k i).map natC⟩)]) [] (fun (i : Nat) => []) 3 (le_fit (sub_cat ⟨rfl, trivial⟩ ⟨rfl, rfl, rfl, rfl, rfl, rfl, rfl, rfl, rfl, rfl, trivial⟩) (subO_cat ⟨.inr (by rw [bW_zero]; rfl), trivial⟩ ⟨.inr rfl, .inr rfl, trivial⟩) (subK_cat trivial trivial) rfl rfl rfl (by simp [ltOB, natC, AV.lt]) rfl) ?_
      intro i hi
      refine W.of_le (s' := ⟨[(73, .int .i64 (i : Int)), (1, .int _ _), (2, .int _ _), (4, .ptr 0 0 0), (7, .ptr 1 0 0), (13, .int _ _), (14, .row 2 0 _), (17, .ro _), (58, .int _ _), (59, .int _ _), (72, .int _ _)], [(2, some ⟨3, 1, 0, (bW n L k i).map natC⟩), (0, some ⟨_, _, _, _⟩), (1, some ⟨_, _, _, _⟩)], [], 3⟩) (le_fit ⟨rfl, rfl, rfl, rfl, rfl, rfl, rfl, rfl, rfl, rfl, rfl, trivial⟩ ⟨.inr rfl, .inr rfl, .inr rfl, trivial⟩ trivial rfl rfl rfl (by simp [ltOB, natC, AV.lt]) rfl) ?_
      refine zs ?_
      refine zR ?_
      refine zLB ?_
      refine zn ?_
      refine zs ?_
      refine W_cond (b := _) rfl (fun h74 => ?_) (fun h74 => ?_)
      · have hit : i < n := by (have := of_decide_eq_true h74; omega)
        have hg := bW_get (L := L) (k := k) hit
        have hle := bear_le n (L.take k) i hit
        have hTi : ∀ q, i + q < n → (L.getD k default).getD (i + q) default = f ((T k).getD (i + q) default) := fun q hq => by rw [hTT]; simp [List.getD_eq_getElem?_getD, hT1, hq]
        refine zk ?_
        refine zs ?_
        refine W_block ?_
        refine zs ?_
        refine zR ?_
        refine zLI ?_
        refine zLI ?_
        refine zn ?_
        refine zs ?_
        refine zR ?_
        refine zLG [.int _ _, .int _ _] ?_
        refine zal [.int .i64 0, .int .i64 0] 2 ?_
        refine zst (.agg [.int _ _, .int _ _]) [_, _] [[_, _]] ?_
        refine zn ?_
        refine zs ?_
        refine zR ?_
        refine zLO ?_
        refine zLI ?_
        refine zLI ?_
        refine zLW ?_
        refine zLI ?_
        (refine L_v Tb_ok (v := _) (ave_index_row rfl rfl rfl rfl rfl rfl (by omega) (by omega) trivial) rfl ?_)
        refine L_load_at Tb_ok (f := natC) (xs := bW n L k i) (i) rfl rfl (by simp) (by rw [bW_len (by omega)]; omega) rfl rfl trivial rfl rfl ?_
        simp only [hg]
        obtain ⟨o, ho⟩ : ∃ o, o = (bearsF n (L.take k)).getD i 0 := ⟨_, rfl⟩
        rw [← ho] at hle
        simp only [← ho]
        have hw : IntKind.i64.wrap ((i : Int) + (o : Int)) = ((i + o : Nat) : Int) := (w64_id (by omega)).trans (by omega)
        have hdl : (((T k).drop i).take (i + o - i)).length = o := by rw [List.length_take, List.length_drop]; omega
        refine zLI ?_
        refine L_slice_map Tb_ok (f := termC) (xs := T k) (i) (i + o) (el := 112) (sz := 2) rfl rfl rfl rfl rfl rfl (fun _ => rfl) (by rfl) (by omega) (by omega) (by omega) ⟨trivial, trivial, trivial⟩ rfl ?_
        refine zLI ?_
        refine zLI ?_
        refine zn ?_
        refine W_block ?_
        refine W_forEF (o) (fun (j : Nat) => ∀ q, q < j → okW (pre (L.getD k default) i (q + 1)) = true) (fun q hq => absurd hq (Nat.not_lt_zero _)) [(1, .int _ _), (2, .int _ _), (4, .ptr 0 0 0), (7, .ptr 1 0 0), (13, .int _ _), (14, .row 2 0 _), (17, .ro _), (20, .int _ _), (21, .ptr 3 0 0), (58, .int _ _), (59, .int _ _), (72, .int _ _), (73, .int _ _), (85, .ro _), (86, .int _ _)] (fun (j : Nat) => [(87, .int .i64 (j : Int))]) [(0, some ⟨_, _, _, _⟩), (1, some ⟨_, _, _, _⟩), (2, some ⟨_, _, _, _⟩)] (fun (j : Nat) => [(3, some ⟨28, 2, 0, [spanC (pre (L.getD k default) i j)]⟩)]) [] (fun (j : Nat) => []) 4 (le_fit (sub_cat ⟨rfl, trivial⟩ ⟨rfl, rfl, rfl, rfl, rfl, rfl, rfl, rfl, rfl, rfl, rfl, rfl, rfl, rfl, rfl, trivial⟩) (subO_cat ⟨.inr rfl, trivial⟩ ⟨.inr rfl, .inr rfl, .inr rfl, trivial⟩) (subK_cat trivial trivial) rfl rfl rfl (by simp [ltOB, natC, AV.lt, spanC]) rfl) ?_
        intro j hj hfj
        refine W.of_le (s' := ⟨[(87, .int .i64 (j : Int)), (1, .int _ _), (2, .int _ _), (4, .ptr 0 0 0), (7, .ptr 1 0 0), (13, .int _ _), (14, .row 2 0 _), (17, .ro _), (20, .int _ _), (21, .ptr 3 0 0), (58, .int _ _), (59, .int _ _), (72, .int _ _), (73, .int _ _), (85, .ro _), (86, .int _ _)], [(3, some ⟨28, 2, 0, [spanC (pre (L.getD k default) i j)]⟩), (0, some ⟨_, _, _, _⟩), (1, some ⟨_, _, _, _⟩), (2, some ⟨_, _, _, _⟩)], [], 4⟩) (le_fit ⟨rfl, rfl, rfl, rfl, rfl, rfl, rfl, rfl, rfl, rfl, rfl, rfl, rfl, rfl, rfl, rfl, trivial⟩ ⟨.inr rfl, .inr rfl, .inr rfl, .inr rfl, trivial⟩ trivial rfl rfl rfl (by simp [ltOB, natC, AV.lt, spanC]) rfl) ?_
        refine zs ?_
        refine zR ?_
        refine zLB ?_
        refine zn ?_
        refine zs ?_
        refine W_cond (b := _) rfl (fun h88 => ?_) (fun h88 => ?_)
        · have hjt : j < o := by (have := of_decide_eq_true h88; rw [List.length_map, hdl] at this; omega)
          have hU : (((T k).drop i).take (i + o - i)).getD j default = (T k).getD (i + j) default := by simp [List.getD_eq_getElem?_getD, List.getElem?_take, hjt]
          have htin : (T k).getD (i + j) default ∈ T k := getD_in (by omega)
          have hw1 := H.hW k _ htin
          have hft := H.hf ((T k).getD (i + j) default)
          have hokt := hokk _ htin
          have hpv := pre_val hokk (by omega) i j
          have hpb := pre_bS hokk (by omega) i j (by omega)
          have hps : pre (L.getD k default) i (j + 1) = plusS (pre (L.getD k default) i j) (f ((T k).getD (i + j) default)) := by rw [pre_succ (by rw [hTT, List.length_map]; omega), hTi j (by omega)]
          rw [← hTT] at hpv hpb
          have hTm : Ok Try.prog 84 [.agg (spanC (bif decide (((T k).getD (i + j) default).At < 0) then ⟨pad, pad⟩ else s)), .int .i64 ((T k).getD (i + j) default).W] (.tup [.agg (spanC (f ((T k).getD (i + j) default))), .int .i64 0]) := by
            rw [hft, endF, cond_ite]
            have h1 := H.hs
            have h2 := H.hp
            split
            · exact span_Times ⟨pad, pad⟩ _ (Int.le_refl _) (by dsimp only; omega) (by omega)
            · exact span_Times s _ h1.2.1 (by omega) (by omega)
          have hAd : Ok Try.prog 85 [.agg (spanC (pre (L.getD k default) i j)), .agg (spanC (f ((T k).getD (i + j) default)))] (.tup [.agg (spanC (pre (L.getD k default) i (j + 1))), .int .i64 0]) := by
            rw [hps]
            obtain ⟨⟨x1, x2⟩, x3, x4⟩ := hokt.1
            obtain ⟨⟨y1, y2⟩, y3, y4⟩ := hpb
            exact span_Add (B := 4294967296) _ _ ⟨⟨by omega, by omega⟩, by omega, by omega⟩ ⟨⟨by omega, by omega⟩, by omega, by omega⟩ (by omega) hpv hokt.2
          clear hw1 hft hokt hpv hpb hps htin
          refine zk ?_
          refine zs ?_
          refine W_block ?_
          refine zs ?_
          refine zR ?_
          refine zLI ?_
          (refine L_v Tb_ok (v := _) (ave_index_ro rfl rfl rfl (fun _ => rfl) rfl (by first | omega | assumption | decide | (simp_all; done) | (simp_all; omega)) (by first | omega | assumption | decide | (simp_all; done) | (simp_all; omega)) trivial) rfl ?_)
          simp only [Int.toNat_natCast, hU]
          refine zLG [.int _ _, .int _ _] ?_
          refine zal [.int .i64 0, .int .i64 0] 2 ?_
          refine zLI ?_
          refine zst (.agg [.int _ _, .int _ _]) [_, _] [[_, _]] ?_
          refine zn ?_
          refine zs ?_
          refine zR ?_
          refine zLG [.int _ _, .int _ _] ?_
          refine zal [.int .i64 0, .int .i64 0] 2 ?_
          refine zst (.agg [.int _ _, .int _ _]) [_, _] [[_, _]] ?_
          refine zn ?_
          refine zs ?_
          refine zs ?_
          refine zR ?_
          refine zLP ?_
          refine zLI ?_
          refine zLB ?_
          refine zn ?_
          refine W_iftB (b := _) rfl [(1, .int _ _), (2, .int _ _), (4, .ptr 0 0 0), (7, .ptr 1 0 0), (13, .int _ _), (14, .row 2 0 _), (17, .ro _), (20, .int _ _), (21, .ptr 3 0 0), (22, .int _ _), (23, .ptr 4 0 0), (24, .ptr 5 0 0), (58, .int _ _), (59, .int _ _), (72, .int _ _), (73, .int _ _), (85, .ro _), (86, .int _ _), (87, .int _ _)] (fun (z : Bool) => []) [(0, some ⟨_, _, _, _⟩), (1, some ⟨_, _, _, _⟩), (2, some ⟨_, _, _, _⟩), (3, some ⟨_, _, _, _⟩), (4, some ⟨_, _, _, _⟩)] (fun (z : Bool) => [(5, some ⟨28, 2, 0, [spanC (bif z then ⟨pad, pad⟩ else s)]⟩)]) [] (fun (z : Bool) => []) 6 ⟨rfl, rfl, rfl, rfl, rfl, rfl, rfl, rfl, rfl, rfl, rfl, rfl, rfl, rfl, rfl, rfl, rfl, rfl, rfl, trivial⟩ ⟨.inr rfl, .inr rfl, .inr rfl, .inr rfl, .inr rfl, trivial⟩ trivial (fun h95 => ?_) (fun h95 => ?_) ?_
          · refine zR ?_
            refine zLI ?_
            refine zLI ?_
            refine zLG [.int _ _, .int _ _] ?_
            refine zst (.agg [.int _ _, .int _ _]) [_, _] [[_, _]] ?_
            refine zn ?_
            exact ⟨trivial, (le_fit (sub_cat trivial ⟨rfl, rfl, rfl, rfl, rfl, rfl, rfl, rfl, rfl, rfl, rfl, rfl, rfl, rfl, rfl, rfl, rfl, rfl, rfl, trivial⟩) (subO_cat ⟨.inr rfl, trivial⟩ ⟨.inr rfl, .inr rfl, .inr rfl, .inr rfl, .inr rfl, trivial⟩) (subK_cat trivial trivial) rfl rfl rfl (by simp [ltOB, natC, AV.lt, spanC]) rfl)⟩
          · refine zk ?_
            exact ⟨trivial, (le_fit (sub_cat trivial ⟨rfl, rfl, rfl, rfl, rfl, rfl, rfl, rfl, rfl, rfl, rfl, rfl, rfl, rfl, rfl, rfl, rfl, rfl, rfl, trivial⟩) (subO_cat ⟨.inr rfl, trivial⟩ ⟨.inr rfl, .inr rfl, .inr rfl, .inr rfl, .inr rfl, trivial⟩) (subK_cat trivial trivial) rfl rfl rfl (by simp [ltOB, natC, AV.lt, spanC]) rfl)⟩
          refine W.of_le (s' := ⟨[(1, .int _ _), (2, .int _ _), (4, .ptr 0 0 0), (7, .ptr 1 0 0), (13, .int _ _), (14, .row 2 0 _), (17, .ro _), (20, .int _ _), (21, .ptr 3 0 0), (22, .int _ _), (23, .ptr 4 0 0), (24, .ptr 5 0 0), (58, .int _ _), (59, .int _ _), (72, .int _ _), (73, .int _ _), (85, .ro _), (86, .int _ _), (87, .int _ _)], [(5, some ⟨28, 2, 0, [spanC (bif _ then ⟨pad, pad⟩ else s)]⟩), (0, some ⟨_, _, _, _⟩), (1, some ⟨_, _, _, _⟩), (2, some ⟨_, _, _, _⟩), (3, some ⟨_, _, _, _⟩), (4, some ⟨_, _, _, _⟩)], [], 6⟩) (le_fit ⟨rfl, rfl, rfl, rfl, rfl, rfl, rfl, rfl, rfl, rfl, rfl, rfl, rfl, rfl, rfl, rfl, rfl, rfl, rfl, trivial⟩ ⟨.inr rfl, .inr rfl, .inr rfl, .inr rfl, .inr rfl, .inr rfl, trivial⟩ trivial rfl rfl rfl (by simp [ltOB, natC, AV.lt, spanC]) rfl) ?_
          refine zs ?_
          refine zR ?_
          refine zLG [.int _ _, .int _ _] ?_
          refine zLP ?_
          refine zLI ?_
          refine zLc (hTm) ?_
          refine zLT [_, _] ?_
          refine zLG [.int _ _, .int _ _] ?_
          refine zLI ?_
          refine zst (.agg [.int _ _, .int _ _]) [_, _] [[_, _]] ?_
          refine zn ?_
          refine zs ?_
          refine zR ?_
          refine zLG [.int _ _, .int _ _] ?_
          refine zLG [.int _ _, .int _ _] ?_
          refine zLc (hAd) ?_
          refine zLT [_, _] ?_
          refine zLG [.int _ _, .int _ _] ?_
          refine zLI ?_
          refine zst (.agg [.int _ _, .int _ _]) [_, _] [[_, _]] ?_
          refine zn ?_
          refine zs ?_
          refine W_draw 4 Tb_mixed rfl (by decide) (by kernel_rfl) (by kernel_rfl) ?_
          refine zEc (depth_word) ?_
          refine zEG [.int _ _, .int _ _] ?_
          refine zEc (span_Holds wordS (pre (L.getD k default) i (j + 1))) ?_
          refine zEB ?_
          refine LexE_nil ?_
          refine zn ?_
          refine W_cond (b := _) rfl (fun h115 => ?_) (fun h115 => ?_)
          · have hbk : brk (L.getD k default) i ((bearsF n (L.take k)).getD i 0) = j := by rw [← ho]; exact brk_eq (by omega) hfj (fun _ => by simpa [okW] using h115)
            refine zs ?_
            refine zR ?_
            refine zLW ?_
            refine zLI ?_
            refine zLI ?_
            (refine L_v Tb_ok (v := _) (ave_index_row rfl rfl rfl rfl rfl rfl (by omega) (by omega) trivial) rfl ?_)
            refine L_store_at Tb_ok (f := natC) (xs := bW n L k i) (i) (j) rfl rfl (by simp) (by rw [bW_len (by omega)]; omega) rfl rfl rfl rfl rfl rfl rfl ⟨trivial, trivial⟩ ?_
            refine zn ?_
            refine W_exit ?_
            repeat (first | refine pass_then ?_ | refine pass_forF ?_ | refine blockQ_miss rfl ?_)
            refine blockQ_hit ?_
            refine zR ?_
            refine zLI ?_
            refine zLI ?_
            refine zn ?_
            refine for_end hit (le_fit (sub_cat ⟨congrArg _ (w_succ hit (by omega)), trivial⟩ ⟨rfl, rfl, rfl, rfl, rfl, rfl, rfl, rfl, rfl, rfl, trivial⟩) (subO_cat ⟨.inr (by (rw [← bW_set (by omega) hit hbk]; rfl)), trivial⟩ ⟨.inr rfl, .inr rfl, trivial⟩) (subK_cat trivial trivial) rfl rfl rfl (by simp [ltOB, natC, AV.lt]) rfl)
          · refine zk ?_
            refine zR ?_
            refine zLI ?_
            refine zLI ?_
            refine zn ?_
            refine forF_end hjt (all_snoc hfj (by simpa [okW] using h115)) (le_fit (sub_cat ⟨congrArg _ (w_succ hjt (by omega)), trivial⟩ ⟨rfl, rfl, rfl, rfl, rfl, rfl, rfl, rfl, rfl, rfl, rfl, rfl, rfl, rfl, rfl, trivial⟩) (subO_cat ⟨.inr rfl, trivial⟩ ⟨.inr rfl, .inr rfl, .inr rfl, trivial⟩) (subK_cat trivial trivial) rfl rfl rfl (by simp [ltOB, natC, AV.lt, spanC]) rfl)
        · have hje : j = o := by (have := of_decide_eq_false h88; rw [List.length_map, hdl] at this; omega)
          have hbk : brk (L.getD k default) i ((bearsF n (L.take k)).getD i 0) = (bearsF n (L.take k)).getD i 0 := by rw [← ho]; exact brk_eq (Nat.le_refl _) (by rw [← hje]; exact hfj) (fun h => absurd h (Nat.lt_irrefl _))
          refine W_exit ?_
          repeat (first | refine pass_then ?_ | refine pass_forF ?_)
          refine blockQ_hit ?_
          refine zR ?_
          refine zLI ?_
          refine zLI ?_
          refine zn ?_
          refine for_end hit (le_fit (sub_cat ⟨congrArg _ (w_succ hit (by omega)), trivial⟩ ⟨rfl, rfl, rfl, rfl, rfl, rfl, rfl, rfl, rfl, rfl, trivial⟩) (subO_cat ⟨.inr (by (rw [← bW_same (by omega) hit hbk]; rfl)), trivial⟩ ⟨.inr rfl, .inr rfl, trivial⟩) (subK_cat trivial trivial) rfl rfl rfl (by simp [ltOB, natC, AV.lt]) rfl)
      · have hie : i = n := by (have := of_decide_eq_false h74; omega)
        refine W_exit ?_
        repeat (first | refine pass_then ?_ | refine pass_for ?_)
        refine blockQ_hit ?_
        refine zR ?_
        refine zLI ?_
        refine zLI ?_
        refine zn ?_
        refine for_end hkt (le_fit (sub_cat ⟨congrArg _ (w_succ hkt (by omega)), trivial⟩ ⟨rfl, rfl, rfl, rfl, rfl, rfl, rfl, trivial⟩) (subO_cat ⟨.inr (by rw [hie, bW_end]; rfl), trivial⟩ ⟨.inr rfl, .inr rfl, trivial⟩) (subK_cat trivial trivial) rfl rfl rfl (by simp [ltOB, natC, AV.lt]) rfl)
    · have hke : k = P := by (have := of_decide_eq_false h60; omega)
      refine W_exit ?_
      repeat (first | refine pass_then ?_ | refine pass_for ?_)
      refine blockQ_hit ?_
      refine zs ?_
      refine zR ?_
      refine L_give (f := natC) (xs := bearsF n (L.take k)) 14 rfl rfl (by simp [bears_len]) rfl rfl (fun _ => rfl) (fun _ => rfl) ?_
      refine zLO ?_
      refine zLO ?_
      refine zn ?_
      refine zt ?_
      (refine ends (l := [.ro _]) (q := .ro _) (.inr rfl) rfl ⟨trivial, trivial⟩ rfl rfl ?_)
      rw [hke, ← hLl, List.take_length]
end Go.AM
end
section
open Go Go.AM Go.Proofs
set_option maxRecDepth 10000
set_option linter.unusedVariables false
set_option linter.unusedSimpArgs false
namespace Go.AM
section
variable {m : Model} (hm : m.Wf) {op ch : Int} {s : Span} (hs : askE m op ch s = 0)
include hm hs
theorem bear_H : BearH m op ch s (findS m op).Len.toNat (posN m op) (findS m op).Op.Pad (rowsF m op ch s) (fun k => termsF m op ch k) (endF (findS m op).Op.Pad s) := by
  obtain ⟨z, hs', f0⟩ := askE_zero hs
  obtain ⟨_, fb, _⟩ := ofE_op z
  obtain ⟨hS, ⟨o1, o2⟩, hop, he, _⟩ := site_ok f0
  obtain ⟨hch, _⟩ := (ofBad_iff hS).1 fb
  have hn := (whole_ok he).1
  have ow : IntKind.i64.wrap (op - 1) = op - 1 := w64_id (by omega)
  have hLb := hS.len
  obtain ⟨p1, p2, p3⟩ := out_pos hS
  have hP := terms_Positions m op
  rw [f0, p1, show (findS m op).Out.H * (findS m op).Out.W = (posN m op : Int) by unfold posN; omega] at hP
  have hL := terms_Length m op
  rw [f0, show (findS m op).Len = (((findS m op).Len.toNat : Nat) : Int) by omega] at hL
  refine ⟨by omega, ?_, hL, hP, fun k hk => ⟨biasF m op ch k, ?_⟩, fun k hk => terms_len hm hs hk, fun k hk => by simp [rowsF, rowF, List.getD_eq_getElem?_getD, hk], by simp [rowsF], fun k => termsF_W hm op ch k, fun t => rfl, fun k => end_ok hm hs _, hs', (pad_bd hS).1, by rw [ow]; omega, by rw [ow]; omega, by rw [ow, hop]⟩
  · have O := shapeB_iff.1 hS.outB
    have : (findS m op).Out.H * (findS m op).Out.W ≤ 1024 * 1024 := Int.mul_le_mul O.1.2 O.2.1.2 (by omega) (by omega)
    unfold posN; omega
  · have hb : ofBad (findS m op) ch k = false := (ofBad_iff hS).2 ⟨hch, by omega, by unfold posN at hk; omega⟩
    have := terms_Of m op ch k
    rwa [show ofE m op ch k = 0 by unfold ofE; rw [if_pos f0, if_neg (by rw [hb]; simp)]] at this
theorem depth_bears : Ok Try.prog 62 [.agg (modelC m), .int .i64 op, .int .i64 ch, .agg (spanC s)] (.ro ((bearsF (findS m op).Len.toNat (rowsF m op ch s)).map natC)) := depth_bears' (bear_H hm hs)
theorem okW_key {D : Nat} (h1 : 1 ≤ D) (h2 : D ≤ (findS m op).Len.toNat) : okW (partS m op ch s (D : Int)) = true ↔ (∀ i, i < (findS m op).Len.toNat → 1 ≤ (bearsF (findS m op).Len.toNat (rowsF m op ch s)).getD i 0) ∧ okK (bearsF (findS m op).Len.toNat (rowsF m op ch s)) D := by
  rw [okW_in hm hs ((partE_ok hm hs).2 ⟨by omega, by omega⟩), Int.toNat_natCast]
  exact depth_key (rows_ok hm hs) h1 h2
theorem most_fin {k : Nat} (hz : ∀ i, i < (findS m op).Len.toNat → 1 ≤ (bearsF (findS m op).Len.toNat (rowsF m op ch s)).getD i 0) (hk : k ≤ (findS m op).Len.toNat) (h1 : k = 0 ∨ okK (bearsF (findS m op).Len.toNat (rowsF m op ch s)) k)
    (h2 : ∀ j, k < j → j ≤ (findS m op).Len.toNat → ¬ okK (bearsF (findS m op).Len.toNat (rowsF m op ch s)) j) : mostM m op ch s = k := by
  refine mostD_eq hk ?_ (fun j h3 h4 => ?_)
  · by_cases c : k = 0
    · exact .inl c
    · right
      rcases h1 with h1 | h1
      · exact absurd h1 c
      · exact (okW_key hm hs (by omega) hk).2 ⟨hz, h1⟩
  · cases e : okW (partS m op ch s (j : Int)) with
    | false => rfl
    | true => exact absurd ((okW_key hm hs (by omega) h4).1 e).2 (h2 j h3 h4)
theorem most_zero {i : Nat} (hi : i < (findS m op).Len.toNat) (hz : (bearsF (findS m op).Len.toNat (rowsF m op ch s)).getD i 0 = 0) : mostM m op ch s = 0 := by
  refine mostD_eq (Nat.zero_le _) (.inl rfl) (fun j h3 h4 => ?_)
  cases e : okW (partS m op ch s (j : Int)) with
  | false => rfl
  | true => have := ((okW_key hm hs (by omega) h4).1 e).1 i hi; omega
end
theorem mod_gap {k i q : Nat} (hk : 0 < k) (hi : i % k = 0) (hq : q % k = 0) (h1 : i ≤ q) (h2 : q < i + k) : q = i := by
  have e1 := Nat.div_add_mod i k
  have e2 := Nat.div_add_mod q k
  rw [hi, Nat.add_zero] at e1
  rw [hq, Nat.add_zero] at e2
  have : q / k = i / k := by
    have a : i / k ≤ q / k := Nat.div_le_div_right h1
    have b : q / k < i / k + 1 := by
      rw [Nat.div_lt_iff_lt_mul hk, Nat.add_mul, Nat.one_mul, Nat.mul_comm]; omega
    omega
  rw [← e1, ← e2, this]
def mostS (m : Model) (op ch : Int) (s : Span) : Int := if askE m op ch s = 0 then (mostM m op ch s : Int) else 0
theorem depth_Most (m : Model) (hm : m.Wf) (op ch : Int) (s : Span) : Ok Try.prog 27 [.agg (modelC m), .int .i64 op, .int .i64 ch, .agg (spanC s)] (.tup [.int .i64 (mostS m op ch s), .int .i64 (askE m op ch s)]) := by
  have hP := bound_Product m hm op ch s
  rw [partE_one] at hP
  have hB := fun hz : askE m op ch s = 0 => depth_bears hm hz
  have hfin := fun (hz : askE m op ch s = 0) k => @most_fin m hm op ch s hz k
  have hzer := fun (hz : askE m op ch s = 0) i => @most_zero m hm op ch s hz i
  have hnb := fun hz : askE m op ch s = 0 => (bear_H hm hz).hn
  have hm0 : ∀ hz : askE m op ch s = 0, mostS m op ch s = (mostM m op ch s : Int) := fun hz => by rw [mostS, if_pos hz]
  have hm1 : ∀ hz : ¬ askE m op ch s = 0, mostS m op ch s = 0 := fun hz => by rw [mostS, if_neg hz]
  generalize (findS m op).Len.toNat = n at *
  have hBl := bears_len n (rowsF m op ch s)
  generalize bearsF n (rowsF m op ch s) = B at *
--@@2
  skip
  refine fn_ok Tb_ok (fn := Try.f27) Try.func27 rfl rfl (e := [(0, _), (1, _), (2, _), (3, _)]) rfl (by decide) rfl ?_
  refine zs ?_
  refine zR ?_
  refine zbx [.int _ _, .int _ _, .int _ _, .int _ _, .int _ _, _, .int _ _] 7 ?_
  refine zbx [.int _ _, .int _ _] 2 ?_
  refine zLI ?_
  refine zLI ?_
  refine zn ?_
  refine W_scope 0 (fun k : {k : Nat // (askE m op ch s = 0 ∧ n ≤ 512 ∧ ∀ i, i < n → 1 ≤ B.getD i 0) ∧ k ≤ n ∧ ∀ j, k < j → j ≤ n → ¬ okK B j} => ⟨[(12, .ro (B.map natC)), (13, .int .i64 (k.1 : Int))], [], [], 0⟩) (fun k => k.1) rfl ?_ ?_
  · rintro ⟨k, ⟨hz, hnn, hno⟩, hk, hf⟩
    dsimp only
    refine zs ?_
    refine zs ?_
    refine zR ?_
    refine zLI ?_
    refine zn ?_
    refine W_block ?_
    refine W_inv (ι := {i : Nat // i % k = 0 ∧ ∀ q, q % k = 0 → q < i → q < n → min k (n - q) ≤ B.getD q 0}) (fun i => ⟨[(12, .ro (B.map natC)), (13, .int .i64 (k : Int)), (14, .int .i64 (i.1 : Int))], [], [], 0⟩) (fun i => n - i.1) ⟨0, Nat.zero_mod _, fun q h1 h2 => absurd h2 (Nat.not_lt_zero _)⟩ (le_fit ⟨rfl, rfl, rfl, trivial⟩ trivial trivial rfl rfl rfl rfl rfl) ?_
    rintro ⟨i, hi, hfi⟩
    dsimp only
    refine zs ?_
    refine zs ?_
    refine zR ?_
    refine zLI ?_
    refine zLB ?_
    refine zLB ?_
    refine zgLI ?_
    refine zgLO ?_
    refine zgLI ?_
    refine zgLB ?_
    refine zpLB ?_
    refine zn ?_
    refine W_cond (b := _) rfl (fun h42 => ?_) (fun h42 => ?_)
    · have hk0 : 0 < k ∧ i < n := by
        have q : (bif decide ((k : Int) > 0) then decide ((i : Int) < ((B.map natC).length : Int)) else false) = true := h42
        rw [List.length_map, hBl] at q
        by_cases c : (k : Int) > 0
        · rw [decide_eq_true c, cond_true, decide_eq_true_eq] at q; omega
        · rw [decide_eq_false c] at q; cases q
      obtain ⟨hk0, hin⟩ := hk0
      have hwi : IntKind.i64.wrap (((B.map natC).length : Int) - (i : Int)) = ((n - i : Nat) : Int) := by rw [List.length_map, hBl]; exact (w64_id (by omega)).trans (by omega)
      refine zk ?_
      refine zs ?_
      refine W_block ?_
      refine zs ?_
      refine zR ?_
      refine zLO ?_
      refine zLI ?_
      (refine L_v Tb_ok (v := _) (ave_index_ro rfl rfl rfl (fun _ => rfl) rfl (by first | omega | (rw [hBl]; omega)) (by first | omega | (rw [hBl]; omega)) trivial) rfl ?_)
      refine zLI ?_
      refine zLI ?_
      refine zLO ?_
      refine zLI ?_
      refine zLI ?_
      refine zLI ?_
      simp only [hwi]
      refine zLI ?_
      refine zLB ?_
      refine zn ?_
      refine W_cond (b := _) rfl (fun h56 => ?_) (fun h56 => ?_)
      · have hlt : ¬ min k (n - i) ≤ B.getD i 0 := by
          have q := of_decide_eq_true h56
          rw [Int.toNat_natCast] at q
          have q2 : ((B.getD i 0 : Nat) : Int) < (if ((n - i : Nat) : Int) < (k : Int) then ((n - i : Nat) : Int) else (k : Int)) := q
          split at q2 <;> omega
        have hbad : ¬ okK B k := fun q => hlt (by have := q i hi (by rw [hBl]; exact hin); rwa [hBl] at this)
        refine zs ?_
        refine zR ?_
        refine zLI ?_
        refine zLI ?_
        refine zLI ?_
        refine zn ?_
        refine W_goto ?_
        repeat (first | refine gpass_then ?_ | refine gpass_round ?_ | refine gpass_block ?_)
        exact jump_end (I := fun k : {k : Nat // (askE m op ch s = 0 ∧ n ≤ 512 ∧ ∀ i, i < n → 1 ≤ B.getD i 0) ∧ k ≤ n ∧ ∀ j, k < j → j ≤ n → ¬ okK B j} => ⟨[(12, .ro (B.map natC)), (13, .int .i64 (k.1 : Int))], [], [], 0⟩) ⟨k - 1, ⟨hz, hnn, hno⟩, by omega, fun j h1 h2 => by
          by_cases e : j = k
          · rw [e]; exact hbad
          · exact hf j (by omega) h2⟩ (by dsimp only; omega) (le_fit ⟨rfl, congrArg (AV.int .i64) (show IntKind.i64.wrap ((k : Int) - 1) = ((k - 1 : Nat) : Int) from (w64_id (by omega)).trans (by omega)), trivial⟩ trivial trivial rfl rfl rfl rfl rfl)
      · have hokq : min k (n - i) ≤ B.getD i 0 := by
          have q := of_decide_eq_false h56
          rw [Int.toNat_natCast] at q
          have q2 : ¬ ((B.getD i 0 : Nat) : Int) < (if ((n - i : Nat) : Int) < (k : Int) then ((n - i : Nat) : Int) else (k : Int)) := q
          split at q2 <;> omega
        refine zk ?_
        refine zR ?_
        refine zLI ?_
        refine zLI ?_
        refine zLI ?_
        refine zLI ?_
        refine zn ?_
        refine round_end (Q := fun _ _ => True) ⟨i + k, by rw [Nat.add_mod_right]; exact hi, fun q h1 h2 h3 => ?_⟩ (by dsimp only; omega) (le_fit ⟨rfl, rfl, congrArg (AV.int .i64) (show IntKind.i64.wrap ((i : Int) + (k : Int)) = ((i + k : Nat) : Int) from (w64_id (by omega)).trans (by omega)), trivial⟩ trivial trivial rfl rfl rfl rfl rfl)
        by_cases e : q < i
        · exact hfi q h1 e h3
        · have : q = i := mod_gap hk0 hi h1 (by omega) h2
          rw [this]; exact hokq
    · have hk1 : k = 0 ∨ n ≤ i := by
        have q : (bif decide ((k : Int) > 0) then decide ((i : Int) < ((B.map natC).length : Int)) else false) = false := h42
        rw [List.length_map, hBl] at q
        by_cases c : (k : Int) > 0
        · rw [decide_eq_true c, cond_true, decide_eq_false_iff_not] at q; omega
        · omega
      have hend : k = 0 ∨ okK B k := by
        rcases hk1 with h1 | h1
        · exact .inl h1
        · right; intro q h2 h3; rw [hBl] at h3 ⊢; exact hfi q h2 (by omega) h3
      refine W_exit ?_
      repeat (first | refine pass_then ?_ | refine pass_round ?_)
      refine blockQ_hit ?_
      refine zs ?_
      refine zR ?_
      refine zLI ?_
      refine zLI ?_
      refine zLI ?_
      refine zn ?_
      refine zt ?_
      refine ends (l := [.int _ _, .int _ _]) (q := .tup [.int _ _, .int _ _]) (.inr rfl) rfl ⟨trivial, trivial, trivial⟩ rfl rfl ?_
      rw [hm0 hz, hfin hz k hno hk hend hf, hz]
  · intro hlab
    refine zs ?_
    refine zs ?_
    refine zR ?_
    refine zLG [.int _ _, .int _ _, .int _ _, .int _ _, .int _ _, _, .int _ _] ?_
    refine zLI ?_
    refine zLI ?_
    refine zLG [.int _ _, .int _ _] ?_
    refine zLc (hP) ?_
    refine zLT [_, _] ?_
    refine zLG [.int _ _, .int _ _] ?_
    refine zLI ?_
    refine zal [.int .i64 0, .int .i64 0] 2 ?_
    refine zst (.agg [.int _ _, .int _ _]) [_, _] [[_, _]] ?_
    refine zLI ?_
    refine zn ?_
    refine zs ?_
    refine zR ?_
    refine zLI ?_
    refine zLB ?_
    refine zn ?_
    refine W_cond (b := _) rfl (fun h24 => ?_) (fun h24 => ?_)
    · have hz : ¬ askE m op ch s = 0 := by simpa using h24
      refine zs ?_
      refine zR ?_
      refine zLI ?_
      refine zLI ?_
      refine zLI ?_
      refine zn ?_
      refine zt ?_
      refine ends (l := [.int _ _, .int _ _]) (q := .tup [.int _ _, .int _ _]) (.inr rfl) rfl ⟨trivial, trivial, trivial⟩ rfl rfl ?_
      rw [hm1 hz]
    · have hz : askE m op ch s = 0 := by simpa using h24
      have hnn := hnb hz
      have hfin := hfin hz
      have hzer := hzer hz
      refine zk ?_
      refine zs ?_
      refine zR ?_
      refine zLG [.int _ _, .int _ _, .int _ _, .int _ _, .int _ _, _, .int _ _] ?_
      refine zLI ?_
      refine zLI ?_
      refine zLG [.int _ _, .int _ _] ?_
      refine zLc (hB hz) ?_
      refine zLO ?_
      refine zn ?_
      refine zs ?_
      refine zs ?_
      refine zR ?_
      refine zLO ?_
      refine zLc (slices_Contains B 0 (by omega)) ?_
      refine zn ?_
      refine W_cond (b := _) rfl (fun h32 => ?_) (fun h32 => ?_)
      · have hx := of_decide_eq_true h32
        refine zs ?_
        refine zR ?_
        refine zLI ?_
        refine zLI ?_
        refine zn ?_
        refine zt ?_
        refine ends (l := [.int _ _, .int _ _]) (q := .tup [.int _ _, .int _ _]) (.inr rfl) rfl ⟨trivial, trivial, trivial⟩ rfl rfl ?_
        obtain ⟨i, h1, h2⟩ := hx
        rw [hm0 hz, hzer i (by omega) h2, hz]; rfl
      · have hx := of_decide_eq_false h32
        have hno : ∀ i, i < n → 1 ≤ B.getD i 0 := fun i hi => by
          have : B.getD i 0 ≠ 0 := fun q => hx ⟨i, by omega, q⟩
          omega
        refine zk ?_
        refine zs ?_
        refine zR ?_
        refine zLO ?_
        refine zLI ?_
        refine zLI ?_
        refine zn ?_
        exact hlab ⟨n, ⟨hz, hnn, hno⟩, Nat.le_refl _, fun j h1 h2 => by omega⟩ _ (le_fit ⟨rfl, congrArg (fun z : Nat => AV.int .i64 (z : Int)) ((List.length_map _).trans hBl), trivial⟩ trivial trivial rfl rfl rfl rfl rfl)
end Go.AM
end
section
open Go Go.AM Go.Proofs
set_option maxRecDepth 10000
set_option linter.unusedVariables false
set_option linter.unusedSimpArgs false
namespace Go.AM
theorem witnessMost (a : Ask23) (ha : a.Wf) : Ok Try.prog 13 [.agg (ask23C a)] (.bool true) := by
  obtain ⟨m, op, ch, s, d0⟩ := a
  obtain ⟨hm, _⟩ := ha
  dsimp only at hm
  show Ok Try.prog 13 [.agg (modelC m ++ ([.int .i64 op] ++ ([.int .i64 ch] ++ (spanC s ++ [.int .i64 d0]))))] (.bool true)
  have hM := depth_Most m hm op ch s
  have hL := terms_Length m op
  by_cases hz : askE m op ch s = 0
  · have f0 := (askE_zero hz).2.2
    have hLb := (site_ok f0).1.len
    obtain ⟨n, hn⟩ : ∃ n : Nat, n = (findS m op).Len.toNat := ⟨_, rfl⟩
    have hkn : mostM m op ch s ≤ n := by rw [hn]; exact mostD_le _ _
    rw [mostS, if_pos hz, hz] at hM
    rw [f0, show (findS m op).Len = (n : Int) by omega] at hL
    have hB1 : 0 < mostM m op ch s → Ok Try.prog 20 [.agg (modelC m), .int .i64 op, .int .i64 ch, .agg (spanC s), .int .i64 (mostM m op ch s : Int)] (.tup [.agg [.int .i64 0, .int .i64 0, .int .i64 0, .ro []], .bool false, .int .i64 0]) := fun h => by
      have hp : partE m op ch s (mostM m op ch s : Int) = 0 := (partE_ok hm hz).2 ⟨by omega, by omega⟩
      have ho : okW (partS m op ch s (mostM m op ch s : Int)) = true := mostD_ok (fun d : Nat => okW (partS m op ch s (d : Int))) _ (show mostM m op ch s ≠ 0 by omega)
      have := witness_Break_no m hm op ch s (mostM m op ch s : Int) (.inr (by unfold safeB; rw [hp]; exact ho))
      rw [hp] at this; exact this
    have hw : IntKind.i64.wrap ((mostM m op ch s : Int) + 1) = ((mostM m op ch s + 1 : Nat) : Int) := (w64_id (by omega)).trans (by omega)
    have hc40 : (bif (0 : Int) != 0 then true else (0 : Int) != 0) = false := rfl
    by_cases c : mostM m op ch s < n
    · have hp : partE m op ch s ((mostM m op ch s + 1 : Nat) : Int) = 0 := (partE_ok hm hz).2 ⟨by omega, by omega⟩
      have ho : okW (partS m op ch s ((mostM m op ch s + 1 : Nat) : Int)) = false := by
        cases e : okW (partS m op ch s ((mostM m op ch s + 1 : Nat) : Int)) with
        | false => rfl
        | true =>
          have := mostD_max (fun d : Nat => okW (partS m op ch s (d : Int))) (findS m op).Len.toNat (mostM m op ch s + 1) (by omega) e
          have e2 : mostD (fun d : Nat => okW (partS m op ch s (d : Int))) (findS m op).Len.toNat = mostM m op ch s := rfl
          omega
      obtain ⟨D, M, k', i, f, up, hd, hD, L, hB2⟩ := witness_Break hm hp (by unfold safeB; rw [hp]; exact ho)
      have hi := L.hi
      have htl := L.H.tl k'
      have hfi : f ≤ i ∧ i + 1 - f ≤ mostM m op ch s + 1 := by
        have hDD : D = mostM m op ch s + 1 := by omega
        have h1 := Nat.div_add_mod i D
        have h2 := Nat.mod_lt i (show D > 0 by omega)
        rw [Nat.mul_comm] at h1
        rcases L.hf with h | h <;> omega
      generalize mostM m op ch s = k at *
      have hc81 : decide ((k : Int) ≥ (n : Int)) = false := decide_eq_false (by omega)
      have hws : IntKind.i64.wrap (((i + 1 : Nat) : Int) - (f : Int)) = ((i + 1 - f : Nat) : Int) := (w64_id (by omega)).trans (by omega)
      --@@1
      skip
      refine fn_ok Tb_ok (fn := Try.f13) Try.func13 rfl rfl (e := [(0, _)]) rfl (by decide) rfl ?_
      refine zs ?_
      refine zR ?_
      refine zbx [.int _ _, .int _ _, .int _ _, .int _ _, .int _ _, _, .int _ _, .int _ _, .int _ _, .int _ _, .int _ _, .int _ _] 12 ?_
      refine zLB ?_
      refine zn ?_
      refine zs ?_
      refine zs ?_
      refine zR ?_
      refine zLc (law23_fixed) ?_
      refine zLB ?_
      refine zn ?_
      refine W_cond_f (b := _) rfl (by rfl) ?_
      refine zk ?_
      refine zs ?_
      refine zR ?_
      refine zLP ?_
      refine zLG [.int _ _, .int _ _, .int _ _, .int _ _, .int _ _, _, .int _ _] ?_
      refine zLP ?_
      refine zLI ?_
      refine zLP ?_
      refine zLI ?_
      refine zLP ?_
      refine zLG [.int _ _, .int _ _] ?_
      refine zLc (hM) ?_
      refine zLT [_, _] ?_
      refine zLI ?_
      refine zLI ?_
      refine zLI ?_
      refine zLI ?_
      refine zn ?_
      refine zs ?_
      refine zR ?_
      refine zLP ?_
      refine zLG [.int _ _, .int _ _, .int _ _, .int _ _, .int _ _, _, .int _ _] ?_
      refine zLP ?_
      refine zLI ?_
      refine zLc (hL) ?_
      refine zLT [_, _] ?_
      refine zLI ?_
      refine zLI ?_
      refine zLI ?_
      refine zLI ?_
      refine zn ?_
      refine zs ?_
      refine zs ?_
      refine zR ?_
      refine zLI ?_
      refine zLB ?_
      refine zLB ?_
      refine zgLI ?_
      refine zgLB ?_
      refine zpLB ?_
      refine zn ?_
      refine W_cond_f (b := _) rfl (by exact hc40) ?_
      refine zk ?_
      refine zs ?_
      refine zs ?_
      refine zR ?_
      refine zLI ?_
      refine zLB ?_
      refine zn ?_
      refine W_cond (b := _) rfl (fun h44 => ?_) (fun h44 => ?_)
      · have hk0 : 0 < k := by have : (k : Int) > 0 := of_decide_eq_true h44; omega
        refine zs ?_
        refine zR ?_
        refine zLP ?_
        refine zLG [.int _ _, .int _ _, .int _ _, .int _ _, .int _ _, _, .int _ _] ?_
        refine zLP ?_
        refine zLI ?_
        refine zLP ?_
        refine zLI ?_
        refine zLP ?_
        refine zLG [.int _ _, .int _ _] ?_
        refine zLI ?_
        refine zLc (hB1 hk0) ?_
        refine zLT [_, _, _] ?_
        refine zLG [.int _ _, .int _ _, .int _ _, _] ?_
        refine zLB ?_
        refine zLI ?_
        refine zal [.int .i64 0, .int .i64 0, .int .i64 0, .nils] 4 ?_
        refine zst (.agg [.int _ _, .int _ _, .int _ _, _]) [_, _, _, _] [[_, _, _, _]] ?_
        refine zLB ?_
        refine zLI ?_
        refine zn ?_
        refine zs ?_
        refine zR ?_
        refine zLB ?_
        refine zLB ?_
        refine zgLI ?_
        refine zgLB ?_
        refine zpLB ?_
        refine zn ?_
        refine W_cond_f (b := _) rfl (by rfl) ?_
        refine zk ?_
        refine zs ?_
        refine zR ?_
        refine zLP ?_
        refine zLG [.int _ _, .int _ _, .int _ _, .int _ _, .int _ _, _, .int _ _] ?_
        refine zLP ?_
        refine zLI ?_
        refine zLP ?_
        refine zLI ?_
        refine zLP ?_
        refine zLG [.int _ _, .int _ _] ?_
        refine zLI ?_
        refine zLI ?_
        simp only [hw]
        refine zLc (hB2) ?_
        refine zLT [_, _, _] ?_
        refine zLG [.int _ _, .int _ _, .int _ _, _] ?_
        refine zLB ?_
        refine zLI ?_
        refine zal [.int .i64 0, .int .i64 0, .int .i64 0, .nils] 4 ?_
        refine zst (.agg [.int _ _, .int _ _, .int _ _, _]) [_, _, _, _] [[_, _, _, _]] ?_
        refine zLB ?_
        refine zLI ?_
        refine zn ?_
        refine zs ?_
        refine zs ?_
        refine zR ?_
        refine zLI ?_
        refine zLI ?_
        refine zLB ?_
        refine zn ?_
        refine W_cond_f (b := _) rfl (by exact hc81) ?_
        refine zk ?_
        refine zs ?_
        refine zR ?_
        refine zLB ?_
        refine zLB ?_
        refine zgLI ?_
        refine zgLB ?_
        refine zpLB ?_
        refine zLB ?_
        refine zgLP ?_
        refine zgLI ?_
        refine zgLP ?_
        refine zgLI ?_
        refine zgLB ?_
        refine zpLB ?_
        refine zLB ?_
        refine zgLP ?_
        refine zgLI ?_
        refine zgLP ?_
        refine zgLI ?_
        refine zgLI ?_
        refine zgLI ?_
        refine zgLI ?_
        refine zgLB ?_
        refine zpLB ?_
        refine zLB ?_
        refine zn ?_
        refine zt ?_
        refine ends (l := [.bool _]) (q := .bool _) (.inr rfl) rfl ⟨trivial, trivial⟩ rfl rfl ?_
        rw [hws, hw, decide_eq_true (show ((i + 1 : Nat) : Int) > (f : Int) by omega), decide_eq_true (show ((i + 1 - f : Nat) : Int) ≤ ((k + 1 : Nat) : Int) by omega)]; rfl
      · refine zk ?_
        refine zs ?_
        refine zR ?_
        refine zLP ?_
        refine zLG [.int _ _, .int _ _, .int _ _, .int _ _, .int _ _, _, .int _ _] ?_
        refine zLP ?_
        refine zLI ?_
        refine zLP ?_
        refine zLI ?_
        refine zLP ?_
        refine zLG [.int _ _, .int _ _] ?_
        refine zLI ?_
        refine zLI ?_
        simp only [hw]
        refine zLc (hB2) ?_
        refine zLT [_, _, _] ?_
        refine zLG [.int _ _, .int _ _, .int _ _, _] ?_
        refine zLB ?_
        refine zLI ?_
        refine zal [.int .i64 0, .int .i64 0, .int .i64 0, .nils] 4 ?_
        refine zst (.agg [.int _ _, .int _ _, .int _ _, _]) [_, _, _, _] [[_, _, _, _]] ?_
        refine zLB ?_
        refine zLI ?_
        refine zn ?_
        refine zs ?_
        refine zs ?_
        refine zR ?_
        refine zLI ?_
        refine zLI ?_
        refine zLB ?_
        refine zn ?_
        refine W_cond_f (b := _) rfl (by exact hc81) ?_
        refine zk ?_
        refine zs ?_
        refine zR ?_
        refine zLB ?_
        refine zLB ?_
        refine zgLI ?_
        refine zgLB ?_
        refine zpLB ?_
        refine zLB ?_
        refine zgLP ?_
        refine zgLI ?_
        refine zgLP ?_
        refine zgLI ?_
        refine zgLB ?_
        refine zpLB ?_
        refine zLB ?_
        refine zgLP ?_
        refine zgLI ?_
        refine zgLP ?_
        refine zgLI ?_
        refine zgLI ?_
        refine zgLI ?_
        refine zgLI ?_
        refine zgLB ?_
        refine zpLB ?_
        refine zLB ?_
        refine zn ?_
        refine zt ?_
        refine ends (l := [.bool _]) (q := .bool _) (.inr rfl) rfl ⟨trivial, trivial⟩ rfl rfl ?_
        rw [hws, hw, decide_eq_true (show ((i + 1 : Nat) : Int) > (f : Int) by omega), decide_eq_true (show ((i + 1 - f : Nat) : Int) ≤ ((k + 1 : Nat) : Int) by omega)]; rfl
    · have hp : partE m op ch s ((mostM m op ch s + 1 : Nat) : Int) = 151 := by unfold partE; rw [if_pos hz, if_pos (by omega)]
      have hB2 := witness_Break_no m hm op ch s ((mostM m op ch s + 1 : Nat) : Int) (.inl (by rw [hp]; decide))
      rw [hp] at hB2
      generalize mostM m op ch s = k at *
      have hc81 : decide ((k : Int) ≥ (n : Int)) = true := decide_eq_true (by omega)
      --@@2
      skip
      refine fn_ok Tb_ok (fn := Try.f13) Try.func13 rfl rfl (e := [(0, _)]) rfl (by decide) rfl ?_
      refine zs ?_
      refine zR ?_
      refine zbx [.int _ _, .int _ _, .int _ _, .int _ _, .int _ _, _, .int _ _, .int _ _, .int _ _, .int _ _, .int _ _, .int _ _] 12 ?_
      refine zLB ?_
      refine zn ?_
      refine zs ?_
      refine zs ?_
      refine zR ?_
      refine zLc (law23_fixed) ?_
      refine zLB ?_
      refine zn ?_
      refine W_cond_f (b := _) rfl (by rfl) ?_
      refine zk ?_
      refine zs ?_
      refine zR ?_
      refine zLP ?_
      refine zLG [.int _ _, .int _ _, .int _ _, .int _ _, .int _ _, _, .int _ _] ?_
      refine zLP ?_
      refine zLI ?_
      refine zLP ?_
      refine zLI ?_
      refine zLP ?_
      refine zLG [.int _ _, .int _ _] ?_
      refine zLc (hM) ?_
      refine zLT [_, _] ?_
      refine zLI ?_
      refine zLI ?_
      refine zLI ?_
      refine zLI ?_
      refine zn ?_
      refine zs ?_
      refine zR ?_
      refine zLP ?_
      refine zLG [.int _ _, .int _ _, .int _ _, .int _ _, .int _ _, _, .int _ _] ?_
      refine zLP ?_
      refine zLI ?_
      refine zLc (hL) ?_
      refine zLT [_, _] ?_
      refine zLI ?_
      refine zLI ?_
      refine zLI ?_
      refine zLI ?_
      refine zn ?_
      refine zs ?_
      refine zs ?_
      refine zR ?_
      refine zLI ?_
      refine zLB ?_
      refine zLB ?_
      refine zgLI ?_
      refine zgLB ?_
      refine zpLB ?_
      refine zn ?_
      refine W_cond_f (b := _) rfl (by exact hc40) ?_
      refine zk ?_
      refine zs ?_
      refine zs ?_
      refine zR ?_
      refine zLI ?_
      refine zLB ?_
      refine zn ?_
      refine W_cond (b := _) rfl (fun h44 => ?_) (fun h44 => ?_)
      · have hk0 : 0 < k := by have : (k : Int) > 0 := of_decide_eq_true h44; omega
        refine zs ?_
        refine zR ?_
        refine zLP ?_
        refine zLG [.int _ _, .int _ _, .int _ _, .int _ _, .int _ _, _, .int _ _] ?_
        refine zLP ?_
        refine zLI ?_
        refine zLP ?_
        refine zLI ?_
        refine zLP ?_
        refine zLG [.int _ _, .int _ _] ?_
        refine zLI ?_
        refine zLc (hB1 hk0) ?_
        refine zLT [_, _, _] ?_
        refine zLG [.int _ _, .int _ _, .int _ _, _] ?_
        refine zLB ?_
        refine zLI ?_
        refine zal [.int .i64 0, .int .i64 0, .int .i64 0, .nils] 4 ?_
        refine zst (.agg [.int _ _, .int _ _, .int _ _, _]) [_, _, _, _] [[_, _, _, _]] ?_
        refine zLB ?_
        refine zLI ?_
        refine zn ?_
        refine zs ?_
        refine zR ?_
        refine zLB ?_
        refine zLB ?_
        refine zgLI ?_
        refine zgLB ?_
        refine zpLB ?_
        refine zn ?_
        refine W_cond_f (b := _) rfl (by rfl) ?_
        refine zk ?_
        refine zs ?_
        refine zR ?_
        refine zLP ?_
        refine zLG [.int _ _, .int _ _, .int _ _, .int _ _, .int _ _, _, .int _ _] ?_
        refine zLP ?_
        refine zLI ?_
        refine zLP ?_
        refine zLI ?_
        refine zLP ?_
        refine zLG [.int _ _, .int _ _] ?_
        refine zLI ?_
        refine zLI ?_
        simp only [hw]
        refine zLc (hB2) ?_
        refine zLT [_, _, _] ?_
        refine zLG [.int _ _, .int _ _, .int _ _, _] ?_
        refine zLB ?_
        refine zLI ?_
        refine zal [.int .i64 0, .int .i64 0, .int .i64 0, .nils] 4 ?_
        refine zst (.agg [.int _ _, .int _ _, .int _ _, _]) [_, _, _, _] [[_, _, _, _]] ?_
        refine zLB ?_
        refine zLI ?_
        refine zn ?_
        refine zs ?_
        refine zs ?_
        refine zR ?_
        refine zLI ?_
        refine zLI ?_
        refine zLB ?_
        refine zn ?_
        refine W_cond_t (b := _) rfl (by exact hc81) ?_
        refine zs ?_
        refine zR ?_
        refine zLB ?_
        refine zLB ?_
        refine zLB ?_
        refine zgLI ?_
        refine zgLB ?_
        refine zpLB ?_
        refine zLB ?_
        refine zn ?_
        refine zt ?_
        refine ends (l := [.bool _]) (q := .bool _) (.inr rfl) rfl ⟨trivial, trivial⟩ rfl rfl ?_
        rfl
      · refine zk ?_
        refine zs ?_
        refine zR ?_
        refine zLP ?_
        refine zLG [.int _ _, .int _ _, .int _ _, .int _ _, .int _ _, _, .int _ _] ?_
        refine zLP ?_
        refine zLI ?_
        refine zLP ?_
        refine zLI ?_
        refine zLP ?_
        refine zLG [.int _ _, .int _ _] ?_
        refine zLI ?_
        refine zLI ?_
        simp only [hw]
        refine zLc (hB2) ?_
        refine zLT [_, _, _] ?_
        refine zLG [.int _ _, .int _ _, .int _ _, _] ?_
        refine zLB ?_
        refine zLI ?_
        refine zal [.int .i64 0, .int .i64 0, .int .i64 0, .nils] 4 ?_
        refine zst (.agg [.int _ _, .int _ _, .int _ _, _]) [_, _, _, _] [[_, _, _, _]] ?_
        refine zLB ?_
        refine zLI ?_
        refine zn ?_
        refine zs ?_
        refine zs ?_
        refine zR ?_
        refine zLI ?_
        refine zLI ?_
        refine zLB ?_
        refine zn ?_
        refine W_cond_t (b := _) rfl (by exact hc81) ?_
        refine zs ?_
        refine zR ?_
        refine zLB ?_
        refine zLB ?_
        refine zLB ?_
        refine zgLI ?_
        refine zgLB ?_
        refine zpLB ?_
        refine zLB ?_
        refine zn ?_
        refine zt ?_
        refine ends (l := [.bool _]) (q := .bool _) (.inr rfl) rfl ⟨trivial, trivial⟩ rfl rfl ?_
        rfl
  · rw [mostS, if_neg hz] at hM
    have hc40 : (bif askE m op ch s != 0 then true else findE m op != 0) = true := by simp [hz]
    --@@3
    skip
    refine fn_ok Tb_ok (fn := Try.f13) Try.func13 rfl rfl (e := [(0, _)]) rfl (by decide) rfl ?_
    refine zs ?_
    refine zR ?_
    refine zbx [.int _ _, .int _ _, .int _ _, .int _ _, .int _ _, _, .int _ _, .int _ _, .int _ _, .int _ _, .int _ _, .int _ _] 12 ?_
    refine zLB ?_
    refine zn ?_
    refine zs ?_
    refine zs ?_
    refine zR ?_
    refine zLc (law23_fixed) ?_
    refine zLB ?_
    refine zn ?_
    refine W_cond_f (b := _) rfl (by rfl) ?_
    refine zk ?_
    refine zs ?_
    refine zR ?_
    refine zLP ?_
    refine zLG [.int _ _, .int _ _, .int _ _, .int _ _, .int _ _, _, .int _ _] ?_
    refine zLP ?_
    refine zLI ?_
    refine zLP ?_
    refine zLI ?_
    refine zLP ?_
    refine zLG [.int _ _, .int _ _] ?_
    refine zLc (hM) ?_
    refine zLT [_, _] ?_
    refine zLI ?_
    refine zLI ?_
    refine zLI ?_
    refine zLI ?_
    refine zn ?_
    refine zs ?_
    refine zR ?_
    refine zLP ?_
    refine zLG [.int _ _, .int _ _, .int _ _, .int _ _, .int _ _, _, .int _ _] ?_
    refine zLP ?_
    refine zLI ?_
    refine zLc (hL) ?_
    refine zLT [_, _] ?_
    refine zLI ?_
    refine zLI ?_
    refine zLI ?_
    refine zLI ?_
    refine zn ?_
    refine zs ?_
    refine zs ?_
    refine zR ?_
    refine zLI ?_
    refine zLB ?_
    refine zLB ?_
    refine zgLI ?_
    refine zgLB ?_
    refine zpLB ?_
    refine zn ?_
    refine W_cond_t (b := _) rfl (by exact hc40) ?_
    refine zs ?_
    refine zR ?_
    refine zLI ?_
    refine zLB ?_
    refine zLB ?_
    refine zn ?_
    refine zt ?_
    refine ends (l := [.bool _]) (q := .bool _) (.inr rfl) rfl ⟨trivial, trivial⟩ rfl rfl ?_
    rfl
end Go.AM
end
section
namespace Go.Proofs.Ytkcigpfdlplbdaa.witnessMost
open Go.ChangeShapes Go.WideShapes Go.ChangeAt Go.RowKit
open Go.ChangeMaps (open_string shut_string)
set_option linter.unusedVariables false
theorem own : ownKnob Try.prog.godebug = none := by kernel_rfl
theorem laidOut : laidOutB Try.prog = true := by kernel_rfl
set_option maxRecDepth 100000 in
theorem lifted (os : Os) (started : os.Started) (H : Type) (enc : TypeId × Value → H) :
    ReturnsInHanded {} Try.checked os 13 .any (Rows.witnessMostSpec.pre6 enc Try.prog Try.f13 Rows.witnessMostRow.domain false) (Rows.witnessMostSpec.post enc Try.prog Try.f13 false true false false) := by
  refine returnsInHanded_of_change_sized (C := Try.checked) own started (by kernel_rfl) Try.func13
    (ChangeSpec.witness6 (enc := enc) (C := Try.checked) false ⟨#[], #[.agg #[.int .i64 0, .int .i64 0, .int .i64 0, .int .i64 0, .int .i64 0, .slice none 0 0, .int .i64 0, .int .i64 0, .int .i64 0, .int .i64 0, .int .i64 0, .int .i64 0]], []⟩ 8 (by kernel_rfl) (by kernel_rfl) (by kernel_rfl) (by kernel_rfl)) ?_
  intro W base args ds gs before hval0 hW hcnd hsz0 _
  have hsz : (DataW.weightsEach Try.prog (Try.f13.params.toList ++ Rows.witnessMostSpec.plain.varTypes Try.prog) (ds ++ gs)).all (· ≤ reachBytes) = true := hsz0
  have hval : ∀ (j : Nat) t v, Try.f13.params[j]? = some t → args[j]? = some v → Value.okWide Try.prog W .any base t v := hval0
  have hW' := hW
  obtain ⟨p, q, hA0, hV, rfl, hfz, hnd⟩ := hW
  have hA : DataW.TrodAll enc Try.prog W 0 (fun _ => true) true Try.f13.params.toList args.toList ds p := hA0
  rw [Try.params13] at hA hval hsz
  obtain ⟨v0, vs0, d0, ds0, p0, q0, hargs, rfl, rfl, h0, r0⟩ := trodAll_cons hA
  obtain ⟨rfl, rfl, rfl⟩ := trodAll_nil r0
  obtain rfl : args = #[v0] := by cases args; simp_all
  obtain ⟨rfl, rfl⟩ := trodVars_none hV
  have k0 := h0
  have lt0 : ∀ x ∈ p0, x.block < W.heap.size := by obtain ⟨m, hm⟩ := k0; exact DataW.trod_lt m _ _ _ hm
  obtain ⟨y0, K0, w0⟩ := Go.AM.Opn.arg Go.AM.arg0 h0 (j := 0) (t := 30) hsz rfl rfl
  have R0 := Go.AM.arg_agg Try.underlying30 (hval 0 30 v0 rfl rfl) K0
  clear hA0 hval0 hsz0 hsz
  refine (Go.AM.Ok.law (Go.AM.witnessMost y0 w0) (Go.AM.rel1 R0)).mono fun e W' ⟨he, bel⟩ => ?_
  subst he
  exact ⟨_, rfl, _, _, _, [], _, [], hW', trodAll_mk1 (shut_bool Try.underlying4 _), (trodAll_cons_mk (Below.trod laidOut (by kernel_rfl) (of_decide_eq_true (by kernel_rfl)) k0 bel lt0) trodAll_mk0), rfl, bel.frame _, fun h => by cases h⟩
theorem over : Rows.witnessMostRow.holds Try.pinned (OpenSpec.ofChange Rows.witnessMostSpec) :=
  OpenClaim.holds_of_wide 13 Try.f13 rfl rfl rfl rfl rfl rfl rfl ⟨rfl, rfl, rfl, rfl, rfl⟩ rfl rfl rfl rfl rfl (by kernel_rfl) Try.func13 (by kernel_rfl)
    (of_decide_eq_true (by kernel_rfl)) (by unfold Func.isWrapper; first | (rw [if_pos (by decide +kernel)]; kernel_rfl) | (rw [if_neg (by decide +kernel)]; exact ⟨rfl, rfl⟩))
    (fun os started H enc _ => lifted os started H enc)
theorem proved : Rows.WitnessMostSaid := over
end Go.Proofs.Ytkcigpfdlplbdaa.witnessMost
namespace Go.Proofs.Ytkcigpfdlplbdaa
/-- The row, under a short name, for the claim. -/
theorem witnessMost_holds : Rows.WitnessMostSaid := witnessMost.proved
end Go.Proofs.Ytkcigpfdlplbdaa
end
