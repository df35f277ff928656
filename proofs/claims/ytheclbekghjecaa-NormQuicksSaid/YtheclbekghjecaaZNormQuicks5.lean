/- The law NormQuicks answers true, whatever its arguments: part 6 of 6 of its proof. -/
import Derived.Test.YtheclbekghjecaaRows
import Derived.WalkKit
import Derived.Test.YtheclbekghjecaaZNormQuicks4
section
open Go Go.AM Go.Proofs
set_option maxRecDepth 10000
set_option linter.unusedVariables false
set_option linter.unusedSimpArgs false
namespace Go.AM
theorem take_snoc' {α : Type} [Inhabited α] {l : List α} {k : Nat} {v : α} (h : k < l.length) (hv : l.getD k default = v) : l.take k ++ [v] = l.take (k + 1) := by
  rw [List.take_add_one, ← hv]; simp [List.getD_eq_getElem?_getD, h]
theorem ref10_weight {s : Site} (hS : SiteOk s) (hln : lenF s.Op s.In = s.Len) {ch : Int} (hch : 1 ≤ ch ∧ ch ≤ s.Out.C) {i : Nat} (hi : i < s.Len.toNat) : Ok Try.prog 34 [.agg (rsiteC s), .int .i64 ch, .int .i64 (i : Int)] (.int .i64 (wtF s ch i)) := by
  have hl := hS.len
  have O := shapeB_iff.1 hS.outB
  have b2 : ch * s.Len ≤ 1024 * 512 := Int.mul_le_mul (by omega) hl.2 (by omega) (by omega)
  have hb : s.Op.Kind ≠ 4 → 0 ≤ w64 (w64 (w64 (ch - 1) * s.Len) + i) ∧ w64 (w64 (w64 (ch - 1) * s.Len) + i) < s.Op.Weights.length := by
    intro k4
    obtain ⟨w1, w2, w3, w4, w5, w6, w7⟩ := of_weights hS k4 hch
    have e : w64 (w64 (w64 (ch - 1) * s.Len) + (i : Int)) = (ch - 1) * s.Len + i := by rw [w1, w2]; exact w64_id (by omega)
    rw [e]; omega
  have hL := ref10_Length s
  rw [hln] at hL
  refine fn_ok Tb_ok (fn := Try.f34) Try.func34 rfl rfl (e := [(0, _), (1, _), (2, _)]) rfl (by decide) rfl ?_
  refine W_seq ?_
  refine W_region rfl ?_
  refine L_box Tb_ok (cs := [.int _ _, .int _ _, .int _ _, .int _ _, .int _ _, .int _ _, .int _ _, .int _ _, .int _ _, .int _ _, .int _ _, .int _ _, _, _, .int _ _, .int _ _, .int _ _, .int _ _, .int _ _, .int _ _, .int _ _, .int _ _, .int _ _, .int _ _, .int _ _, .int _ _, .int _ _, .int _ _]) (n := 28) rfl rfl rfl rfl trivial ?_
  refine L_v Tb_ok (v := .int _ _) (av rfl ⟨trivial, trivial⟩) rfl ?_
  refine WL_nil ?_
  refine W_seq ?_
  refine W_seq ?_
  refine W_region rfl ?_
  refine L_v Tb_ok (v := .ptr _ _ _) (av rfl ⟨trivial, trivial⟩) rfl ?_
  refine L_v Tb_ok (v := .ptr _ _ _) (av rfl ⟨trivial, trivial⟩) rfl ?_
  refine L_v Tb_ok (v := .int _ _) (av rfl ⟨trivial, rfl⟩) rfl ?_
  refine L_v Tb_ok (v := .bool _) (av rfl ⟨trivial, trivial⟩) rfl ?_
  refine WL_nil ?_
  refine W_cond (b := _) rfl (fun h10 => ?_) (fun h10 => ?_)
  · refine W_seq ?_
    refine W_region rfl ?_
    refine L_v Tb_ok (v := .int _ _) (av rfl ⟨trivial, trivial⟩) rfl ?_
    refine WL_nil ?_
    refine W_ret ?_
    refine ends (l := [.int _ _]) (q := .int _ _) (.inr rfl) rfl ⟨trivial, trivial⟩ rfl rfl ?_
    have hk : s.Op.Kind = 4 := by simpa using h10
    simp [wtF, hk]
  · have hk : s.Op.Kind ≠ 4 := by simpa using h10
    obtain ⟨b0, b1⟩ := hb hk
    refine W_skip ?_
    refine W_seq ?_
    refine W_draw 14 Tb_mixed rfl (by decide) (by kernel_rfl) (by kernel_rfl) ?_
    refine E_v Tb_ok (v := .ptr _ _ _) (av rfl ⟨trivial, trivial⟩) rfl ?_
    refine E_v Tb_ok (v := .ptr _ _ _) (av rfl ⟨trivial, trivial⟩) rfl ?_
    first | (refine E_v Tb_ok (v := .ro _) (av rfl ⟨trivial, rfl⟩) rfl ?_) | (refine E_v Tb_ok (v := .app _ _) (av rfl ⟨trivial, rfl⟩) rfl ?_) | (refine E_v Tb_ok (v := .row _ _ _) (av rfl ⟨trivial, rfl⟩) rfl ?_) | (refine E_v Tb_ok (v := .nils) (av rfl ⟨trivial, rfl⟩) rfl ?_)
    refine E_v Tb_ok (v := .int _ _) (av rfl ⟨trivial, trivial⟩) rfl ?_
    refine E_v Tb_ok (v := .int _ _) (av rfl ⟨trivial, trivial⟩) rfl ?_
    refine E_v Tb_ok (v := .agg [.int _ _, .int _ _, .int _ _, .int _ _, .int _ _, .int _ _, .int _ _, .int _ _, .int _ _, .int _ _, .int _ _, .int _ _, _, _, .int _ _, .int _ _, .int _ _, .int _ _, .int _ _, .int _ _, .int _ _, .int _ _, .int _ _, .int _ _, .int _ _, .int _ _, .int _ _, .int _ _]) (av rfl ⟨trivial, rfl⟩) rfl ?_
    refine E_call (hr := hL) rfl rfl trivial rfl rfl ?_
    refine E_v Tb_ok (v := .int _ _) (av rfl ⟨trivial, trivial⟩) rfl ?_
    refine E_v Tb_ok (v := .int _ _) (av rfl ⟨trivial, trivial⟩) rfl ?_
    refine E_v Tb_ok (v := .int _ _) (av rfl ⟨trivial, trivial⟩) rfl ?_
    first | (refine E_v Tb_ok (v := _) (ave_index_ro rfl rfl rfl (fun _ => rfl) rfl (by first | exact b0 | exact b1) (by first | exact b0 | exact b1) trivial) rfl ?_) | (refine E_v Tb_ok (v := _) (ave_index_app rfl rfl rfl (fun _ => rfl) rfl (by first | exact b0 | exact b1) (by first | exact b0 | exact b1) trivial) rfl ?_) | (refine E_v Tb_ok (v := _) (ave_index_row rfl rfl rfl rfl rfl rfl (by first | exact b0 | exact b1) (by first | exact b0 | exact b1) trivial) rfl ?_) | (refine E_v Tb_ok (v := .rptr _) (av rfl ⟨trivial, ⟨(by first | exact b0 | exact b1), (by first | exact b0 | exact b1)⟩, rfl⟩) rfl ?_) | (refine E_v Tb_ok (v := .ptr _ _ _) (av rfl ⟨trivial, ⟨(by first | exact b0 | exact b1), (by first | exact b0 | exact b1)⟩, rfl⟩) rfl ?_)
    refine E_v Tb_ok (v := .int _ _) (av rfl ⟨trivial, rfl⟩) rfl ?_
    refine E_v Tb_ok (v := .int _ _) (av rfl ⟨trivial, trivial⟩) rfl ?_
    refine E_v Tb_ok (v := .int _ _) (av rfl ⟨trivial, trivial⟩) rfl ?_
    refine LexE_nil ?_
    refine WL_nil ?_
    refine W_ret ?_
    refine ends (l := [.int _ _]) (q := .int _ _) (.inr rfl) rfl ⟨trivial, trivial⟩ rfl rfl ?_
    simp only [wtF, if_neg hk]; rfl
theorem ref10_Terms_dense {S : Site} (hS : SiteOk S) (hln : lenF S.Op S.In = S.Len) {ch at_ : Int} (hch : 1 ≤ ch ∧ ch ≤ S.Out.C) (k1 : S.Op.Kind = 1) : Ok Try.prog 16 [.agg (rsiteC S), .int .i64 ch, .int .i64 at_] (.ro ((tlF S ch at_).map termC)) := by
  have hc20 : (S.Op.Kind == 1) = true := by simp [k1]
  have hl := hS.len
  have hLl := tlF_len hS ch at_
  have hg : ∀ i, i < S.Len.toNat → (tlF S ch at_).getD i default = ⟨wtF S ch i, i⟩ := fun i hi => by rw [tlF_get hS hch at_ hi]; simp [atF, k1]
  have hL := ref10_Length S
  rw [hln] at hL
  generalize tlF S ch at_ = L at *
  refine fn_ok Tb_ok (fn := Try.f16) Try.func16 rfl rfl (e := [(0, _), (1, _), (2, _)]) rfl (by decide) rfl ?_
  refine W_seq ?_
  refine W_region rfl ?_
  refine L_box Tb_ok (cs := [.int _ _, .int _ _, .int _ _, .int _ _, .int _ _, .int _ _, .int _ _, .int _ _, .int _ _, .int _ _, .int _ _, .int _ _, _, _, .int _ _, .int _ _, .int _ _, .int _ _, .int _ _, .int _ _, .int _ _, .int _ _, .int _ _, .int _ _, .int _ _, .int _ _, .int _ _, .int _ _]) (n := 28) rfl rfl rfl rfl trivial ?_
  refine L_v Tb_ok (v := .nils) (av rfl ⟨trivial, trivial⟩) rfl ?_
  refine WL_nil ?_
  refine W_seq ?_
  refine W_region rfl ?_
  refine L_v Tb_ok (v := .nils) (av rfl ⟨trivial, trivial⟩) rfl ?_
  refine WL_nil ?_
  refine W_seq ?_
  refine W_region rfl ?_
  refine L_v Tb_ok (v := .agg [.int _ _, .int _ _, .int _ _, .int _ _, .int _ _, .int _ _, .int _ _, .int _ _, .int _ _, .int _ _, .int _ _, .int _ _, _, _, .int _ _, .int _ _, .int _ _, .int _ _, .int _ _, .int _ _, .int _ _, .int _ _, .int _ _, .int _ _, .int _ _, .int _ _, .int _ _, .int _ _]) (av rfl ⟨trivial, rfl⟩) rfl ?_
  refine L_call (hr := hL) rfl rfl trivial rfl rfl ?_
  refine L_v Tb_ok (v := .int _ _) (av rfl ⟨trivial, trivial⟩) rfl ?_
  refine WL_nil ?_
  refine W_seq ?_
  refine W_seq ?_
  refine W_region rfl ?_
  refine L_v Tb_ok (v := .ptr _ _ _) (av rfl ⟨trivial, trivial⟩) rfl ?_
  refine L_v Tb_ok (v := .ptr _ _ _) (av rfl ⟨trivial, trivial⟩) rfl ?_
  refine L_v Tb_ok (v := .int _ _) (av rfl ⟨trivial, rfl⟩) rfl ?_
  refine L_v Tb_ok (v := .bool _) (av rfl ⟨trivial, trivial⟩) rfl ?_
  refine WL_nil ?_
  refine W_cond_t (b := _) rfl (by first | exact hc20 | rfl | decide | simp_all) ?_
  refine W_seq ?_
  refine W_seq ?_
  refine W_region rfl ?_
  refine L_v Tb_ok (v := .int _ _) (av rfl ⟨trivial, trivial⟩) rfl ?_
  refine WL_nil ?_
  refine W_block ?_
  refine W_nils (t := 7) 52 2 rfl rfl ?_
  refine W_for S.Len.toNat (fun i => ⟨[(1, .int .i64 ch), (3, .ptr 0 0 0), (7, .app 1 ((L.take i).map termC)), (8, .int .i64 S.Len), (9, .int .i64 (i : Int))], [(0, some ⟨42, 28, 0, [rsiteC S]⟩)], [(1, some (52, 2, (L.take i).length))], 2⟩) (le_fit ⟨rfl, rfl, rfl, rfl, rfl, trivial⟩ ⟨.inr rfl, trivial⟩ ⟨.inr rfl, trivial⟩ rfl rfl rfl rfl rfl) ?_
  intro i hi
  have hlen : (L.take i).length ≤ 512 := by rw [List.length_take, hLl]; omega
  refine W_seq ?_
  refine W_seq ?_
  refine W_region rfl ?_
  refine L_v Tb_ok (v := .int _ _) (av rfl ⟨trivial, trivial⟩) rfl ?_
  refine L_v Tb_ok (v := .int _ _) (av rfl ⟨trivial, trivial⟩) rfl ?_
  refine L_v Tb_ok (v := .bool _) (av rfl ⟨trivial, trivial⟩) rfl ?_
  refine WL_nil ?_
  refine W_cond (b := _) rfl (fun h23 => ?_) (fun h23 => ?_)
  · have hlt : i < S.Len.toNat := by have := of_decide_eq_true h23; omega
    have hap := take_snoc' (by rw [hLl]; exact hlt) (hg i hlt)
    refine W_skip ?_
    refine W_seq ?_
    refine W_block ?_
    refine W_region rfl ?_
    first | (refine L_v Tb_ok (v := .ro _) (av rfl ⟨trivial, trivial⟩) rfl ?_) | (refine L_v Tb_ok (v := .app _ _) (av rfl ⟨trivial, trivial⟩) rfl ?_) | (refine L_v Tb_ok (v := .row _ _ _) (av rfl ⟨trivial, trivial⟩) rfl ?_) | (refine L_v Tb_ok (v := .nils) (av rfl ⟨trivial, trivial⟩) rfl ?_)
    refine L_v Tb_ok (v := .agg [.int _ _, .int _ _, .int _ _, .int _ _, .int _ _, .int _ _, .int _ _, .int _ _, .int _ _, .int _ _, .int _ _, .int _ _, _, _, .int _ _, .int _ _, .int _ _, .int _ _, .int _ _, .int _ _, .int _ _, .int _ _, .int _ _, .int _ _, .int _ _, .int _ _, .int _ _, .int _ _]) (av rfl ⟨trivial, rfl⟩) rfl ?_
    refine L_v Tb_ok (v := .int _ _) (av rfl ⟨trivial, trivial⟩) rfl ?_
    refine L_v Tb_ok (v := .int _ _) (av rfl ⟨trivial, trivial⟩) rfl ?_
    refine L_call (hr := ref10_weight hS hln hch (i := i) hlt) rfl rfl trivial rfl rfl ?_
    refine L_v Tb_ok (v := .int _ _) (av rfl ⟨trivial, trivial⟩) rfl ?_
    refine L_v Tb_ok (v := .agg [.int _ _, .int _ _]) (av rfl ⟨trivial, rfl⟩) rfl ?_
    refine L_build Tb_ok (t := 29) (len := 1) (el := 52) (sz := 2) (es := [[_, _]]) (z := [.int .i64 0, .int .i64 0]) rfl rfl rfl rfl rfl (by decide) trivial rfl rfl rfl rfl rfl ?_
    refine L_app1 Tb_ok (f := termC) (v := ⟨wtF S ch i, i⟩) (tok := 1) (el := 52) (sz := 2) rfl rfl rfl rfl rfl ⟨trivial, trivial⟩ (fun _ => ⟨rfl, rfl⟩) (by rw [show (Tb.at 52).bytes = 16 from rfl]; omega) rfl ?_
    first | (refine L_v Tb_ok (v := .ro _) (av rfl ⟨trivial, trivial⟩) rfl ?_) | (refine L_v Tb_ok (v := .app _ _) (av rfl ⟨trivial, trivial⟩) rfl ?_) | (refine L_v Tb_ok (v := .row _ _ _) (av rfl ⟨trivial, trivial⟩) rfl ?_) | (refine L_v Tb_ok (v := .nils) (av rfl ⟨trivial, trivial⟩) rfl ?_)
    refine WL_nil ?_
    refine W_region rfl ?_
    refine L_v Tb_ok (v := .int _ _) (av rfl ⟨trivial, trivial⟩) rfl ?_
    refine L_v Tb_ok (v := .int _ _) (av rfl ⟨trivial, trivial⟩) rfl ?_
    refine L_v Tb_ok (v := .int _ _) (av rfl ⟨trivial, trivial⟩) rfl ?_
    refine WL_nil ?_
    refine for_end hlt (le_fit ⟨rfl, rfl, congrArg (fun z => AV.app 1 (List.map termC z)) hap, rfl, congrArg _ (w_succ hlt (by omega)), trivial⟩ ⟨.inr rfl, trivial⟩ ⟨.inr (congrArg (fun z => some (52, 2, List.length z)) hap), trivial⟩ rfl rfl rfl rfl rfl)
  · have hke : i = S.Len.toNat := by have := of_decide_eq_false h23; omega
    refine W_exit ?_
    repeat (first | refine pass_then ?_ | refine pass_once ?_ | refine pass_le ?_ | refine pass_round ?_ | refine pass_for ?_ | refine blockQ_miss rfl ?_)
    refine blockQ_hit ?_
    refine W_seq ?_
    refine W_region rfl ?_
    first | (refine L_v Tb_ok (v := .ro _) (av rfl ⟨trivial, trivial⟩) rfl ?_) | (refine L_v Tb_ok (v := .app _ _) (av rfl ⟨trivial, trivial⟩) rfl ?_) | (refine L_v Tb_ok (v := .row _ _ _) (av rfl ⟨trivial, trivial⟩) rfl ?_) | (refine L_v Tb_ok (v := .nils) (av rfl ⟨trivial, trivial⟩) rfl ?_)
    first | (refine L_v Tb_ok (v := .ro _) (av rfl ⟨trivial, trivial⟩) rfl ?_) | (refine L_v Tb_ok (v := .app _ _) (av rfl ⟨trivial, trivial⟩) rfl ?_) | (refine L_v Tb_ok (v := .row _ _ _) (av rfl ⟨trivial, trivial⟩) rfl ?_) | (refine L_v Tb_ok (v := .nils) (av rfl ⟨trivial, trivial⟩) rfl ?_)
    refine WL_nil ?_
    refine W_ret ?_
    first | (refine ends (l := [.app _ _]) (q := .ro _) (.inr rfl) rfl ⟨trivial, trivial⟩ rfl rfl ?_) | (refine ends (l := [.nils]) (q := .ro _) (.inr rfl) rfl ⟨trivial, trivial⟩ rfl rfl ?_) | (refine ends (l := [.ro _]) (q := .ro _) (.inr rfl) rfl ⟨trivial, trivial⟩ rfl rfl ?_)
    rw [hke, ← hLl, List.take_length]
theorem ref10_Terms_conv {S : Site} (hS : SiteOk S) (hln : lenF S.Op S.In = S.Len) {ch at_ : Int} (hch : 1 ≤ ch ∧ ch ≤ S.Out.C) (hat : 0 ≤ at_ ∧ at_ < S.Out.H * S.Out.W) (k2 : S.Op.Kind = 2) : Ok Try.prog 16 [.agg (rsiteC S), .int .i64 ch, .int .i64 at_] (.ro ((tlF S ch at_).map termC)) := by
  have hc20 : (S.Op.Kind == 1) = false := by simp [k2]
  have hc54 : (S.Op.Kind == 2) = true := by simp [k2]
  have hl := hS.len
  have B := shapeB_iff.1 hS.inB
  have hCne : S.In.C ≠ 0 := by omega
  have hLl := tlF_len hS ch at_
  have hT := ref06_Taps S.In S.Op.Win at_ (taps_good hS (by omega) hat.1 hat.2)
  have hTn : tapN S.Op.Win * S.In.C.toNat = S.Len.toNat := by
    obtain ⟨h1, h2, h3⟩ := taps_win hS (by omega)
    unfold tapN
    rw [h1, hS.len2 k2, ← Int.toNat_mul (by omega) (by omega)]
  have hTl : (tapL S.In S.Op.Win (tapsTop S.In S.Op.Win at_) (tapsLeft S.In S.Op.Win at_)).length = tapN S.Op.Win := by simp [tapL]
  have hk : ∀ i, i < S.Len.toNat → i / S.In.C.toNat < tapN S.Op.Win := fun i hi => by rw [Nat.div_lt_iff_lt_mul (by omega), hTn]; exact hi
  have hq : ∀ i : Nat, i < S.Len.toNat → IntKind.i64.wrap ((i : Int).tdiv S.In.C) = ((i / S.In.C.toNat : Nat) : Int) := fun i hi => by
    have e : (i : Int).tdiv S.In.C = ((i / S.In.C.toNat : Nat) : Int) := by
      rw [Int.tdiv_eq_ediv_of_nonneg (by omega), Int.natCast_ediv]; congr 1; omega
    rw [e, w64_id]
    have : i / S.In.C.toNat ≤ i := Nat.div_le_self _ _
    generalize i / S.In.C.toNat = q at this ⊢
    omega
  have hr : ∀ i : Nat, (i : Int).tmod S.In.C = ((i % S.In.C.toNat : Nat) : Int) := fun i => by
    rw [Int.tmod_eq_emod_of_nonneg (by omega), Int.natCast_emod]; congr 1; omega
  have hTg : ∀ i, i < S.Len.toNat → (tapL S.In S.Op.Win (tapsTop S.In S.Op.Win at_) (tapsLeft S.In S.Op.Win at_)).getD (i / S.In.C.toNat) 0 = tapAt S at_ (i / S.In.C.toNat) := fun i hi => tapL_get (hk i hi)
  have hg : ∀ i, i < S.Len.toNat → (tlF S ch at_).getD i default = ⟨wtF S ch i, if tapAt S at_ (i / S.In.C.toNat) < 0 then -1 else w64 (w64 (tapAt S at_ (i / S.In.C.toNat) * S.In.C) + ((i % S.In.C.toNat : Nat) : Int))⟩ := fun i hi => by rw [tlF_get hS hch at_ hi]; simp [atF, k2]
  have hL := ref10_Length S
  rw [hln] at hL
  generalize tlF S ch at_ = L at *
  generalize tapL S.In S.Op.Win (tapsTop S.In S.Op.Win at_) (tapsLeft S.In S.Op.Win at_) = T at *
  refine fn_ok Tb_ok (fn := Try.f16) Try.func16 rfl rfl (e := [(0, _), (1, _), (2, _)]) rfl (by decide) rfl ?_
  refine W_seq ?_
  refine W_region rfl ?_
  refine L_box Tb_ok (cs := [.int _ _, .int _ _, .int _ _, .int _ _, .int _ _, .int _ _, .int _ _, .int _ _, .int _ _, .int _ _, .int _ _, .int _ _, _, _, .int _ _, .int _ _, .int _ _, .int _ _, .int _ _, .int _ _, .int _ _, .int _ _, .int _ _, .int _ _, .int _ _, .int _ _, .int _ _, .int _ _]) (n := 28) rfl rfl rfl rfl trivial ?_
  refine L_v Tb_ok (v := .nils) (av rfl ⟨trivial, trivial⟩) rfl ?_
  refine WL_nil ?_
  refine W_seq ?_
  refine W_region rfl ?_
  refine L_v Tb_ok (v := .nils) (av rfl ⟨trivial, trivial⟩) rfl ?_
  refine WL_nil ?_
  refine W_seq ?_
  refine W_region rfl ?_
  refine L_v Tb_ok (v := .agg [.int _ _, .int _ _, .int _ _, .int _ _, .int _ _, .int _ _, .int _ _, .int _ _, .int _ _, .int _ _, .int _ _, .int _ _, _, _, .int _ _, .int _ _, .int _ _, .int _ _, .int _ _, .int _ _, .int _ _, .int _ _, .int _ _, .int _ _, .int _ _, .int _ _, .int _ _, .int _ _]) (av rfl ⟨trivial, rfl⟩) rfl ?_
  refine L_call (hr := hL) rfl rfl trivial rfl rfl ?_
  refine L_v Tb_ok (v := .int _ _) (av rfl ⟨trivial, trivial⟩) rfl ?_
  refine WL_nil ?_
  refine W_seq ?_
  refine W_seq ?_
  refine W_region rfl ?_
  refine L_v Tb_ok (v := .ptr _ _ _) (av rfl ⟨trivial, trivial⟩) rfl ?_
  refine L_v Tb_ok (v := .ptr _ _ _) (av rfl ⟨trivial, trivial⟩) rfl ?_
  refine L_v Tb_ok (v := .int _ _) (av rfl ⟨trivial, rfl⟩) rfl ?_
  refine L_v Tb_ok (v := .bool _) (av rfl ⟨trivial, trivial⟩) rfl ?_
  refine WL_nil ?_
  refine W_cond_f (b := _) rfl (by first | exact hc20 | rfl | decide | simp_all) ?_
  refine W_skip ?_
  refine W_seq ?_
  refine W_region rfl ?_
  refine L_v Tb_ok (v := .ptr _ _ _) (av rfl ⟨trivial, trivial⟩) rfl ?_
  refine L_v Tb_ok (v := .agg [.int _ _, .int _ _, .int _ _]) (av rfl ⟨trivial, rfl⟩) rfl ?_
  refine L_v Tb_ok (v := .ptr _ _ _) (av rfl ⟨trivial, trivial⟩) rfl ?_
  refine L_v Tb_ok (v := .ptr _ _ _) (av rfl ⟨trivial, trivial⟩) rfl ?_
  refine L_v Tb_ok (v := .agg [.int _ _, .int _ _, .int _ _, .int _ _, .int _ _, .int _ _, .int _ _, .int _ _]) (av rfl ⟨trivial, rfl⟩) rfl ?_
  refine L_v Tb_ok (v := .int _ _) (av rfl ⟨trivial, trivial⟩) rfl ?_
  refine L_call (hr := hT) rfl rfl trivial rfl rfl ?_
  first | (refine L_v Tb_ok (v := .ro _) (av rfl ⟨trivial, trivial⟩) rfl ?_) | (refine L_v Tb_ok (v := .app _ _) (av rfl ⟨trivial, trivial⟩) rfl ?_) | (refine L_v Tb_ok (v := .row _ _ _) (av rfl ⟨trivial, trivial⟩) rfl ?_) | (refine L_v Tb_ok (v := .nils) (av rfl ⟨trivial, trivial⟩) rfl ?_)
  refine WL_nil ?_
  refine W_seq ?_
  refine W_seq ?_
  refine W_region rfl ?_
  refine L_v Tb_ok (v := .int _ _) (av rfl ⟨trivial, trivial⟩) rfl ?_
  refine WL_nil ?_
  refine W_block ?_
  refine W_nils (t := 7) 52 2 rfl rfl ?_
  refine W_for S.Len.toNat (fun i => ⟨[(1, .int .i64 ch), (3, .ptr 0 0 0), (7, .app 1 ((L.take i).map termC)), (8, .int .i64 S.Len), (10, .ro (T.map intC)), (11, .int .i64 (i : Int))], [(0, some ⟨42, 28, 0, [rsiteC S]⟩)], [(1, some (52, 2, (L.take i).length))], 2⟩) (le_fit ⟨rfl, rfl, rfl, rfl, rfl, rfl, trivial⟩ ⟨.inr rfl, trivial⟩ ⟨.inr rfl, trivial⟩ rfl rfl rfl rfl rfl) ?_
  intro i hi
  have hlen : (L.take i).length ≤ 512 := by rw [List.length_take, hLl]; omega
  refine W_seq ?_
  refine W_seq ?_
  refine W_region rfl ?_
  refine L_v Tb_ok (v := .int _ _) (av rfl ⟨trivial, trivial⟩) rfl ?_
  refine L_v Tb_ok (v := .int _ _) (av rfl ⟨trivial, trivial⟩) rfl ?_
  refine L_v Tb_ok (v := .bool _) (av rfl ⟨trivial, trivial⟩) rfl ?_
  refine WL_nil ?_
  refine W_cond (b := _) rfl (fun h45 => ?_) (fun h45 => ?_)
  · have hlt : i < S.Len.toNat := by have := of_decide_eq_true h45; omega
    have hqi := hq i hlt
    have hgi := hg i hlt
    have ia0 : 0 ≤ IntKind.i64.wrap ((i : Int).tdiv S.In.C) := by rw [hqi]; exact Int.natCast_nonneg _
    have ia1 : IntKind.i64.wrap ((i : Int).tdiv S.In.C) < (T.length : Int) := by rw [hqi, hTl]; exact Int.ofNat_lt.2 (hk i hlt)
    have hTi : T.getD (IntKind.i64.wrap ((i : Int).tdiv S.In.C)).toNat 0 = tapAt S at_ (i / S.In.C.toNat) := by rw [hqi, Int.toNat_natCast]; exact hTg i hlt
    refine W_skip ?_
    refine W_seq ?_
    refine W_block ?_
    refine W_seq ?_
    refine W_region rfl ?_
    refine L_v Tb_ok (v := .int _ _) (av rfl ⟨trivial, trivial⟩) rfl ?_
    refine L_v Tb_ok (v := .int _ _) (av rfl ⟨trivial, trivial⟩) rfl ?_
    refine L_v Tb_ok (v := .int _ _) (av rfl ⟨trivial, trivial⟩) rfl ?_
    refine L_v Tb_ok (v := .int _ _) (av rfl ⟨trivial, trivial⟩) rfl ?_
    refine L_v Tb_ok (v := .int _ _) (av rfl ⟨trivial, trivial⟩) rfl ?_
    refine WL_nil ?_
    refine W_seq ?_
    refine W_seq ?_
    refine W_region rfl ?_
    refine L_v Tb_ok (v := .ptr _ _ _) (av rfl ⟨trivial, trivial⟩) rfl ?_
    refine L_v Tb_ok (v := .ptr _ _ _) (av rfl ⟨trivial, trivial⟩) rfl ?_
    refine L_v Tb_ok (v := .int _ _) (av rfl ⟨trivial, rfl⟩) rfl ?_
    refine L_v Tb_ok (v := .bool _) (av rfl ⟨trivial, trivial⟩) rfl ?_
    refine WL_nil ?_
    refine W_cond_t (b := _) rfl (by first | exact hc54 | rfl | decide | simp_all) ?_
    refine W_draw 12 Tb_mixed rfl (by decide) (by kernel_rfl) (by kernel_rfl) ?_
    refine E_v Tb_ok (v := .int _ _) (av rfl ⟨trivial, trivial⟩) rfl ?_
    refine E_v Tb_ok (v := .ptr _ _ _) (av rfl ⟨trivial, trivial⟩) rfl ?_
    refine E_v Tb_ok (v := .ptr _ _ _) (av rfl ⟨trivial, trivial⟩) rfl ?_
    refine E_v Tb_ok (v := .int _ _) (av rfl ⟨trivial, rfl⟩) rfl ?_
    refine E_v Tb_ok (v := .int _ _) (av rfl ⟨trivial, (by exact hCne)⟩) rfl ?_
    refine E_v Tb_ok (v := .int _ _) (av rfl ⟨trivial, trivial⟩) rfl ?_
    refine E_v Tb_ok (v := .ptr _ _ _) (av rfl ⟨trivial, trivial⟩) rfl ?_
    refine E_v Tb_ok (v := .ptr _ _ _) (av rfl ⟨trivial, trivial⟩) rfl ?_
    refine E_v Tb_ok (v := .int _ _) (av rfl ⟨trivial, rfl⟩) rfl ?_
    refine E_v Tb_ok (v := .int _ _) (av rfl ⟨trivial, (by exact hCne)⟩) rfl ?_
    refine E_v Tb_ok (v := .int _ _) (av rfl ⟨trivial, trivial⟩) rfl ?_
    refine E_v Tb_ok (v := .int _ _) (av rfl ⟨trivial, trivial⟩) rfl ?_
    refine LexE_nil ?_
    refine WL_nil ?_
    refine W_seq ?_
    refine W_region rfl ?_
    refine L_v Tb_ok (v := .agg [.int _ _, .int _ _, .int _ _, .int _ _, .int _ _, .int _ _, .int _ _, .int _ _, .int _ _, .int _ _, .int _ _, .int _ _, _, _, .int _ _, .int _ _, .int _ _, .int _ _, .int _ _, .int _ _, .int _ _, .int _ _, .int _ _, .int _ _, .int _ _, .int _ _, .int _ _, .int _ _]) (av rfl ⟨trivial, rfl⟩) rfl ?_
    refine L_v Tb_ok (v := .int _ _) (av rfl ⟨trivial, trivial⟩) rfl ?_
    refine L_v Tb_ok (v := .int _ _) (av rfl ⟨trivial, trivial⟩) rfl ?_
    refine L_call (hr := ref10_weight hS hln hch (i := i) hlt) rfl rfl trivial rfl rfl ?_
    refine L_v Tb_ok (v := .agg [.int _ _, .int _ _]) (av rfl ⟨trivial, rfl⟩) rfl ?_
    refine L_alloc Tb_ok (z := [.int .i64 0, .int .i64 0]) (n := 2) rfl rfl rfl rfl rfl ?_
    refine L_store Tb_ok (v := .agg [.int _ _, .int _ _]) (cs := [_, _]) (es' := [[_, _]]) rfl rfl rfl rfl rfl rfl rfl rfl rfl rfl ⟨trivial, trivial⟩ ?_
    refine WL_nil ?_
    refine W_seq ?_
    refine W_seq ?_
    refine W_region rfl ?_
    first | (refine L_v Tb_ok (v := .ro _) (av rfl ⟨trivial, trivial⟩) rfl ?_) | (refine L_v Tb_ok (v := .app _ _) (av rfl ⟨trivial, trivial⟩) rfl ?_) | (refine L_v Tb_ok (v := .row _ _ _) (av rfl ⟨trivial, trivial⟩) rfl ?_) | (refine L_v Tb_ok (v := .nils) (av rfl ⟨trivial, trivial⟩) rfl ?_)
    refine L_v Tb_ok (v := .int _ _) (av rfl ⟨trivial, trivial⟩) rfl ?_
    first | (refine L_v Tb_ok (v := _) (ave_index_ro rfl rfl rfl (fun _ => rfl) rfl (by first | exact ia0 | exact ia1 | (rw [List.length_map]; exact ia1)) (by first | exact ia0 | exact ia1 | (rw [List.length_map]; exact ia1)) trivial) rfl ?_) | (refine L_v Tb_ok (v := _) (ave_index_app rfl rfl rfl (fun _ => rfl) rfl (by first | exact ia0 | exact ia1 | (rw [List.length_map]; exact ia1)) (by first | exact ia0 | exact ia1 | (rw [List.length_map]; exact ia1)) trivial) rfl ?_) | (refine L_v Tb_ok (v := _) (ave_index_row rfl rfl rfl rfl rfl rfl (by first | exact ia0 | exact ia1 | (rw [List.length_map]; exact ia1)) (by first | exact ia0 | exact ia1 | (rw [List.length_map]; exact ia1)) trivial) rfl ?_) | (refine L_v Tb_ok (v := .rptr _) (av rfl ⟨trivial, ⟨(by first | exact ia0 | exact ia1 | (rw [List.length_map]; exact ia1)), (by first | exact ia0 | exact ia1 | (rw [List.length_map]; exact ia1))⟩, rfl⟩) rfl ?_) | (refine L_v Tb_ok (v := .ptr _ _ _) (av rfl ⟨trivial, ⟨(by first | exact ia0 | exact ia1 | (rw [List.length_map]; exact ia1)), (by first | exact ia0 | exact ia1 | (rw [List.length_map]; exact ia1))⟩, rfl⟩) rfl ?_)
    refine L_v Tb_ok (v := .int _ _) (av rfl ⟨trivial, rfl⟩) rfl ?_
    refine L_v Tb_ok (v := .bool _) (av rfl ⟨trivial, trivial⟩) rfl ?_
    refine WL_nil ?_
    refine W_cond (b := _) rfl (fun h74 => ?_) (fun h74 => ?_)
    · have h0 : ¬ tapAt S at_ (i / S.In.C.toNat) < 0 := by have := of_decide_eq_true h74; rw [← hTi]; exact Int.not_lt.2 this
      have hap := take_snoc' (v := (⟨wtF S ch i, w64 (w64 (T.getD (IntKind.i64.wrap ((i : Int).tdiv S.In.C)).toNat 0 * S.In.C) + (i : Int).tmod S.In.C)⟩ : Term)) (by rw [hLl]; exact hlt) (by rw [hgi, if_neg h0, hTi, hr])
      refine W_draw 11 Tb_mixed rfl (by decide) (by kernel_rfl) (by kernel_rfl) ?_
      first | (refine E_v Tb_ok (v := .ro _) (av rfl ⟨trivial, trivial⟩) rfl ?_) | (refine E_v Tb_ok (v := .app _ _) (av rfl ⟨trivial, trivial⟩) rfl ?_) | (refine E_v Tb_ok (v := .row _ _ _) (av rfl ⟨trivial, trivial⟩) rfl ?_) | (refine E_v Tb_ok (v := .nils) (av rfl ⟨trivial, trivial⟩) rfl ?_)
      refine E_v Tb_ok (v := .int _ _) (av rfl ⟨trivial, trivial⟩) rfl ?_
      first | (refine E_v Tb_ok (v := _) (ave_index_ro rfl rfl rfl (fun _ => rfl) rfl (by first | exact ia0 | exact ia1 | (rw [List.length_map]; exact ia1)) (by first | exact ia0 | exact ia1 | (rw [List.length_map]; exact ia1)) trivial) rfl ?_) | (refine E_v Tb_ok (v := _) (ave_index_app rfl rfl rfl (fun _ => rfl) rfl (by first | exact ia0 | exact ia1 | (rw [List.length_map]; exact ia1)) (by first | exact ia0 | exact ia1 | (rw [List.length_map]; exact ia1)) trivial) rfl ?_) | (refine E_v Tb_ok (v := _) (ave_index_row rfl rfl rfl rfl rfl rfl (by first | exact ia0 | exact ia1 | (rw [List.length_map]; exact ia1)) (by first | exact ia0 | exact ia1 | (rw [List.length_map]; exact ia1)) trivial) rfl ?_) | (refine E_v Tb_ok (v := .rptr _) (av rfl ⟨trivial, ⟨(by first | exact ia0 | exact ia1 | (rw [List.length_map]; exact ia1)), (by first | exact ia0 | exact ia1 | (rw [List.length_map]; exact ia1))⟩, rfl⟩) rfl ?_) | (refine E_v Tb_ok (v := .ptr _ _ _) (av rfl ⟨trivial, ⟨(by first | exact ia0 | exact ia1 | (rw [List.length_map]; exact ia1)), (by first | exact ia0 | exact ia1 | (rw [List.length_map]; exact ia1))⟩, rfl⟩) rfl ?_)
      refine E_v Tb_ok (v := .int _ _) (av rfl ⟨trivial, rfl⟩) rfl ?_
      refine E_v Tb_ok (v := .ptr _ _ _) (av rfl ⟨trivial, trivial⟩) rfl ?_
      refine E_v Tb_ok (v := .ptr _ _ _) (av rfl ⟨trivial, trivial⟩) rfl ?_
      refine E_v Tb_ok (v := .int _ _) (av rfl ⟨trivial, rfl⟩) rfl ?_
      refine E_v Tb_ok (v := .int _ _) (av rfl ⟨trivial, trivial⟩) rfl ?_
      refine E_v Tb_ok (v := .int _ _) (av rfl ⟨trivial, trivial⟩) rfl ?_
      refine E_v Tb_ok (v := .int _ _) (av rfl ⟨trivial, trivial⟩) rfl ?_
      refine E_v Tb_ok (v := .ptr _ _ _) (av rfl ⟨trivial, trivial⟩) rfl ?_
      refine LexE_nil ?_
      refine L_store Tb_ok (v := .int _ _) (cs := [_]) (es' := [[_, _]]) rfl rfl rfl rfl rfl rfl rfl rfl rfl rfl ⟨trivial, trivial⟩ ?_
      refine WL_nil ?_
      refine W_region rfl ?_
      first | (refine L_v Tb_ok (v := .ro _) (av rfl ⟨trivial, trivial⟩) rfl ?_) | (refine L_v Tb_ok (v := .app _ _) (av rfl ⟨trivial, trivial⟩) rfl ?_) | (refine L_v Tb_ok (v := .row _ _ _) (av rfl ⟨trivial, trivial⟩) rfl ?_) | (refine L_v Tb_ok (v := .nils) (av rfl ⟨trivial, trivial⟩) rfl ?_)
      refine L_v Tb_ok (v := .agg [.int _ _, .int _ _]) (av rfl ⟨trivial, rfl⟩) rfl ?_
      refine L_build Tb_ok (t := 29) (len := 1) (el := 52) (sz := 2) (es := [[_, _]]) (z := [.int .i64 0, .int .i64 0]) rfl rfl rfl rfl rfl (by decide) trivial rfl rfl rfl rfl rfl ?_
      first | refine L_app1 Tb_ok (f := termC) (v := ⟨wtF S ch i, -1⟩) (tok := 1) (el := 52) (sz := 2) rfl rfl rfl rfl rfl ⟨trivial, trivial⟩ (fun _ => ⟨rfl, rfl⟩) (by rw [show (Tb.at 52).bytes = 16 from rfl]; omega) rfl ?_ | refine L_app1 Tb_ok (f := termC) (v := ⟨wtF S ch i, w64 (w64 (T.getD (IntKind.i64.wrap ((i : Int).tdiv S.In.C)).toNat 0 * S.In.C) + (i : Int).tmod S.In.C)⟩) (tok := 1) (el := 52) (sz := 2) rfl rfl rfl rfl rfl ⟨trivial, trivial⟩ (fun _ => ⟨rfl, rfl⟩) (by rw [show (Tb.at 52).bytes = 16 from rfl]; omega) rfl ?_
      first | (refine L_v Tb_ok (v := .ro _) (av rfl ⟨trivial, trivial⟩) rfl ?_) | (refine L_v Tb_ok (v := .app _ _) (av rfl ⟨trivial, trivial⟩) rfl ?_) | (refine L_v Tb_ok (v := .row _ _ _) (av rfl ⟨trivial, trivial⟩) rfl ?_) | (refine L_v Tb_ok (v := .nils) (av rfl ⟨trivial, trivial⟩) rfl ?_)
      refine WL_nil ?_
      refine W_region rfl ?_
      refine L_v Tb_ok (v := .int _ _) (av rfl ⟨trivial, trivial⟩) rfl ?_
      refine L_v Tb_ok (v := .int _ _) (av rfl ⟨trivial, trivial⟩) rfl ?_
      refine L_v Tb_ok (v := .int _ _) (av rfl ⟨trivial, trivial⟩) rfl ?_
      refine WL_nil ?_
      refine for_end hlt (le_fit ⟨rfl, rfl, congrArg (fun z => AV.app 1 (List.map termC z)) hap, rfl, rfl, congrArg _ (w_succ hlt (by omega)), trivial⟩ ⟨.inr rfl, trivial⟩ ⟨.inr (congrArg (fun z => some (52, 2, List.length z)) hap), trivial⟩ rfl rfl rfl rfl rfl)
    · have h0 : tapAt S at_ (i / S.In.C.toNat) < 0 := by have := of_decide_eq_false h74; rw [← hTi]; exact Int.not_le.1 this
      have hap := take_snoc' (v := (⟨wtF S ch i, -1⟩ : Term)) (by rw [hLl]; exact hlt) (by rw [hgi, if_pos h0])
      refine W_skip ?_
      refine W_region rfl ?_
      first | (refine L_v Tb_ok (v := .ro _) (av rfl ⟨trivial, trivial⟩) rfl ?_) | (refine L_v Tb_ok (v := .app _ _) (av rfl ⟨trivial, trivial⟩) rfl ?_) | (refine L_v Tb_ok (v := .row _ _ _) (av rfl ⟨trivial, trivial⟩) rfl ?_) | (refine L_v Tb_ok (v := .nils) (av rfl ⟨trivial, trivial⟩) rfl ?_)
      refine L_v Tb_ok (v := .agg [.int _ _, .int _ _]) (av rfl ⟨trivial, rfl⟩) rfl ?_
      refine L_build Tb_ok (t := 29) (len := 1) (el := 52) (sz := 2) (es := [[_, _]]) (z := [.int .i64 0, .int .i64 0]) rfl rfl rfl rfl rfl (by decide) trivial rfl rfl rfl rfl rfl ?_
      first | refine L_app1 Tb_ok (f := termC) (v := ⟨wtF S ch i, -1⟩) (tok := 1) (el := 52) (sz := 2) rfl rfl rfl rfl rfl ⟨trivial, trivial⟩ (fun _ => ⟨rfl, rfl⟩) (by rw [show (Tb.at 52).bytes = 16 from rfl]; omega) rfl ?_ | refine L_app1 Tb_ok (f := termC) (v := ⟨wtF S ch i, w64 (w64 (T.getD (IntKind.i64.wrap ((i : Int).tdiv S.In.C)).toNat 0 * S.In.C) + (i : Int).tmod S.In.C)⟩) (tok := 1) (el := 52) (sz := 2) rfl rfl rfl rfl rfl ⟨trivial, trivial⟩ (fun _ => ⟨rfl, rfl⟩) (by rw [show (Tb.at 52).bytes = 16 from rfl]; omega) rfl ?_
      first | (refine L_v Tb_ok (v := .ro _) (av rfl ⟨trivial, trivial⟩) rfl ?_) | (refine L_v Tb_ok (v := .app _ _) (av rfl ⟨trivial, trivial⟩) rfl ?_) | (refine L_v Tb_ok (v := .row _ _ _) (av rfl ⟨trivial, trivial⟩) rfl ?_) | (refine L_v Tb_ok (v := .nils) (av rfl ⟨trivial, trivial⟩) rfl ?_)
      refine WL_nil ?_
      refine W_region rfl ?_
      refine L_v Tb_ok (v := .int _ _) (av rfl ⟨trivial, trivial⟩) rfl ?_
      refine L_v Tb_ok (v := .int _ _) (av rfl ⟨trivial, trivial⟩) rfl ?_
      refine L_v Tb_ok (v := .int _ _) (av rfl ⟨trivial, trivial⟩) rfl ?_
      refine WL_nil ?_
      refine for_end hlt (le_fit ⟨rfl, rfl, congrArg (fun z => AV.app 1 (List.map termC z)) hap, rfl, rfl, congrArg _ (w_succ hlt (by omega)), trivial⟩ ⟨.inr rfl, trivial⟩ ⟨.inr (congrArg (fun z => some (52, 2, List.length z)) hap), trivial⟩ rfl rfl rfl rfl rfl)
  · have hke : i = S.Len.toNat := by have := of_decide_eq_false h45; omega
    refine W_exit ?_
    repeat (first | refine pass_then ?_ | refine pass_once ?_ | refine pass_le ?_ | refine pass_round ?_ | refine pass_for ?_ | refine blockQ_miss rfl ?_)
    refine blockQ_hit ?_
    refine W_seq ?_
    refine W_region rfl ?_
    first | (refine L_v Tb_ok (v := .ro _) (av rfl ⟨trivial, trivial⟩) rfl ?_) | (refine L_v Tb_ok (v := .app _ _) (av rfl ⟨trivial, trivial⟩) rfl ?_) | (refine L_v Tb_ok (v := .row _ _ _) (av rfl ⟨trivial, trivial⟩) rfl ?_) | (refine L_v Tb_ok (v := .nils) (av rfl ⟨trivial, trivial⟩) rfl ?_)
    first | (refine L_v Tb_ok (v := .ro _) (av rfl ⟨trivial, trivial⟩) rfl ?_) | (refine L_v Tb_ok (v := .app _ _) (av rfl ⟨trivial, trivial⟩) rfl ?_) | (refine L_v Tb_ok (v := .row _ _ _) (av rfl ⟨trivial, trivial⟩) rfl ?_) | (refine L_v Tb_ok (v := .nils) (av rfl ⟨trivial, trivial⟩) rfl ?_)
    refine WL_nil ?_
    refine W_ret ?_
    first | (refine ends (l := [.app _ _]) (q := .ro _) (.inr rfl) rfl ⟨trivial, trivial⟩ rfl rfl ?_) | (refine ends (l := [.nils]) (q := .ro _) (.inr rfl) rfl ⟨trivial, trivial⟩ rfl rfl ?_) | (refine ends (l := [.ro _]) (q := .ro _) (.inr rfl) rfl ⟨trivial, trivial⟩ rfl rfl ?_)
    rw [hke, ← hLl, List.take_length]
theorem ref10_Terms_rest {S : Site} (hS : SiteOk S) (hln : lenF S.Op S.In = S.Len) {ch at_ : Int} (hch : 1 ≤ ch ∧ ch ≤ S.Out.C) (hat : 0 ≤ at_ ∧ at_ < S.Out.H * S.Out.W) (k1 : S.Op.Kind ≠ 1) (k2 : S.Op.Kind ≠ 2) : Ok Try.prog 16 [.agg (rsiteC S), .int .i64 ch, .int .i64 at_] (.ro ((tlF S ch at_).map termC)) := by
  have hc20 : (S.Op.Kind == 1) = false := by simp [k1]
  have hc54 : (S.Op.Kind == 2) = false := by simp [k2]
  have hl := hS.len
  have B := shapeB_iff.1 hS.inB
  have hCne : S.In.C ≠ 0 := by omega
  have hLl := tlF_len hS ch at_
  have hT := ref06_Taps S.In S.Op.Win at_ (taps_good hS k1 hat.1 hat.2)
  have hTn : tapN S.Op.Win = S.Len.toNat := by
    obtain ⟨h1, h2, h3⟩ := taps_win hS k1
    unfold tapN
    rw [h1, hS.len3 (by have := hS.kind; omega)]
  have hTl : (tapL S.In S.Op.Win (tapsTop S.In S.Op.Win at_) (tapsLeft S.In S.Op.Win at_)).length = tapN S.Op.Win := by simp [tapL]
  have hTg : ∀ i, i < S.Len.toNat → (tapL S.In S.Op.Win (tapsTop S.In S.Op.Win at_) (tapsLeft S.In S.Op.Win at_)).getD i 0 = tapAt S at_ i := fun i hi => tapL_get (by omega)
  have hg : ∀ i, i < S.Len.toNat → (tlF S ch at_).getD i default = ⟨wtF S ch i, if tapAt S at_ i < 0 then -1 else w64 (w64 (tapAt S at_ i * S.In.C) + (ch - 1))⟩ := fun i hi => by rw [tlF_get hS hch at_ hi]; simp [atF, k1, k2]
  have hcw : w64 (ch - 1) = ch - 1 := by have O := shapeB_iff.1 hS.outB; exact w64_id (by omega)
  have hL := ref10_Length S
  rw [hln] at hL
  generalize tlF S ch at_ = L at *
  generalize tapL S.In S.Op.Win (tapsTop S.In S.Op.Win at_) (tapsLeft S.In S.Op.Win at_) = T at *
  refine fn_ok Tb_ok (fn := Try.f16) Try.func16 rfl rfl (e := [(0, _), (1, _), (2, _)]) rfl (by decide) rfl ?_
  refine W_seq ?_
  refine W_region rfl ?_
  refine L_box Tb_ok (cs := [.int _ _, .int _ _, .int _ _, .int _ _, .int _ _, .int _ _, .int _ _, .int _ _, .int _ _, .int _ _, .int _ _, .int _ _, _, _, .int _ _, .int _ _, .int _ _, .int _ _, .int _ _, .int _ _, .int _ _, .int _ _, .int _ _, .int _ _, .int _ _, .int _ _, .int _ _, .int _ _]) (n := 28) rfl rfl rfl rfl trivial ?_
  refine L_v Tb_ok (v := .nils) (av rfl ⟨trivial, trivial⟩) rfl ?_
  refine WL_nil ?_
  refine W_seq ?_
  refine W_region rfl ?_
  refine L_v Tb_ok (v := .nils) (av rfl ⟨trivial, trivial⟩) rfl ?_
  refine WL_nil ?_
  refine W_seq ?_
  refine W_region rfl ?_
  refine L_v Tb_ok (v := .agg [.int _ _, .int _ _, .int _ _, .int _ _, .int _ _, .int _ _, .int _ _, .int _ _, .int _ _, .int _ _, .int _ _, .int _ _, _, _, .int _ _, .int _ _, .int _ _, .int _ _, .int _ _, .int _ _, .int _ _, .int _ _, .int _ _, .int _ _, .int _ _, .int _ _, .int _ _, .int _ _]) (av rfl ⟨trivial, rfl⟩) rfl ?_
  refine L_call (hr := hL) rfl rfl trivial rfl rfl ?_
  refine L_v Tb_ok (v := .int _ _) (av rfl ⟨trivial, trivial⟩) rfl ?_
  refine WL_nil ?_
  refine W_seq ?_
  refine W_seq ?_
  refine W_region rfl ?_
  refine L_v Tb_ok (v := .ptr _ _ _) (av rfl ⟨trivial, trivial⟩) rfl ?_
  refine L_v Tb_ok (v := .ptr _ _ _) (av rfl ⟨trivial, trivial⟩) rfl ?_
  refine L_v Tb_ok (v := .int _ _) (av rfl ⟨trivial, rfl⟩) rfl ?_
  refine L_v Tb_ok (v := .bool _) (av rfl ⟨trivial, trivial⟩) rfl ?_
  refine WL_nil ?_
  refine W_cond_f (b := _) rfl (by first | exact hc20 | rfl | decide | simp_all) ?_
  refine W_skip ?_
  refine W_seq ?_
  refine W_region rfl ?_
  refine L_v Tb_ok (v := .ptr _ _ _) (av rfl ⟨trivial, trivial⟩) rfl ?_
  refine L_v Tb_ok (v := .agg [.int _ _, .int _ _, .int _ _]) (av rfl ⟨trivial, rfl⟩) rfl ?_
  refine L_v Tb_ok (v := .ptr _ _ _) (av rfl ⟨trivial, trivial⟩) rfl ?_
  refine L_v Tb_ok (v := .ptr _ _ _) (av rfl ⟨trivial, trivial⟩) rfl ?_
  refine L_v Tb_ok (v := .agg [.int _ _, .int _ _, .int _ _, .int _ _, .int _ _, .int _ _, .int _ _, .int _ _]) (av rfl ⟨trivial, rfl⟩) rfl ?_
  refine L_v Tb_ok (v := .int _ _) (av rfl ⟨trivial, trivial⟩) rfl ?_
  refine L_call (hr := hT) rfl rfl trivial rfl rfl ?_
  first | (refine L_v Tb_ok (v := .ro _) (av rfl ⟨trivial, trivial⟩) rfl ?_) | (refine L_v Tb_ok (v := .app _ _) (av rfl ⟨trivial, trivial⟩) rfl ?_) | (refine L_v Tb_ok (v := .row _ _ _) (av rfl ⟨trivial, trivial⟩) rfl ?_) | (refine L_v Tb_ok (v := .nils) (av rfl ⟨trivial, trivial⟩) rfl ?_)
  refine WL_nil ?_
  refine W_seq ?_
  refine W_seq ?_
  refine W_region rfl ?_
  refine L_v Tb_ok (v := .int _ _) (av rfl ⟨trivial, trivial⟩) rfl ?_
  refine WL_nil ?_
  refine W_block ?_
  refine W_nils (t := 7) 52 2 rfl rfl ?_
  refine W_for S.Len.toNat (fun i => ⟨[(1, .int .i64 ch), (3, .ptr 0 0 0), (7, .app 1 ((L.take i).map termC)), (8, .int .i64 S.Len), (10, .ro (T.map intC)), (11, .int .i64 (i : Int))], [(0, some ⟨42, 28, 0, [rsiteC S]⟩)], [(1, some (52, 2, (L.take i).length))], 2⟩) (le_fit ⟨rfl, rfl, rfl, rfl, rfl, rfl, trivial⟩ ⟨.inr rfl, trivial⟩ ⟨.inr rfl, trivial⟩ rfl rfl rfl rfl rfl) ?_
  intro i hi
  have hlen : (L.take i).length ≤ 512 := by rw [List.length_take, hLl]; omega
  refine W_seq ?_
  refine W_seq ?_
  refine W_region rfl ?_
  refine L_v Tb_ok (v := .int _ _) (av rfl ⟨trivial, trivial⟩) rfl ?_
  refine L_v Tb_ok (v := .int _ _) (av rfl ⟨trivial, trivial⟩) rfl ?_
  refine L_v Tb_ok (v := .bool _) (av rfl ⟨trivial, trivial⟩) rfl ?_
  refine WL_nil ?_
  refine W_cond (b := _) rfl (fun h45 => ?_) (fun h45 => ?_)
  · have hlt : i < S.Len.toNat := by have := of_decide_eq_true h45; omega
    have hgi := hg i hlt
    have ia0 : 0 ≤ ((i : Nat) : Int) := Int.natCast_nonneg _
    have ia1 : ((i : Nat) : Int) < (T.length : Int) := by rw [hTl, hTn]; exact Int.ofNat_lt.2 hlt
    have hTi : T.getD ((i : Nat) : Int).toNat 0 = tapAt S at_ i := by rw [Int.toNat_natCast]; exact hTg i hlt
    refine W_skip ?_
    refine W_seq ?_
    refine W_block ?_
    refine W_seq ?_
    refine W_region rfl ?_
    refine L_v Tb_ok (v := .int _ _) (av rfl ⟨trivial, trivial⟩) rfl ?_
    refine L_v Tb_ok (v := .int _ _) (av rfl ⟨trivial, trivial⟩) rfl ?_
    refine L_v Tb_ok (v := .int _ _) (av rfl ⟨trivial, trivial⟩) rfl ?_
    refine L_v Tb_ok (v := .int _ _) (av rfl ⟨trivial, trivial⟩) rfl ?_
    refine L_v Tb_ok (v := .int _ _) (av rfl ⟨trivial, trivial⟩) rfl ?_
    refine WL_nil ?_
    refine W_seq ?_
    refine W_seq ?_
    refine W_region rfl ?_
    refine L_v Tb_ok (v := .ptr _ _ _) (av rfl ⟨trivial, trivial⟩) rfl ?_
    refine L_v Tb_ok (v := .ptr _ _ _) (av rfl ⟨trivial, trivial⟩) rfl ?_
    refine L_v Tb_ok (v := .int _ _) (av rfl ⟨trivial, rfl⟩) rfl ?_
    refine L_v Tb_ok (v := .bool _) (av rfl ⟨trivial, trivial⟩) rfl ?_
    refine WL_nil ?_
    refine W_cond_f (b := _) rfl (by first | exact hc54 | rfl | decide | simp_all) ?_
    refine W_skip ?_
    refine W_seq ?_
    refine W_region rfl ?_
    refine L_v Tb_ok (v := .agg [.int _ _, .int _ _, .int _ _, .int _ _, .int _ _, .int _ _, .int _ _, .int _ _, .int _ _, .int _ _, .int _ _, .int _ _, _, _, .int _ _, .int _ _, .int _ _, .int _ _, .int _ _, .int _ _, .int _ _, .int _ _, .int _ _, .int _ _, .int _ _, .int _ _, .int _ _, .int _ _]) (av rfl ⟨trivial, rfl⟩) rfl ?_
    refine L_v Tb_ok (v := .int _ _) (av rfl ⟨trivial, trivial⟩) rfl ?_
    refine L_v Tb_ok (v := .int _ _) (av rfl ⟨trivial, trivial⟩) rfl ?_
    refine L_call (hr := ref10_weight hS hln hch (i := i) hlt) rfl rfl trivial rfl rfl ?_
    refine L_v Tb_ok (v := .agg [.int _ _, .int _ _]) (av rfl ⟨trivial, rfl⟩) rfl ?_
    refine L_alloc Tb_ok (z := [.int .i64 0, .int .i64 0]) (n := 2) rfl rfl rfl rfl rfl ?_
    refine L_store Tb_ok (v := .agg [.int _ _, .int _ _]) (cs := [_, _]) (es' := [[_, _]]) rfl rfl rfl rfl rfl rfl rfl rfl rfl rfl ⟨trivial, trivial⟩ ?_
    refine WL_nil ?_
    refine W_seq ?_
    refine W_seq ?_
    refine W_region rfl ?_
    first | (refine L_v Tb_ok (v := .ro _) (av rfl ⟨trivial, trivial⟩) rfl ?_) | (refine L_v Tb_ok (v := .app _ _) (av rfl ⟨trivial, trivial⟩) rfl ?_) | (refine L_v Tb_ok (v := .row _ _ _) (av rfl ⟨trivial, trivial⟩) rfl ?_) | (refine L_v Tb_ok (v := .nils) (av rfl ⟨trivial, trivial⟩) rfl ?_)
    refine L_v Tb_ok (v := .int _ _) (av rfl ⟨trivial, trivial⟩) rfl ?_
    first | (refine L_v Tb_ok (v := _) (ave_index_ro rfl rfl rfl (fun _ => rfl) rfl (by first | exact ia0 | exact ia1 | (rw [List.length_map]; exact ia1)) (by first | exact ia0 | exact ia1 | (rw [List.length_map]; exact ia1)) trivial) rfl ?_) | (refine L_v Tb_ok (v := _) (ave_index_app rfl rfl rfl (fun _ => rfl) rfl (by first | exact ia0 | exact ia1 | (rw [List.length_map]; exact ia1)) (by first | exact ia0 | exact ia1 | (rw [List.length_map]; exact ia1)) trivial) rfl ?_) | (refine L_v Tb_ok (v := _) (ave_index_row rfl rfl rfl rfl rfl rfl (by first | exact ia0 | exact ia1 | (rw [List.length_map]; exact ia1)) (by first | exact ia0 | exact ia1 | (rw [List.length_map]; exact ia1)) trivial) rfl ?_) | (refine L_v Tb_ok (v := .rptr _) (av rfl ⟨trivial, ⟨(by first | exact ia0 | exact ia1 | (rw [List.length_map]; exact ia1)), (by first | exact ia0 | exact ia1 | (rw [List.length_map]; exact ia1))⟩, rfl⟩) rfl ?_) | (refine L_v Tb_ok (v := .ptr _ _ _) (av rfl ⟨trivial, ⟨(by first | exact ia0 | exact ia1 | (rw [List.length_map]; exact ia1)), (by first | exact ia0 | exact ia1 | (rw [List.length_map]; exact ia1))⟩, rfl⟩) rfl ?_)
    refine L_v Tb_ok (v := .int _ _) (av rfl ⟨trivial, rfl⟩) rfl ?_
    refine L_v Tb_ok (v := .bool _) (av rfl ⟨trivial, trivial⟩) rfl ?_
    refine WL_nil ?_
    refine W_cond (b := _) rfl (fun h74 => ?_) (fun h74 => ?_)
    · have h0 : ¬ tapAt S at_ i < 0 := by have := of_decide_eq_true h74; rw [← hTi]; exact Int.not_lt.2 this
      have hap := take_snoc' (v := (⟨wtF S ch i, w64 (w64 (T.getD ((i : Nat) : Int).toNat 0 * S.In.C) + w64 (ch - 1))⟩ : Term)) (by rw [hLl]; exact hlt) (by rw [hgi, if_neg h0, hTi, hcw])
      refine W_draw 11 Tb_mixed rfl (by decide) (by kernel_rfl) (by kernel_rfl) ?_
      first | (refine E_v Tb_ok (v := .ro _) (av rfl ⟨trivial, trivial⟩) rfl ?_) | (refine E_v Tb_ok (v := .app _ _) (av rfl ⟨trivial, trivial⟩) rfl ?_) | (refine E_v Tb_ok (v := .row _ _ _) (av rfl ⟨trivial, trivial⟩) rfl ?_) | (refine E_v Tb_ok (v := .nils) (av rfl ⟨trivial, trivial⟩) rfl ?_)
      refine E_v Tb_ok (v := .int _ _) (av rfl ⟨trivial, trivial⟩) rfl ?_
      first | (refine E_v Tb_ok (v := _) (ave_index_ro rfl rfl rfl (fun _ => rfl) rfl (by first | exact ia0 | exact ia1 | (rw [List.length_map]; exact ia1)) (by first | exact ia0 | exact ia1 | (rw [List.length_map]; exact ia1)) trivial) rfl ?_) | (refine E_v Tb_ok (v := _) (ave_index_app rfl rfl rfl (fun _ => rfl) rfl (by first | exact ia0 | exact ia1 | (rw [List.length_map]; exact ia1)) (by first | exact ia0 | exact ia1 | (rw [List.length_map]; exact ia1)) trivial) rfl ?_) | (refine E_v Tb_ok (v := _) (ave_index_row rfl rfl rfl rfl rfl rfl (by first | exact ia0 | exact ia1 | (rw [List.length_map]; exact ia1)) (by first | exact ia0 | exact ia1 | (rw [List.length_map]; exact ia1)) trivial) rfl ?_) | (refine E_v Tb_ok (v := .rptr _) (av rfl ⟨trivial, ⟨(by first | exact ia0 | exact ia1 | (rw [List.length_map]; exact ia1)), (by first | exact ia0 | exact ia1 | (rw [List.length_map]; exact ia1))⟩, rfl⟩) rfl ?_) | (refine E_v Tb_ok (v := .ptr _ _ _) (av rfl ⟨trivial, ⟨(by first | exact ia0 | exact ia1 | (rw [List.length_map]; exact ia1)), (by first | exact ia0 | exact ia1 | (rw [List.length_map]; exact ia1))⟩, rfl⟩) rfl ?_)
      refine E_v Tb_ok (v := .int _ _) (av rfl ⟨trivial, rfl⟩) rfl ?_
      refine E_v Tb_ok (v := .ptr _ _ _) (av rfl ⟨trivial, trivial⟩) rfl ?_
      refine E_v Tb_ok (v := .ptr _ _ _) (av rfl ⟨trivial, trivial⟩) rfl ?_
      refine E_v Tb_ok (v := .int _ _) (av rfl ⟨trivial, rfl⟩) rfl ?_
      refine E_v Tb_ok (v := .int _ _) (av rfl ⟨trivial, trivial⟩) rfl ?_
      refine E_v Tb_ok (v := .int _ _) (av rfl ⟨trivial, trivial⟩) rfl ?_
      refine E_v Tb_ok (v := .int _ _) (av rfl ⟨trivial, trivial⟩) rfl ?_
      refine E_v Tb_ok (v := .ptr _ _ _) (av rfl ⟨trivial, trivial⟩) rfl ?_
      refine LexE_nil ?_
      refine L_store Tb_ok (v := .int _ _) (cs := [_]) (es' := [[_, _]]) rfl rfl rfl rfl rfl rfl rfl rfl rfl rfl ⟨trivial, trivial⟩ ?_
      refine WL_nil ?_
      refine W_region rfl ?_
      first | (refine L_v Tb_ok (v := .ro _) (av rfl ⟨trivial, trivial⟩) rfl ?_) | (refine L_v Tb_ok (v := .app _ _) (av rfl ⟨trivial, trivial⟩) rfl ?_) | (refine L_v Tb_ok (v := .row _ _ _) (av rfl ⟨trivial, trivial⟩) rfl ?_) | (refine L_v Tb_ok (v := .nils) (av rfl ⟨trivial, trivial⟩) rfl ?_)
      refine L_v Tb_ok (v := .agg [.int _ _, .int _ _]) (av rfl ⟨trivial, rfl⟩) rfl ?_
      refine L_build Tb_ok (t := 29) (len := 1) (el := 52) (sz := 2) (es := [[_, _]]) (z := [.int .i64 0, .int .i64 0]) rfl rfl rfl rfl rfl (by decide) trivial rfl rfl rfl rfl rfl ?_
      first | refine L_app1 Tb_ok (f := termC) (v := ⟨wtF S ch i, -1⟩) (tok := 1) (el := 52) (sz := 2) rfl rfl rfl rfl rfl ⟨trivial, trivial⟩ (fun _ => ⟨rfl, rfl⟩) (by rw [show (Tb.at 52).bytes = 16 from rfl]; omega) rfl ?_ | refine L_app1 Tb_ok (f := termC) (v := ⟨wtF S ch i, w64 (w64 (T.getD ((i : Nat) : Int).toNat 0 * S.In.C) + w64 (ch - 1))⟩) (tok := 1) (el := 52) (sz := 2) rfl rfl rfl rfl rfl ⟨trivial, trivial⟩ (fun _ => ⟨rfl, rfl⟩) (by rw [show (Tb.at 52).bytes = 16 from rfl]; omega) rfl ?_
      first | (refine L_v Tb_ok (v := .ro _) (av rfl ⟨trivial, trivial⟩) rfl ?_) | (refine L_v Tb_ok (v := .app _ _) (av rfl ⟨trivial, trivial⟩) rfl ?_) | (refine L_v Tb_ok (v := .row _ _ _) (av rfl ⟨trivial, trivial⟩) rfl ?_) | (refine L_v Tb_ok (v := .nils) (av rfl ⟨trivial, trivial⟩) rfl ?_)
      refine WL_nil ?_
      refine W_region rfl ?_
      refine L_v Tb_ok (v := .int _ _) (av rfl ⟨trivial, trivial⟩) rfl ?_
      refine L_v Tb_ok (v := .int _ _) (av rfl ⟨trivial, trivial⟩) rfl ?_
      refine L_v Tb_ok (v := .int _ _) (av rfl ⟨trivial, trivial⟩) rfl ?_
      refine WL_nil ?_
      refine for_end hlt (le_fit ⟨rfl, rfl, congrArg (fun z => AV.app 1 (List.map termC z)) hap, rfl, rfl, congrArg _ (w_succ hlt (by omega)), trivial⟩ ⟨.inr rfl, trivial⟩ ⟨.inr (congrArg (fun z => some (52, 2, List.length z)) hap), trivial⟩ rfl rfl rfl rfl rfl)
    · have h0 : tapAt S at_ i < 0 := by have := of_decide_eq_false h74; rw [← hTi]; exact Int.not_le.1 this
      have hap := take_snoc' (v := (⟨wtF S ch i, -1⟩ : Term)) (by rw [hLl]; exact hlt) (by rw [hgi, if_pos h0])
      refine W_skip ?_
      refine W_region rfl ?_
      first | (refine L_v Tb_ok (v := .ro _) (av rfl ⟨trivial, trivial⟩) rfl ?_) | (refine L_v Tb_ok (v := .app _ _) (av rfl ⟨trivial, trivial⟩) rfl ?_) | (refine L_v Tb_ok (v := .row _ _ _) (av rfl ⟨trivial, trivial⟩) rfl ?_) | (refine L_v Tb_ok (v := .nils) (av rfl ⟨trivial, trivial⟩) rfl ?_)
      refine L_v Tb_ok (v := .agg [.int _ _, .int _ _]) (av rfl ⟨trivial, rfl⟩) rfl ?_
      refine L_build Tb_ok (t := 29) (len := 1) (el := 52) (sz := 2) (es := [[_, _]]) (z := [.int .i64 0, .int .i64 0]) rfl rfl rfl rfl rfl (by decide) trivial rfl rfl rfl rfl rfl ?_
      first | refine L_app1 Tb_ok (f := termC) (v := ⟨wtF S ch i, -1⟩) (tok := 1) (el := 52) (sz := 2) rfl rfl rfl rfl rfl ⟨trivial, trivial⟩ (fun _ => ⟨rfl, rfl⟩) (by rw [show (Tb.at 52).bytes = 16 from rfl]; omega) rfl ?_ | refine L_app1 Tb_ok (f := termC) (v := ⟨wtF S ch i, w64 (w64 (T.getD ((i : Nat) : Int).toNat 0 * S.In.C) + w64 (ch - 1))⟩) (tok := 1) (el := 52) (sz := 2) rfl rfl rfl rfl rfl ⟨trivial, trivial⟩ (fun _ => ⟨rfl, rfl⟩) (by rw [show (Tb.at 52).bytes = 16 from rfl]; omega) rfl ?_
      first | (refine L_v Tb_ok (v := .ro _) (av rfl ⟨trivial, trivial⟩) rfl ?_) | (refine L_v Tb_ok (v := .app _ _) (av rfl ⟨trivial, trivial⟩) rfl ?_) | (refine L_v Tb_ok (v := .row _ _ _) (av rfl ⟨trivial, trivial⟩) rfl ?_) | (refine L_v Tb_ok (v := .nils) (av rfl ⟨trivial, trivial⟩) rfl ?_)
      refine WL_nil ?_
      refine W_region rfl ?_
      refine L_v Tb_ok (v := .int _ _) (av rfl ⟨trivial, trivial⟩) rfl ?_
      refine L_v Tb_ok (v := .int _ _) (av rfl ⟨trivial, trivial⟩) rfl ?_
      refine L_v Tb_ok (v := .int _ _) (av rfl ⟨trivial, trivial⟩) rfl ?_
      refine WL_nil ?_
      refine for_end hlt (le_fit ⟨rfl, rfl, congrArg (fun z => AV.app 1 (List.map termC z)) hap, rfl, rfl, congrArg _ (w_succ hlt (by omega)), trivial⟩ ⟨.inr rfl, trivial⟩ ⟨.inr (congrArg (fun z => some (52, 2, List.length z)) hap), trivial⟩ rfl rfl rfl rfl rfl)
  · have hke : i = S.Len.toNat := by have := of_decide_eq_false h45; omega
    refine W_exit ?_
    repeat (first | refine pass_then ?_ | refine pass_once ?_ | refine pass_le ?_ | refine pass_round ?_ | refine pass_for ?_ | refine blockQ_miss rfl ?_)
    refine blockQ_hit ?_
    refine W_seq ?_
    refine W_region rfl ?_
    first | (refine L_v Tb_ok (v := .ro _) (av rfl ⟨trivial, trivial⟩) rfl ?_) | (refine L_v Tb_ok (v := .app _ _) (av rfl ⟨trivial, trivial⟩) rfl ?_) | (refine L_v Tb_ok (v := .row _ _ _) (av rfl ⟨trivial, trivial⟩) rfl ?_) | (refine L_v Tb_ok (v := .nils) (av rfl ⟨trivial, trivial⟩) rfl ?_)
    first | (refine L_v Tb_ok (v := .ro _) (av rfl ⟨trivial, trivial⟩) rfl ?_) | (refine L_v Tb_ok (v := .app _ _) (av rfl ⟨trivial, trivial⟩) rfl ?_) | (refine L_v Tb_ok (v := .row _ _ _) (av rfl ⟨trivial, trivial⟩) rfl ?_) | (refine L_v Tb_ok (v := .nils) (av rfl ⟨trivial, trivial⟩) rfl ?_)
    refine WL_nil ?_
    refine W_ret ?_
    first | (refine ends (l := [.app _ _]) (q := .ro _) (.inr rfl) rfl ⟨trivial, trivial⟩ rfl rfl ?_) | (refine ends (l := [.nils]) (q := .ro _) (.inr rfl) rfl ⟨trivial, trivial⟩ rfl rfl ?_) | (refine ends (l := [.ro _]) (q := .ro _) (.inr rfl) rfl ⟨trivial, trivial⟩ rfl rfl ?_)
    rw [hke, ← hLl, List.take_length]
theorem ref10_Terms {S : Site} (hS : SiteOk S) (hln : lenF S.Op S.In = S.Len) {ch at_ : Int} (hch : 1 ≤ ch ∧ ch ≤ S.Out.C) (hat : 0 ≤ at_ ∧ at_ < S.Out.H * S.Out.W) : Ok Try.prog 16 [.agg (rsiteC S), .int .i64 ch, .int .i64 at_] (.ro ((tlF S ch at_).map termC)) := by
  by_cases k1 : S.Op.Kind = 1
  · exact ref10_Terms_dense hS hln hch k1
  · by_cases k2 : S.Op.Kind = 2
    · exact ref10_Terms_conv hS hln hch hat k2
    · exact ref10_Terms_rest hS hln hch hat k1 k2
end Go.AM
end
section
open Go Go.AM
set_option linter.unusedVariables false
set_option linter.unusedSimpArgs false
namespace Go.AM
theorem rfE_bad {m : Model} {op ch : Int} (h : findE m op ≠ 0) : rfE m op ch = findE m op := by unfold rfE; rw [if_neg h]
theorem rcE_bad {m : Model} {op ch : Int} (h : findE m op ≠ 0) : rcE m op ch = findE m op := by
  unfold rcE
  rw [rfE_bad h]
  have : (findE m op == 0) = false := by simpa using h
  rw [this]; rfl
theorem rc_ok {m : Model} {op ch : Int} (h : findE m op = 0) : (1 ≤ ch ∧ ch ≤ (findS m op).Out.C → rcE m op ch = 0 ∧ rcS m op ch = findS m op) ∧ (¬ (1 ≤ ch ∧ ch ≤ (findS m op).Out.C) → rcE m op ch = 3) := by
  obtain ⟨hS, _⟩ := site_ok h
  have O := shapeB_iff.1 hS.outB
  constructor
  · rintro ⟨h1, h2⟩
    have c1 : ¬ ch < 0 := by omega
    have c2 : ¬ ch > (findS m op).Out.C := by omega
    have e : rfE m op ch = 0 := by simp [rfE, h, c1, c2]
    have z : (ch == 0) = false := by simp; omega
    simp [rcE, rcS, e, z, rfS]
  · intro hn
    by_cases h0 : ch = 0
    · subst h0
      have c2 : ¬ (0 : Int) > (findS m op).Out.C := by omega
      have e : rfE m op 0 = 0 := by simp [rfE, h, c2]
      simp [rcE, e]
    · have z : (ch == 0) = false := by simpa using h0
      have e : rfE m op ch = 3 := by
        by_cases c1 : ch < 0
        · simp [rfE, h, c1]
        · have c2 : ch > (findS m op).Out.C := by omega
          simp [rfE, h, c2]
      simp [rcE, e]
theorem rcE_zero {m : Model} {op ch : Int} (h : rcE m op ch = 0) : findE m op = 0 ∧ (1 ≤ ch ∧ ch ≤ (findS m op).Out.C) ∧ rcS m op ch = findS m op := by
  by_cases h0 : findE m op = 0
  · by_cases hc : 1 ≤ ch ∧ ch ≤ (findS m op).Out.C
    · exact ⟨h0, hc, ((rc_ok h0).1 hc).2⟩
    · rw [(rc_ok h0).2 hc] at h; omega
  · rw [rcE_bad h0] at h; exact absurd h h0
theorem ofE_rc {m : Model} {op ch at_ : Int} : ofE m op ch at_ = (bif (bif rcE m op ch == 0 then bif decide (at_ < 0) then true else decide (at_ ≥ w64 ((rcS m op ch).Out.H * (rcS m op ch).Out.W)) else false) then 3 else rcE m op ch) := by
  by_cases h0 : findE m op = 0
  · obtain ⟨hS, _⟩ := site_ok h0
    unfold ofE
    rw [if_pos h0]
    by_cases hc : 1 ≤ ch ∧ ch ≤ (findS m op).Out.C
    · obtain ⟨e1, e2⟩ := (rc_ok h0).1 hc
      rw [e1, e2, (out_pos hS).1]
      cases hb : ofBad (findS m op) ch at_ with
      | true =>
        have : ¬ (0 ≤ at_ ∧ at_ < (findS m op).Out.H * (findS m op).Out.W) := fun h => by
          have := (ofBad_iff hS).2 ⟨hc, h⟩; rw [hb] at this; cases this
        by_cases c1 : at_ < 0
        · simp [c1]
        · have c2 : at_ ≥ (findS m op).Out.H * (findS m op).Out.W := by omega
          simp [c2]
      | false =>
        obtain ⟨_, h1, h2⟩ := (ofBad_iff hS).1 hb
        have c1 : ¬ at_ < 0 := by omega
        have c2 : ¬ at_ ≥ (findS m op).Out.H * (findS m op).Out.W := by omega
        simp [c1, c2]
    · rw [(rc_ok h0).2 hc]
      have : ofBad (findS m op) ch at_ = true := by
        cases hb : ofBad (findS m op) ch at_ with
        | true => rfl
        | false => exact absurd ((ofBad_iff hS).1 hb).1 hc
      simp [this]
  · rw [rcE_bad h0]
    have z : (findE m op == 0) = false := by simpa using h0
    unfold ofE; rw [if_neg h0, z]; rfl
theorem ofE_rc0 {m : Model} {op ch : Int} : ofE m op ch 0 = rcE m op ch := by
  rw [ofE_rc]
  cases hq : rcE m op ch == 0 with
  | false => rfl
  | true =>
    obtain ⟨h0, hc, e⟩ := rcE_zero (by simpa using hq)
    obtain ⟨hS, _⟩ := site_ok h0
    obtain ⟨p1, p2, _⟩ := out_pos hS
    have c2 : ¬ (0 : Int) ≥ (findS m op).Out.H * (findS m op).Out.W := by omega
    rw [e, p1]; simp [c2]
theorem bias_eq {m : Model} {op ch at_ : Int} (h0 : findE m op = 0) (hb : ofBad (findS m op) ch at_ = false) : biasF m op ch at_ = if (findS m op).Op.Kind = 4 then 0 else w64 ((findS m op).Op.Bias.getD (w64 (ch - 1)).toNat default) := by
  simp [biasF, h0, hb]
theorem bias_ix {S : Site} (hS : SiteOk S) {ch : Int} (hch : 1 ≤ ch ∧ ch ≤ S.Out.C) : S.Op.Kind ≠ 4 → 0 ≤ w64 (ch - 1) ∧ w64 (ch - 1) < S.Op.Bias.length := fun k4 => by
  obtain ⟨w1, _, _, _, _, _, w7⟩ := of_weights hS k4 hch
  rw [w1]; omega
end Go.AM
end
section
open Go Go.AM Go.Proofs
set_option maxRecDepth 10000
set_option linter.unusedVariables false
set_option linter.unusedSimpArgs false
namespace Go.AM
def mx (a b : Int) : Int := if b > a then b else a
def mn (a b : Int) : Int := if b < a then b else a
def upF (l : List Term) : Int := l.foldl (fun s t => w64 (s + mx t.W 0)) 0
def downF (l : List Term) : Int := l.foldl (fun s t => w64 (s + mn t.W 0)) 0
theorem foldl_take {α β : Type} [Inhabited α] (f : β → α → β) (b : β) (l : List α) (k : Nat) (h : k < l.length) : (l.take (k + 1)).foldl f b = f ((l.take k).foldl f b) (l.getD k default) := by
  rw [List.take_add_one, List.foldl_append]
  simp [List.getD_eq_getElem?_getD, h]
theorem upF_succ {l : List Term} {k : Nat} (h : k < l.length) : IntKind.i64.wrap (upF (l.take k) + (if 0 > (l.getD ((k : Int)).toNat default).W then 0 else (l.getD ((k : Int)).toNat default).W)) = upF (l.take (k + 1)) := by
  rw [Int.toNat_natCast]
  unfold upF
  rw [foldl_take _ _ _ _ h]
  rfl
theorem downF_succ {l : List Term} {k : Nat} (h : k < l.length) : IntKind.i64.wrap (downF (l.take k) + (if 0 < (l.getD ((k : Int)).toNat default).W then 0 else (l.getD ((k : Int)).toNat default).W)) = downF (l.take (k + 1)) := by
  rw [Int.toNat_natCast]
  unfold downF
  rw [foldl_take _ _ _ _ h]
  rfl
theorem norm_weights (m : Model) (op ch : Int) : Ok Try.prog 41 [.agg (modelC m), .int .i64 op, .int .i64 ch] (.tup [.int .i64 (upF (termsF m op ch 0)), .int .i64 (downF (termsF m op ch 0)), .int .i64 (biasF m op ch 0), .int .i64 (ofE m op ch 0)]) := by
  have hl := termsF_len m op ch 0
  have hOf := terms_Of m op ch 0
  generalize termsF m op ch 0 = L at hOf hl ⊢
  refine fn_ok Tb_ok (fn := Try.f41) Try.func41 rfl rfl (e := [(0, _), (1, _), (2, _)]) rfl (by decide) rfl ?_
  refine W_seq ?_
  refine W_region rfl ?_
  refine L_box Tb_ok (cs := [.int _ _, .int _ _, .int _ _, .int _ _, .int _ _, _, .int _ _]) (n := 7) rfl rfl rfl rfl trivial ?_
  refine L_v Tb_ok (v := .int _ _) (av rfl ⟨trivial, trivial⟩) rfl ?_
  refine L_v Tb_ok (v := .int _ _) (av rfl ⟨trivial, trivial⟩) rfl ?_
  refine L_v Tb_ok (v := .int _ _) (av rfl ⟨trivial, trivial⟩) rfl ?_
  refine L_v Tb_ok (v := .int _ _) (av rfl ⟨trivial, trivial⟩) rfl ?_
  refine WL_nil ?_
  refine W_seq ?_
  refine W_region rfl ?_
  refine L_v Tb_ok (v := .agg [.int _ _, .int _ _, .int _ _, .int _ _, .int _ _, _, .int _ _]) (av rfl ⟨trivial, rfl⟩) rfl ?_
  refine L_v Tb_ok (v := .int _ _) (av rfl ⟨trivial, trivial⟩) rfl ?_
  refine L_v Tb_ok (v := .int _ _) (av rfl ⟨trivial, trivial⟩) rfl ?_
  refine L_call (hr := hOf) rfl rfl trivial rfl rfl ?_
  refine L_v Tb_ok (v := .tup [_, _, _]) (av rfl ⟨trivial, trivial⟩) rfl ?_
  first | (refine L_v Tb_ok (v := .ro _) (av rfl ⟨trivial, trivial⟩) rfl ?_) | (refine L_v Tb_ok (v := .app _ _) (av rfl ⟨trivial, trivial⟩) rfl ?_) | (refine L_v Tb_ok (v := .row _ _ _) (av rfl ⟨trivial, trivial⟩) rfl ?_) | (refine L_v Tb_ok (v := .nils) (av rfl ⟨trivial, trivial⟩) rfl ?_)
  refine L_v Tb_ok (v := .int _ _) (av rfl ⟨trivial, trivial⟩) rfl ?_
  refine L_v Tb_ok (v := .int _ _) (av rfl ⟨trivial, trivial⟩) rfl ?_
  first | (refine L_v Tb_ok (v := .ro _) (av rfl ⟨trivial, trivial⟩) rfl ?_) | (refine L_v Tb_ok (v := .app _ _) (av rfl ⟨trivial, trivial⟩) rfl ?_) | (refine L_v Tb_ok (v := .row _ _ _) (av rfl ⟨trivial, trivial⟩) rfl ?_) | (refine L_v Tb_ok (v := .nils) (av rfl ⟨trivial, trivial⟩) rfl ?_)
  refine L_v Tb_ok (v := .int _ _) (av rfl ⟨trivial, trivial⟩) rfl ?_
  refine L_v Tb_ok (v := .int _ _) (av rfl ⟨trivial, trivial⟩) rfl ?_
  refine WL_nil ?_
  refine W_seq ?_
  refine W_seq ?_
  refine W_region rfl ?_
  first | (refine L_v Tb_ok (v := .ro _) (av rfl ⟨trivial, trivial⟩) rfl ?_) | (refine L_v Tb_ok (v := .app _ _) (av rfl ⟨trivial, trivial⟩) rfl ?_) | (refine L_v Tb_ok (v := .row _ _ _) (av rfl ⟨trivial, trivial⟩) rfl ?_) | (refine L_v Tb_ok (v := .nils) (av rfl ⟨trivial, trivial⟩) rfl ?_)
  refine L_v Tb_ok (v := .int _ _) (av rfl ⟨trivial, trivial⟩) rfl ?_
  refine L_v Tb_ok (v := .int _ _) (av rfl ⟨trivial, trivial⟩) rfl ?_
  refine WL_nil ?_
  refine W_block ?_
  refine W_for L.length (fun k => ⟨[(6, .int .i64 (upF (L.take k))), (7, .int .i64 (downF (L.take k))), (8, .int .i64 (biasF m op ch 0)), (9, .int .i64 (ofE m op ch 0)), (21, .ro (L.map termC)), (22, .int .i64 ((L.map termC).length : Int)), (23, .int .i64 (k : Int))], [], [], 1⟩) (le_fit ⟨rfl, rfl, rfl, rfl, rfl, rfl, rfl, trivial⟩ trivial trivial rfl rfl rfl rfl rfl) ?_
  intro k hk
  refine W_seq ?_
  refine W_region rfl ?_
  refine L_v Tb_ok (v := .bool _) (av rfl ⟨trivial, trivial⟩) rfl ?_
  refine WL_nil ?_
  refine W_seq ?_
  refine W_cond (b := _) rfl (fun h24 => ?_) (fun h24 => ?_)
  · have hlt : k < L.length := by simpa using h24
    refine W_skip ?_
    refine W_seq ?_
    refine W_block ?_
    refine W_seq ?_
    refine W_region rfl ?_
    first | (refine L_v Tb_ok (v := _) (ave_index_ro rfl rfl rfl (fun _ => rfl) rfl (by first | omega | assumption | decide | (simp_all; done) | (simp_all; omega)) (by first | omega | assumption | decide | (simp_all; done) | (simp_all; omega)) trivial) rfl ?_) | (refine L_v Tb_ok (v := _) (ave_index_app rfl rfl rfl (fun _ => rfl) rfl (by first | omega | assumption | decide | (simp_all; done) | (simp_all; omega)) (by first | omega | assumption | decide | (simp_all; done) | (simp_all; omega)) trivial) rfl ?_) | (refine L_v Tb_ok (v := _) (ave_index_row rfl rfl rfl rfl rfl rfl (by first | omega | assumption | decide | (simp_all; done) | (simp_all; omega)) (by first | omega | assumption | decide | (simp_all; done) | (simp_all; omega)) trivial) rfl ?_) | (refine L_v Tb_ok (v := .rptr _) (av rfl ⟨trivial, ⟨(by first | omega | assumption | decide | (simp_all; done) | (simp_all; omega)), (by first | omega | assumption | decide | (simp_all; done) | (simp_all; omega))⟩, rfl⟩) rfl ?_) | (refine L_v Tb_ok (v := .ptr _ _ _) (av rfl ⟨trivial, ⟨(by first | omega | assumption | decide | (simp_all; done) | (simp_all; omega)), (by first | omega | assumption | decide | (simp_all; done) | (simp_all; omega))⟩, rfl⟩) rfl ?_)
    refine L_v Tb_ok (v := .agg [.int _ _, .int _ _]) (av rfl ⟨trivial, rfl⟩) rfl ?_
    refine L_alloc Tb_ok (z := [.int .i64 0, .int .i64 0]) (n := 2) rfl rfl rfl rfl rfl ?_
    refine L_store Tb_ok (v := .agg [.int _ _, .int _ _]) (cs := [_, _]) (es' := [[_, _]]) rfl rfl rfl rfl rfl rfl rfl rfl rfl rfl ⟨trivial, trivial⟩ ?_
    refine WL_nil ?_
    refine W_seq ?_
    refine W_region rfl ?_
    refine L_v Tb_ok (v := .int _ _) (av rfl ⟨trivial, trivial⟩) rfl ?_
    refine L_v Tb_ok (v := .ptr _ _ _) (av rfl ⟨trivial, trivial⟩) rfl ?_
    refine L_v Tb_ok (v := .int _ _) (av rfl ⟨trivial, rfl⟩) rfl ?_
    refine L_v Tb_ok (v := .int _ _) (av rfl ⟨trivial, trivial⟩) rfl ?_
    refine L_v Tb_ok (v := .int _ _) (av rfl ⟨trivial, trivial⟩) rfl ?_
    refine L_v Tb_ok (v := .int _ _) (av rfl ⟨trivial, trivial⟩) rfl ?_
    refine WL_nil ?_
    refine W_region rfl ?_
    refine L_v Tb_ok (v := .int _ _) (av rfl ⟨trivial, trivial⟩) rfl ?_
    refine L_v Tb_ok (v := .ptr _ _ _) (av rfl ⟨trivial, trivial⟩) rfl ?_
    refine L_v Tb_ok (v := .int _ _) (av rfl ⟨trivial, rfl⟩) rfl ?_
    refine L_v Tb_ok (v := .int _ _) (av rfl ⟨trivial, trivial⟩) rfl ?_
    refine L_v Tb_ok (v := .int _ _) (av rfl ⟨trivial, trivial⟩) rfl ?_
    refine L_v Tb_ok (v := .int _ _) (av rfl ⟨trivial, trivial⟩) rfl ?_
    refine WL_nil ?_
    refine W_region rfl ?_
    refine L_v Tb_ok (v := .int _ _) (av rfl ⟨trivial, trivial⟩) rfl ?_
    refine L_v Tb_ok (v := .int _ _) (av rfl ⟨trivial, trivial⟩) rfl ?_
    refine WL_nil ?_
    refine for_end hlt (le_fit ⟨congrArg (AV.int .i64) (upF_succ hlt), congrArg (AV.int .i64) (downF_succ hlt), rfl, rfl, rfl, rfl, congrArg _ (w_succ hlt (by omega)), trivial⟩ trivial trivial rfl rfl rfl rfl rfl)
  · have hke : k = L.length := by simp at h24; omega
    refine W_exit ?_
    repeat (first | refine pass_then ?_ | refine pass_once ?_ | refine pass_le ?_ | refine pass_round ?_ | refine pass_for ?_ | refine blockQ_miss rfl ?_)
    refine blockQ_hit ?_
    refine W_seq ?_
    refine W_region rfl ?_
    refine L_v Tb_ok (v := .int _ _) (av rfl ⟨trivial, trivial⟩) rfl ?_
    refine L_v Tb_ok (v := .int _ _) (av rfl ⟨trivial, trivial⟩) rfl ?_
    refine L_v Tb_ok (v := .int _ _) (av rfl ⟨trivial, trivial⟩) rfl ?_
    refine L_v Tb_ok (v := .int _ _) (av rfl ⟨trivial, trivial⟩) rfl ?_
    refine L_v Tb_ok (v := .int _ _) (av rfl ⟨trivial, trivial⟩) rfl ?_
    refine L_v Tb_ok (v := .int _ _) (av rfl ⟨trivial, trivial⟩) rfl ?_
    refine L_v Tb_ok (v := .int _ _) (av rfl ⟨trivial, trivial⟩) rfl ?_
    refine L_v Tb_ok (v := .int _ _) (av rfl ⟨trivial, trivial⟩) rfl ?_
    refine WL_nil ?_
    refine W_ret ?_
    refine ends (l := [.int _ _, .int _ _, .int _ _, .int _ _]) (q := .tup [.int _ _, .int _ _, .int _ _, .int _ _]) (.inr rfl) rfl ⟨trivial, trivial, trivial, trivial, trivial⟩ rfl rfl ?_
    rw [hke, List.take_length]
theorem norm_L1 (m : Model) (op ch : Int) : Ok Try.prog 24 [.agg (modelC m), .int .i64 op, .int .i64 ch] (.tup [.int .i64 (w64 (upF (termsF m op ch 0) - downF (termsF m op ch 0))), .int .i64 (ofE m op ch 0)]) := by
  refine fn_ok Tb_ok (fn := Try.f24) Try.func24 rfl rfl (e := [(0, _), (1, _), (2, _)]) rfl (by decide) rfl ?_
  refine W_seq ?_
  refine W_region rfl ?_
  refine L_box Tb_ok (cs := [.int _ _, .int _ _, .int _ _, .int _ _, .int _ _, _, .int _ _]) (n := 7) rfl rfl rfl rfl trivial ?_
  refine L_v Tb_ok (v := .int _ _) (av rfl ⟨trivial, trivial⟩) rfl ?_
  refine L_v Tb_ok (v := .int _ _) (av rfl ⟨trivial, trivial⟩) rfl ?_
  refine WL_nil ?_
  refine W_seq ?_
  refine W_region rfl ?_
  refine L_v Tb_ok (v := .agg [.int _ _, .int _ _, .int _ _, .int _ _, .int _ _, _, .int _ _]) (av rfl ⟨trivial, rfl⟩) rfl ?_
  refine L_v Tb_ok (v := .int _ _) (av rfl ⟨trivial, trivial⟩) rfl ?_
  refine L_v Tb_ok (v := .int _ _) (av rfl ⟨trivial, trivial⟩) rfl ?_
  refine L_call (hr := norm_weights m op ch) rfl rfl trivial rfl rfl ?_
  refine L_v Tb_ok (v := .tup [_, _, _, _]) (av rfl ⟨trivial, trivial⟩) rfl ?_
  refine L_v Tb_ok (v := .int _ _) (av rfl ⟨trivial, trivial⟩) rfl ?_
  refine L_v Tb_ok (v := .int _ _) (av rfl ⟨trivial, trivial⟩) rfl ?_
  refine L_v Tb_ok (v := .int _ _) (av rfl ⟨trivial, trivial⟩) rfl ?_
  refine L_v Tb_ok (v := .int _ _) (av rfl ⟨trivial, trivial⟩) rfl ?_
  refine L_v Tb_ok (v := .int _ _) (av rfl ⟨trivial, trivial⟩) rfl ?_
  refine L_v Tb_ok (v := .int _ _) (av rfl ⟨trivial, trivial⟩) rfl ?_
  refine L_v Tb_ok (v := .int _ _) (av rfl ⟨trivial, trivial⟩) rfl ?_
  refine L_v Tb_ok (v := .int _ _) (av rfl ⟨trivial, trivial⟩) rfl ?_
  refine WL_nil ?_
  refine W_seq ?_
  refine W_region rfl ?_
  refine L_v Tb_ok (v := .int _ _) (av rfl ⟨trivial, trivial⟩) rfl ?_
  refine L_v Tb_ok (v := .int _ _) (av rfl ⟨trivial, trivial⟩) rfl ?_
  refine L_v Tb_ok (v := .int _ _) (av rfl ⟨trivial, trivial⟩) rfl ?_
  refine L_v Tb_ok (v := .int _ _) (av rfl ⟨trivial, trivial⟩) rfl ?_
  refine L_v Tb_ok (v := .int _ _) (av rfl ⟨trivial, trivial⟩) rfl ?_
  refine L_v Tb_ok (v := .int _ _) (av rfl ⟨trivial, trivial⟩) rfl ?_
  refine WL_nil ?_
  refine W_ret ?_
  refine ends (l := [.int _ _, .int _ _]) (q := .tup [.int _ _, .int _ _]) (.inr rfl) rfl ⟨trivial, trivial, trivial⟩ rfl rfl ?_
  rfl
theorem norm_Signed (m : Model) (op ch : Int) : Ok Try.prog 25 [.agg (modelC m), .int .i64 op, .int .i64 ch] (.tup [.int .i64 (upF (termsF m op ch 0)), .int .i64 (downF (termsF m op ch 0)), .int .i64 (ofE m op ch 0)]) := by
  refine fn_ok Tb_ok (fn := Try.f25) Try.func25 rfl rfl (e := [(0, _), (1, _), (2, _)]) rfl (by decide) rfl ?_
  refine W_seq ?_
  refine W_region rfl ?_
  refine L_box Tb_ok (cs := [.int _ _, .int _ _, .int _ _, .int _ _, .int _ _, _, .int _ _]) (n := 7) rfl rfl rfl rfl trivial ?_
  refine L_v Tb_ok (v := .int _ _) (av rfl ⟨trivial, trivial⟩) rfl ?_
  refine L_v Tb_ok (v := .int _ _) (av rfl ⟨trivial, trivial⟩) rfl ?_
  refine L_v Tb_ok (v := .int _ _) (av rfl ⟨trivial, trivial⟩) rfl ?_
  refine WL_nil ?_
  refine W_seq ?_
  refine W_region rfl ?_
  refine L_v Tb_ok (v := .agg [.int _ _, .int _ _, .int _ _, .int _ _, .int _ _, _, .int _ _]) (av rfl ⟨trivial, rfl⟩) rfl ?_
  refine L_v Tb_ok (v := .int _ _) (av rfl ⟨trivial, trivial⟩) rfl ?_
  refine L_v Tb_ok (v := .int _ _) (av rfl ⟨trivial, trivial⟩) rfl ?_
  refine L_call (hr := norm_weights m op ch) rfl rfl trivial rfl rfl ?_
  refine L_v Tb_ok (v := .tup [_, _, _, _]) (av rfl ⟨trivial, trivial⟩) rfl ?_
  refine L_v Tb_ok (v := .int _ _) (av rfl ⟨trivial, trivial⟩) rfl ?_
  refine L_v Tb_ok (v := .int _ _) (av rfl ⟨trivial, trivial⟩) rfl ?_
  refine L_v Tb_ok (v := .int _ _) (av rfl ⟨trivial, trivial⟩) rfl ?_
  refine L_v Tb_ok (v := .int _ _) (av rfl ⟨trivial, trivial⟩) rfl ?_
  refine L_v Tb_ok (v := .int _ _) (av rfl ⟨trivial, trivial⟩) rfl ?_
  refine L_v Tb_ok (v := .int _ _) (av rfl ⟨trivial, trivial⟩) rfl ?_
  refine L_v Tb_ok (v := .int _ _) (av rfl ⟨trivial, trivial⟩) rfl ?_
  refine L_v Tb_ok (v := .int _ _) (av rfl ⟨trivial, trivial⟩) rfl ?_
  refine WL_nil ?_
  refine W_seq ?_
  refine W_region rfl ?_
  refine L_v Tb_ok (v := .int _ _) (av rfl ⟨trivial, trivial⟩) rfl ?_
  refine L_v Tb_ok (v := .int _ _) (av rfl ⟨trivial, trivial⟩) rfl ?_
  refine L_v Tb_ok (v := .int _ _) (av rfl ⟨trivial, trivial⟩) rfl ?_
  refine L_v Tb_ok (v := .int _ _) (av rfl ⟨trivial, trivial⟩) rfl ?_
  refine L_v Tb_ok (v := .int _ _) (av rfl ⟨trivial, trivial⟩) rfl ?_
  refine L_v Tb_ok (v := .int _ _) (av rfl ⟨trivial, trivial⟩) rfl ?_
  refine WL_nil ?_
  refine W_ret ?_
  refine ends (l := [.int _ _, .int _ _, .int _ _]) (q := .tup [.int _ _, .int _ _, .int _ _]) (.inr rfl) rfl ⟨trivial, trivial, trivial, trivial⟩ rfl rfl ?_
  rfl
def qBad (s : Span) : Bool := bif bif decide (s.Lo < -128) then true else decide (s.Lo > s.Hi) then true else decide (s.Hi > 127)
def qOp (m : Model) (op : Int) : MOp := m.Ops.getD (w64 (op - 1)).toNat default
def qPads (w : Window) : Bool := decide (mx (mx (mx w.Top w.Left) w.Bottom) w.Right > 0)
def qReach1 (s : Span) : Int := mx (mx (mx (w64 (0 - s.Lo)) s.Hi) (w64 (0 - s.Hi))) s.Lo
def qReach (o : MOp) (s : Span) : Int := bif qPads o.Win then mx (mx (qReach1 s) o.Pad) (w64 (0 - o.Pad)) else qReach1 s
def qD (m : Model) (op ch : Int) (s : Span) : Int := w64 (qReach (qOp m op) s * w64 (upF (termsF m op ch 0) - downF (termsF m op ch 0)))
def quickE (m : Model) (op ch : Int) (s : Span) : Int := if ofE m op ch 0 = 0 then if qBad s then 30 else 0 else ofE m op ch 0
def quickS (m : Model) (op ch : Int) (s : Span) : Span := if ofE m op ch 0 = 0 then if qBad s then ⟨0, 0⟩ else ⟨w64 (biasF m op ch 0 - qD m op ch s), w64 (biasF m op ch 0 + qD m op ch s)⟩ else ⟨0, 0⟩
theorem norm_Quick (m : Model) (op ch : Int) (s : Span) : Ok Try.prog 28 [.agg (modelC m), .int .i64 op, .int .i64 ch, .agg (spanC s)] (.tup [.agg (spanC (quickS m op ch s)), .int .i64 (quickE m op ch s)]) := by
  refine fn_ok Tb_ok (fn := Try.f28) Try.func28 rfl rfl (e := [(0, _), (1, _), (2, _), (3, _)]) rfl (by decide) rfl ?_
  refine W_seq ?_
  refine W_region rfl ?_
  refine L_box Tb_ok (cs := [.int _ _, .int _ _, .int _ _, .int _ _, .int _ _, _, .int _ _]) (n := 7) rfl rfl rfl rfl trivial ?_
  refine L_box Tb_ok (cs := [.int _ _, .int _ _]) (n := 2) rfl rfl rfl rfl trivial ?_
  refine L_alloc Tb_ok (z := [.int .i64 0, .int .i64 0]) (n := 2) rfl rfl rfl rfl rfl ?_
  refine L_v Tb_ok (v := .int _ _) (av rfl ⟨trivial, trivial⟩) rfl ?_
  refine WL_nil ?_
  refine W_seq ?_
  refine W_region rfl ?_
  refine L_v Tb_ok (v := .agg [.int _ _, .int _ _, .int _ _, .int _ _, .int _ _, _, .int _ _]) (av rfl ⟨trivial, rfl⟩) rfl ?_
  refine L_v Tb_ok (v := .int _ _) (av rfl ⟨trivial, trivial⟩) rfl ?_
  refine L_v Tb_ok (v := .int _ _) (av rfl ⟨trivial, trivial⟩) rfl ?_
  refine L_call (hr := norm_weights m op ch) rfl rfl trivial rfl rfl ?_
  refine L_v Tb_ok (v := .tup [_, _, _, _]) (av rfl ⟨trivial, trivial⟩) rfl ?_
  refine L_v Tb_ok (v := .int _ _) (av rfl ⟨trivial, trivial⟩) rfl ?_
  refine L_v Tb_ok (v := .int _ _) (av rfl ⟨trivial, trivial⟩) rfl ?_
  refine L_v Tb_ok (v := .int _ _) (av rfl ⟨trivial, trivial⟩) rfl ?_
  refine L_v Tb_ok (v := .int _ _) (av rfl ⟨trivial, trivial⟩) rfl ?_
  refine L_v Tb_ok (v := .int _ _) (av rfl ⟨trivial, trivial⟩) rfl ?_
  refine L_v Tb_ok (v := .int _ _) (av rfl ⟨trivial, trivial⟩) rfl ?_
  refine L_v Tb_ok (v := .int _ _) (av rfl ⟨trivial, trivial⟩) rfl ?_
  refine L_v Tb_ok (v := .int _ _) (av rfl ⟨trivial, trivial⟩) rfl ?_
  refine WL_nil ?_
  refine W_seq ?_
  refine W_seq ?_
  refine W_region rfl ?_
  refine L_v Tb_ok (v := .int _ _) (av rfl ⟨trivial, trivial⟩) rfl ?_
  refine L_v Tb_ok (v := .bool _) (av rfl ⟨trivial, trivial⟩) rfl ?_
  refine WL_nil ?_
  refine W_cond (b := _) rfl (fun h28 => ?_) (fun h28 => ?_)
  · have h0 : ofE m op ch 0 ≠ 0 := by simpa using h28
    refine W_seq ?_
    refine W_region rfl ?_
    refine L_v Tb_ok (v := .agg [.int _ _, .int _ _]) (av rfl ⟨trivial, rfl⟩) rfl ?_
    refine L_v Tb_ok (v := .int _ _) (av rfl ⟨trivial, trivial⟩) rfl ?_
    refine L_store Tb_ok (v := .agg [.int _ _, .int _ _]) (cs := [_, _]) (es' := [[_, _]]) rfl rfl rfl rfl rfl rfl rfl rfl rfl rfl ⟨trivial, trivial⟩ ?_
    refine L_v Tb_ok (v := .int _ _) (av rfl ⟨trivial, trivial⟩) rfl ?_
    refine WL_nil ?_
    refine W_ret ?_
    refine ends (l := [.agg [.int _ _, .int _ _], .int _ _]) (q := .tup [.agg [.int _ _, .int _ _], .int _ _]) (.inr rfl) rfl ⟨rfl, trivial, trivial⟩ rfl rfl ?_
    simp only [quickS, quickE, if_neg h0]; rfl
  · have h0 : ofE m op ch 0 = 0 := by simpa using h28
    obtain ⟨_, _, o1, o2, o3, o4⟩ := ofE_op h0
    refine W_skip ?_
    refine W_seq ?_
    refine W_seq ?_
    refine W_region rfl ?_
    refine L_v Tb_ok (v := .ptr _ _ _) (av rfl ⟨trivial, trivial⟩) rfl ?_
    refine L_v Tb_ok (v := .int _ _) (av rfl ⟨trivial, rfl⟩) rfl ?_
    refine L_v Tb_ok (v := .bool _) (av rfl ⟨trivial, trivial⟩) rfl ?_
    refine L_v Tb_ok (v := .bool _) (av rfl ⟨trivial, trivial⟩) rfl ?_
    refine L_g Tb_ok (v := .ptr _ _ _) rfl rfl ((fun hg => (av rfl ⟨trivial, trivial⟩))) rfl rfl ?_
    refine L_g Tb_ok (v := .int _ _) rfl rfl ((fun hg => (av rfl ⟨⟨⟨(by first | exact hg | (simp_all; done) | (simp at hg ⊢; simp [hg])), True.intro⟩, True.intro⟩, rfl⟩))) rfl rfl ?_
    refine L_g Tb_ok (v := .ptr _ _ _) rfl rfl ((fun hg => (av rfl ⟨trivial, trivial⟩))) rfl rfl ?_
    refine L_g Tb_ok (v := .int _ _) rfl rfl ((fun hg => (av rfl ⟨⟨⟨(by first | exact hg | (simp_all; done) | (simp at hg ⊢; simp [hg])), True.intro⟩, True.intro⟩, rfl⟩))) rfl rfl ?_
    refine L_g Tb_ok (v := .bool _) rfl rfl ((fun hg => (av rfl ⟨⟨⟨(by first | exact hg | (simp_all; done) | (simp at hg ⊢; simp [hg])), True.intro⟩, ⟨⟨(by first | exact hg | (simp_all; done) | (simp at hg ⊢; simp [hg])), True.intro⟩, True.intro⟩⟩, trivial⟩))) rfl rfl ?_
    refine L_v Tb_ok (v := .bool _) (av rfl (by refine ⟨?_, fun h => ?_, fun h => ?_⟩ <;> first | exact True.intro | exact ⟨h, True.intro⟩ | (refine ⟨?_, True.intro⟩; first | (rw [h]; done) | (rw [h]; rfl) | (simp [h]; done) | (simp at h hg ⊢; simp [h, hg]; done) | (simp_all; done) | (simp_all; omega)))) rfl ?_
    refine L_v Tb_ok (v := .bool _) (av rfl ⟨trivial, trivial⟩) rfl ?_
    refine L_g Tb_ok (v := .ptr _ _ _) rfl rfl ((fun hg => (av rfl ⟨trivial, trivial⟩))) rfl rfl ?_
    refine L_g Tb_ok (v := .int _ _) rfl rfl ((fun hg => (av rfl ⟨⟨⟨(by first | exact hg | (simp_all; done) | (simp at hg ⊢; simp [hg])), True.intro⟩, True.intro⟩, rfl⟩))) rfl rfl ?_
    refine L_g Tb_ok (v := .bool _) rfl rfl ((fun hg => (av rfl ⟨⟨⟨(by first | exact hg | (simp_all; done) | (simp at hg ⊢; simp [hg])), True.intro⟩, True.intro⟩, trivial⟩))) rfl rfl ?_
    refine L_v Tb_ok (v := .bool _) (av rfl (by refine ⟨?_, fun h => ?_, fun h => ?_⟩ <;> first | exact True.intro | exact ⟨h, True.intro⟩ | (refine ⟨?_, True.intro⟩; first | (rw [h]; done) | (rw [h]; rfl) | (simp [h]; done) | (simp at h hg ⊢; simp [h, hg]; done) | (simp_all; done) | (simp_all; omega)))) rfl ?_
    refine WL_nil ?_
    refine W_cond (b := _) rfl (fun h45 => ?_) (fun h45 => ?_)
    · have hb : qBad s = true := h45
      refine W_seq ?_
      refine W_region rfl ?_
      refine L_v Tb_ok (v := .agg [.int _ _, .int _ _]) (av rfl ⟨trivial, rfl⟩) rfl ?_
      refine L_store Tb_ok (v := .agg [.int _ _, .int _ _]) (cs := [_, _]) (es' := [[_, _]]) rfl rfl rfl rfl rfl rfl rfl rfl rfl rfl ⟨trivial, trivial⟩ ?_
      refine L_v Tb_ok (v := .int _ _) (av rfl ⟨trivial, trivial⟩) rfl ?_
      refine WL_nil ?_
      refine W_ret ?_
      refine ends (l := [.agg [.int _ _, .int _ _], .int _ _]) (q := .tup [.agg [.int _ _, .int _ _], .int _ _]) (.inr rfl) rfl ⟨rfl, trivial, trivial⟩ rfl rfl ?_
      simp only [quickS, quickE, if_pos h0, hb, if_true]; rfl
    · have hb : qBad s = false := h45
      refine W_skip ?_
      refine W_seq ?_
      refine W_region rfl ?_
      refine L_v Tb_ok (v := .ptr _ _ _) (av rfl ⟨trivial, trivial⟩) rfl ?_
      refine L_v Tb_ok (v := .int _ _) (av rfl ⟨trivial, rfl⟩) rfl ?_
      refine L_v Tb_ok (v := .int _ _) (av rfl ⟨trivial, trivial⟩) rfl ?_
      refine L_v Tb_ok (v := .ptr _ _ _) (av rfl ⟨trivial, trivial⟩) rfl ?_
      refine L_v Tb_ok (v := .int _ _) (av rfl ⟨trivial, rfl⟩) rfl ?_
      refine L_v Tb_ok (v := .ptr _ _ _) (av rfl ⟨trivial, trivial⟩) rfl ?_
      refine L_v Tb_ok (v := .int _ _) (av rfl ⟨trivial, rfl⟩) rfl ?_
      refine L_v Tb_ok (v := .int _ _) (av rfl ⟨trivial, trivial⟩) rfl ?_
      refine L_v Tb_ok (v := .ptr _ _ _) (av rfl ⟨trivial, trivial⟩) rfl ?_
      refine L_v Tb_ok (v := .int _ _) (av rfl ⟨trivial, rfl⟩) rfl ?_
      refine L_v Tb_ok (v := .int _ _) (av rfl ⟨trivial, trivial⟩) rfl ?_
      refine L_v Tb_ok (v := .int _ _) (av rfl ⟨trivial, trivial⟩) rfl ?_
      refine WL_nil ?_
      refine W_seq ?_
      refine W_seq ?_
      refine W_region rfl ?_
      refine L_v Tb_ok (v := .ptr _ _ _) (av rfl ⟨trivial, trivial⟩) rfl ?_
      first | (refine L_v Tb_ok (v := .ro _) (av rfl ⟨trivial, rfl⟩) rfl ?_) | (refine L_v Tb_ok (v := .app _ _) (av rfl ⟨trivial, rfl⟩) rfl ?_) | (refine L_v Tb_ok (v := .row _ _ _) (av rfl ⟨trivial, rfl⟩) rfl ?_) | (refine L_v Tb_ok (v := .nils) (av rfl ⟨trivial, rfl⟩) rfl ?_)
      refine L_v Tb_ok (v := .int _ _) (av rfl ⟨trivial, trivial⟩) rfl ?_
      refine L_v Tb_ok (v := .int _ _) (av rfl ⟨trivial, trivial⟩) rfl ?_
      first | (refine L_v Tb_ok (v := _) (ave_index_ro rfl rfl rfl (fun _ => rfl) rfl (by first | (show 0 ≤ w64 (op - 1); rw [o1]; exact o2) | (show w64 (op - 1) < _; rw [o1]; exact o3)) (by first | (show 0 ≤ w64 (op - 1); rw [o1]; exact o2) | (show w64 (op - 1) < _; rw [o1]; exact o3)) trivial) rfl ?_) | (refine L_v Tb_ok (v := _) (ave_index_app rfl rfl rfl (fun _ => rfl) rfl (by first | (show 0 ≤ w64 (op - 1); rw [o1]; exact o2) | (show w64 (op - 1) < _; rw [o1]; exact o3)) (by first | (show 0 ≤ w64 (op - 1); rw [o1]; exact o2) | (show w64 (op - 1) < _; rw [o1]; exact o3)) trivial) rfl ?_) | (refine L_v Tb_ok (v := _) (ave_index_row rfl rfl rfl rfl rfl rfl (by first | (show 0 ≤ w64 (op - 1); rw [o1]; exact o2) | (show w64 (op - 1) < _; rw [o1]; exact o3)) (by first | (show 0 ≤ w64 (op - 1); rw [o1]; exact o2) | (show w64 (op - 1) < _; rw [o1]; exact o3)) trivial) rfl ?_) | (refine L_v Tb_ok (v := .rptr _) (av rfl ⟨trivial, ⟨(by first | (show 0 ≤ w64 (op - 1); rw [o1]; exact o2) | (show w64 (op - 1) < _; rw [o1]; exact o3)), (by first | (show 0 ≤ w64 (op - 1); rw [o1]; exact o2) | (show w64 (op - 1) < _; rw [o1]; exact o3))⟩, rfl⟩) rfl ?_) | (refine L_v Tb_ok (v := .ptr _ _ _) (av rfl ⟨trivial, ⟨(by first | (show 0 ≤ w64 (op - 1); rw [o1]; exact o2) | (show w64 (op - 1) < _; rw [o1]; exact o3)), (by first | (show 0 ≤ w64 (op - 1); rw [o1]; exact o2) | (show w64 (op - 1) < _; rw [o1]; exact o3))⟩, rfl⟩) rfl ?_)
      first | (refine L_v Tb_ok (v := .ptr _ _ _) (av rfl ⟨trivial, trivial⟩) rfl ?_) | (refine L_v Tb_ok (v := .rptr _) (av rfl ⟨trivial, trivial⟩) rfl ?_)
      refine L_v Tb_ok (v := .agg [.int _ _, .int _ _, .int _ _, .int _ _, .int _ _, .int _ _, .int _ _, .int _ _]) (av rfl ⟨trivial, rfl⟩) rfl ?_
      refine L_alloc Tb_ok (z := [.int .i64 0, .int .i64 0, .int .i64 0, .int .i64 0, .int .i64 0, .int .i64 0, .int .i64 0, .int .i64 0]) (n := 8) rfl rfl rfl rfl rfl ?_
      refine L_store Tb_ok (v := .agg [.int _ _, .int _ _, .int _ _, .int _ _, .int _ _, .int _ _, .int _ _, .int _ _]) (cs := [_, _, _, _, _, _, _, _]) (es' := [[_, _, _, _, _, _, _, _]]) rfl rfl rfl rfl rfl rfl rfl rfl rfl rfl ⟨trivial, trivial⟩ ?_
      refine WL_nil ?_
      refine W_seq ?_
      refine W_region rfl ?_
      refine L_v Tb_ok (v := .ptr _ _ _) (av rfl ⟨trivial, trivial⟩) rfl ?_
      refine L_v Tb_ok (v := .int _ _) (av rfl ⟨trivial, rfl⟩) rfl ?_
      refine L_v Tb_ok (v := .ptr _ _ _) (av rfl ⟨trivial, trivial⟩) rfl ?_
      refine L_v Tb_ok (v := .int _ _) (av rfl ⟨trivial, rfl⟩) rfl ?_
      refine L_v Tb_ok (v := .ptr _ _ _) (av rfl ⟨trivial, trivial⟩) rfl ?_
      refine L_v Tb_ok (v := .int _ _) (av rfl ⟨trivial, rfl⟩) rfl ?_
      refine L_v Tb_ok (v := .ptr _ _ _) (av rfl ⟨trivial, trivial⟩) rfl ?_
      refine L_v Tb_ok (v := .int _ _) (av rfl ⟨trivial, rfl⟩) rfl ?_
      refine L_v Tb_ok (v := .int _ _) (av rfl ⟨trivial, trivial⟩) rfl ?_
      refine L_v Tb_ok (v := .bool _) (av rfl ⟨trivial, trivial⟩) rfl ?_
      refine WL_nil ?_
      refine W_cond (b := _) rfl (fun h74 => ?_) (fun h74 => ?_)
      · have hp : qPads (qOp m op).Win = true := h74
        refine W_seq ?_
        refine W_region rfl ?_
        refine L_v Tb_ok (v := .ptr _ _ _) (av rfl ⟨trivial, trivial⟩) rfl ?_
        first | (refine L_v Tb_ok (v := .ro _) (av rfl ⟨trivial, rfl⟩) rfl ?_) | (refine L_v Tb_ok (v := .app _ _) (av rfl ⟨trivial, rfl⟩) rfl ?_) | (refine L_v Tb_ok (v := .row _ _ _) (av rfl ⟨trivial, rfl⟩) rfl ?_) | (refine L_v Tb_ok (v := .nils) (av rfl ⟨trivial, rfl⟩) rfl ?_)
        refine L_v Tb_ok (v := .int _ _) (av rfl ⟨trivial, trivial⟩) rfl ?_
        refine L_v Tb_ok (v := .int _ _) (av rfl ⟨trivial, trivial⟩) rfl ?_
        first | (refine L_v Tb_ok (v := _) (ave_index_ro rfl rfl rfl (fun _ => rfl) rfl (by first | (show 0 ≤ w64 (op - 1); rw [o1]; exact o2) | (show w64 (op - 1) < _; rw [o1]; exact o3)) (by first | (show 0 ≤ w64 (op - 1); rw [o1]; exact o2) | (show w64 (op - 1) < _; rw [o1]; exact o3)) trivial) rfl ?_) | (refine L_v Tb_ok (v := _) (ave_index_app rfl rfl rfl (fun _ => rfl) rfl (by first | (show 0 ≤ w64 (op - 1); rw [o1]; exact o2) | (show w64 (op - 1) < _; rw [o1]; exact o3)) (by first | (show 0 ≤ w64 (op - 1); rw [o1]; exact o2) | (show w64 (op - 1) < _; rw [o1]; exact o3)) trivial) rfl ?_) | (refine L_v Tb_ok (v := _) (ave_index_row rfl rfl rfl rfl rfl rfl (by first | (show 0 ≤ w64 (op - 1); rw [o1]; exact o2) | (show w64 (op - 1) < _; rw [o1]; exact o3)) (by first | (show 0 ≤ w64 (op - 1); rw [o1]; exact o2) | (show w64 (op - 1) < _; rw [o1]; exact o3)) trivial) rfl ?_) | (refine L_v Tb_ok (v := .rptr _) (av rfl ⟨trivial, ⟨(by first | (show 0 ≤ w64 (op - 1); rw [o1]; exact o2) | (show w64 (op - 1) < _; rw [o1]; exact o3)), (by first | (show 0 ≤ w64 (op - 1); rw [o1]; exact o2) | (show w64 (op - 1) < _; rw [o1]; exact o3))⟩, rfl⟩) rfl ?_) | (refine L_v Tb_ok (v := .ptr _ _ _) (av rfl ⟨trivial, ⟨(by first | (show 0 ≤ w64 (op - 1); rw [o1]; exact o2) | (show w64 (op - 1) < _; rw [o1]; exact o3)), (by first | (show 0 ≤ w64 (op - 1); rw [o1]; exact o2) | (show w64 (op - 1) < _; rw [o1]; exact o3))⟩, rfl⟩) rfl ?_)
        first | (refine L_v Tb_ok (v := .ptr _ _ _) (av rfl ⟨trivial, trivial⟩) rfl ?_) | (refine L_v Tb_ok (v := .rptr _) (av rfl ⟨trivial, trivial⟩) rfl ?_)
        refine L_v Tb_ok (v := .int _ _) (av rfl ⟨trivial, rfl⟩) rfl ?_
        refine L_v Tb_ok (v := .int _ _) (av rfl ⟨trivial, trivial⟩) rfl ?_
        refine WL_nil ?_
        refine W_region rfl ?_
        refine L_v Tb_ok (v := .int _ _) (av rfl ⟨trivial, trivial⟩) rfl ?_
        refine L_v Tb_ok (v := .int _ _) (av rfl ⟨trivial, trivial⟩) rfl ?_
        refine L_v Tb_ok (v := .int _ _) (av rfl ⟨trivial, trivial⟩) rfl ?_
        refine L_v Tb_ok (v := .int _ _) (av rfl ⟨trivial, trivial⟩) rfl ?_
        refine L_v Tb_ok (v := .int _ _) (av rfl ⟨trivial, trivial⟩) rfl ?_
        refine L_v Tb_ok (v := .int _ _) (av rfl ⟨trivial, trivial⟩) rfl ?_
        refine WL_nil ?_
        refine W_seq ?_
        refine W_region rfl ?_
        refine L_v Tb_ok (v := .int _ _) (av rfl ⟨trivial, trivial⟩) rfl ?_
        refine L_v Tb_ok (v := .int _ _) (av rfl ⟨trivial, trivial⟩) rfl ?_
        refine L_v Tb_ok (v := .int _ _) (av rfl ⟨trivial, trivial⟩) rfl ?_
        refine L_v Tb_ok (v := .int _ _) (av rfl ⟨trivial, trivial⟩) rfl ?_
        refine L_v Tb_ok (v := .int _ _) (av rfl ⟨trivial, trivial⟩) rfl ?_
        refine L_v Tb_ok (v := .int _ _) (av rfl ⟨trivial, trivial⟩) rfl ?_
        refine WL_nil ?_
        refine W_seq ?_
        refine W_region rfl ?_
        refine L_v Tb_ok (v := .int _ _) (av rfl ⟨trivial, trivial⟩) rfl ?_
        refine L_v Tb_ok (v := .int _ _) (av rfl ⟨trivial, trivial⟩) rfl ?_
        refine L_v Tb_ok (v := .int _ _) (av rfl ⟨trivial, trivial⟩) rfl ?_
        refine L_v Tb_ok (v := .int _ _) (av rfl ⟨trivial, trivial⟩) rfl ?_
        refine L_v Tb_ok (v := .int _ _) (av rfl ⟨trivial, trivial⟩) rfl ?_
        refine L_v Tb_ok (v := .int _ _) (av rfl ⟨trivial, trivial⟩) rfl ?_
        refine L_v Tb_ok (v := .agg [.int _ _, .int _ _]) (av rfl ⟨trivial, rfl⟩) rfl ?_
        refine L_store Tb_ok (v := .agg [.int _ _, .int _ _]) (cs := [_, _]) (es' := [[_, _]]) rfl rfl rfl rfl rfl rfl rfl rfl rfl rfl ⟨trivial, trivial⟩ ?_
        refine L_v Tb_ok (v := .int _ _) (av rfl ⟨trivial, trivial⟩) rfl ?_
        refine WL_nil ?_
        refine W_ret ?_
        refine ends (l := [.agg [.int _ _, .int _ _], .int _ _]) (q := .tup [.agg [.int _ _, .int _ _], .int _ _]) (.inr rfl) rfl ⟨rfl, trivial, trivial⟩ rfl rfl ?_
        simp only [quickS, quickE, if_pos h0, hb, if_false, Bool.false_eq_true, qD, qReach, hp, cond_true]; rfl
      · have hp : qPads (qOp m op).Win = false := h74
        refine W_skip ?_
        refine W_seq ?_
        refine W_region rfl ?_
        refine L_v Tb_ok (v := .int _ _) (av rfl ⟨trivial, trivial⟩) rfl ?_
        refine L_v Tb_ok (v := .int _ _) (av rfl ⟨trivial, trivial⟩) rfl ?_
        refine L_v Tb_ok (v := .int _ _) (av rfl ⟨trivial, trivial⟩) rfl ?_
        refine L_v Tb_ok (v := .int _ _) (av rfl ⟨trivial, trivial⟩) rfl ?_
        refine L_v Tb_ok (v := .int _ _) (av rfl ⟨trivial, trivial⟩) rfl ?_
        refine L_v Tb_ok (v := .int _ _) (av rfl ⟨trivial, trivial⟩) rfl ?_
        refine WL_nil ?_
        refine W_seq ?_
        refine W_region rfl ?_
        refine L_v Tb_ok (v := .int _ _) (av rfl ⟨trivial, trivial⟩) rfl ?_
        refine L_v Tb_ok (v := .int _ _) (av rfl ⟨trivial, trivial⟩) rfl ?_
        refine L_v Tb_ok (v := .int _ _) (av rfl ⟨trivial, trivial⟩) rfl ?_
        refine L_v Tb_ok (v := .int _ _) (av rfl ⟨trivial, trivial⟩) rfl ?_
        refine L_v Tb_ok (v := .int _ _) (av rfl ⟨trivial, trivial⟩) rfl ?_
        refine L_v Tb_ok (v := .int _ _) (av rfl ⟨trivial, trivial⟩) rfl ?_
        refine L_v Tb_ok (v := .agg [.int _ _, .int _ _]) (av rfl ⟨trivial, rfl⟩) rfl ?_
        refine L_store Tb_ok (v := .agg [.int _ _, .int _ _]) (cs := [_, _]) (es' := [[_, _]]) rfl rfl rfl rfl rfl rfl rfl rfl rfl rfl ⟨trivial, trivial⟩ ?_
        refine L_v Tb_ok (v := .int _ _) (av rfl ⟨trivial, trivial⟩) rfl ?_
        refine WL_nil ?_
        refine W_ret ?_
        refine ends (l := [.agg [.int _ _, .int _ _], .int _ _]) (q := .tup [.agg [.int _ _, .int _ _], .int _ _]) (.inr rfl) rfl ⟨rfl, trivial, trivial⟩ rfl rfl ?_
        simp only [quickS, quickE, if_pos h0, hb, if_false, Bool.false_eq_true, qD, qReach, hp, cond_false]; rfl
theorem law12_one : Ok Try.prog 42 [] (.agg (modelC mPlain)) := by
  refine fn_ok Tb_ok (fn := Try.f42) Try.func42 rfl rfl (e := []) rfl (by decide) rfl ?_
  refine W_seq ?_
  refine W_region rfl ?_
  refine L_alloc Tb_ok (z := [.int .i64 0, .int .i64 0, .int .i64 0, .int .i64 0, .int .i64 0, .nils, .int .i64 0]) (n := 7) rfl rfl rfl rfl rfl ?_
  refine WL_nil ?_
  refine W_seq ?_
  refine W_region rfl ?_
  refine L_v Tb_ok (v := .agg [.int _ _, .int _ _, .int _ _]) (av rfl ⟨trivial, rfl⟩) rfl ?_
  refine L_build Tb_ok (t := 35) (len := 2) (el := 57) (sz := 1) (es := [[_], [_]]) (z := [.int .i16 0]) rfl rfl rfl rfl rfl (by decide) trivial rfl rfl rfl rfl rfl ?_
  refine L_build Tb_ok (t := 36) (len := 1) (el := 21) (sz := 1) (es := [[_]]) (z := [.int .i32 0]) rfl rfl rfl rfl rfl (by decide) trivial rfl rfl rfl rfl rfl ?_
  refine L_v Tb_ok (v := .agg [.int _ _, .int _ _]) (av rfl ⟨trivial, rfl⟩) rfl ?_
  refine L_freeze (t := 2) (l := _) rfl rfl rfl rfl rfl rfl rfl ?_
  refine L_freeze (t := 3) (l := _) rfl rfl rfl rfl rfl rfl rfl ?_
  refine L_v Tb_ok (v := .agg [.int _ _, .int _ _, .int _ _, .int _ _, .int _ _, .int _ _, .int _ _, .int _ _, .int _ _, .int _ _, .int _ _, .int _ _, _, _, .int _ _, .int _ _, .int _ _, .int _ _, .int _ _, .int _ _, .int _ _, .int _ _]) (av rfl ⟨trivial, rfl⟩) rfl ?_
  refine L_build Tb_ok (t := 24) (len := 1) (el := 40) (sz := 22) (es := [[_, _, _, _, _, _, _, _, _, _, _, _, _, _, _, _, _, _, _, _, _, _]]) (z := [.int .i64 0, .int .i64 0, .int .i64 0, .int .i64 0, .int .i64 0, .int .i64 0, .int .i64 0, .int .i64 0, .int .i64 0, .int .i64 0, .int .i64 0, .int .i64 0, .nils, .nils, .int .i64 0, .int .i64 0, .int .i64 0, .int .i64 0, .int .i64 0, .int .i64 0, .int .i64 0, .int .i64 0]) rfl rfl rfl rfl rfl (by decide) trivial rfl rfl rfl rfl rfl ?_
  refine L_freeze (t := 6) (l := _) rfl rfl rfl rfl rfl rfl rfl ?_
  refine L_v Tb_ok (v := .agg [.int _ _, .int _ _, .int _ _, .int _ _, .int _ _, _, .int _ _]) (av rfl ⟨trivial, rfl⟩) rfl ?_
  refine L_store Tb_ok (v := .agg [.int _ _, .int _ _, .int _ _, .int _ _, .int _ _, _, .int _ _]) (cs := [_, _, _, _, _, _, _]) (es' := [[_, _, _, _, _, _, _]]) rfl rfl rfl rfl rfl rfl rfl rfl rfl rfl ⟨trivial, trivial⟩ ?_
  refine WL_nil ?_
  refine W_ret ?_
  refine ends (l := [.agg [.int _ _, .int _ _, .int _ _, .int _ _, .int _ _, _, .int _ _]]) (q := .agg [.int _ _, .int _ _, .int _ _, .int _ _, .int _ _, _, .int _ _]) (.inr rfl) rfl ⟨rfl, trivial⟩ rfl rfl ?_
  rfl
end Go.AM
end
section
open Go Go.AM Go.Proofs
set_option maxRecDepth 10000
set_option linter.unusedVariables false
set_option linter.unusedSimpArgs false
namespace Go.AM
theorem mp_terms : termsF mPlain 1 1 0 = [⟨3, 0⟩, ⟨-2, 1⟩] := by decide +kernel
theorem mp_ofE : ofE mPlain 1 1 0 = 0 := by decide +kernel
theorem mp_bias : biasF mPlain 1 1 0 = 1 := by decide +kernel
theorem law12_fixed : Ok Try.prog 26 [] (.bool true) := by
  have h1 := norm_L1 mPlain 1 1
  have h2 := norm_Signed mPlain 1 1
  have h3 := norm_Quick mPlain 1 1 ⟨0, 10⟩
  have h4 := norm_Quick mPlain 1 1 ⟨5, 200⟩
  rw [show w64 (upF (termsF mPlain 1 1 0) - downF (termsF mPlain 1 1 0)) = 5 by decide +kernel, mp_ofE] at h1
  rw [show upF (termsF mPlain 1 1 0) = 3 by decide +kernel, show downF (termsF mPlain 1 1 0) = -2 by decide +kernel, mp_ofE] at h2
  rw [show quickS mPlain 1 1 ⟨0, 10⟩ = ⟨-49, 51⟩ by decide +kernel, show quickE mPlain 1 1 ⟨0, 10⟩ = 0 by decide +kernel] at h3
  rw [show quickS mPlain 1 1 ⟨5, 200⟩ = ⟨0, 0⟩ by decide +kernel, show quickE mPlain 1 1 ⟨5, 200⟩ = 30 by decide +kernel] at h4
  refine fn_ok Tb_ok (fn := Try.f26) Try.func26 rfl rfl (e := []) rfl (by decide) rfl ?_
  refine W_seq ?_
  refine W_region rfl ?_
  refine L_v Tb_ok (v := .bool _) (av rfl ⟨trivial, trivial⟩) rfl ?_
  refine WL_nil ?_
  refine W_seq ?_
  refine W_region rfl ?_
  refine L_call (hr := law12_one) rfl rfl trivial rfl rfl ?_
  refine L_call (hr := h1) rfl rfl trivial rfl rfl ?_
  refine L_v Tb_ok (v := .tup [_, _]) (av rfl ⟨trivial, trivial⟩) rfl ?_
  refine L_v Tb_ok (v := .int _ _) (av rfl ⟨trivial, trivial⟩) rfl ?_
  refine L_v Tb_ok (v := .int _ _) (av rfl ⟨trivial, trivial⟩) rfl ?_
  refine L_v Tb_ok (v := .int _ _) (av rfl ⟨trivial, trivial⟩) rfl ?_
  refine L_v Tb_ok (v := .int _ _) (av rfl ⟨trivial, trivial⟩) rfl ?_
  refine WL_nil ?_
  refine W_seq ?_
  refine W_region rfl ?_
  refine L_call (hr := law12_one) rfl rfl trivial rfl rfl ?_
  refine L_call (hr := h2) rfl rfl trivial rfl rfl ?_
  refine L_v Tb_ok (v := .tup [_, _, _]) (av rfl ⟨trivial, trivial⟩) rfl ?_
  refine L_v Tb_ok (v := .int _ _) (av rfl ⟨trivial, trivial⟩) rfl ?_
  refine L_v Tb_ok (v := .int _ _) (av rfl ⟨trivial, trivial⟩) rfl ?_
  refine L_v Tb_ok (v := .int _ _) (av rfl ⟨trivial, trivial⟩) rfl ?_
  refine L_v Tb_ok (v := .int _ _) (av rfl ⟨trivial, trivial⟩) rfl ?_
  refine L_v Tb_ok (v := .int _ _) (av rfl ⟨trivial, trivial⟩) rfl ?_
  refine L_v Tb_ok (v := .int _ _) (av rfl ⟨trivial, trivial⟩) rfl ?_
  refine WL_nil ?_
  refine W_seq ?_
  refine W_region rfl ?_
  refine L_call (hr := law12_one) rfl rfl trivial rfl rfl ?_
  refine L_v Tb_ok (v := .agg [.int _ _, .int _ _]) (av rfl ⟨trivial, rfl⟩) rfl ?_
  refine L_call (hr := h3) rfl rfl trivial rfl rfl ?_
  refine L_v Tb_ok (v := .tup [_, _]) (av rfl ⟨trivial, trivial⟩) rfl ?_
  refine L_v Tb_ok (v := .agg [.int _ _, .int _ _]) (av rfl ⟨trivial, trivial⟩) rfl ?_
  refine L_v Tb_ok (v := .int _ _) (av rfl ⟨trivial, trivial⟩) rfl ?_
  refine L_alloc Tb_ok (z := [.int .i64 0, .int .i64 0]) (n := 2) rfl rfl rfl rfl rfl ?_
  refine L_store Tb_ok (v := .agg [.int _ _, .int _ _]) (cs := [_, _]) (es' := [[_, _]]) rfl rfl rfl rfl rfl rfl rfl rfl rfl rfl ⟨trivial, trivial⟩ ?_
  refine L_v Tb_ok (v := .int _ _) (av rfl ⟨trivial, trivial⟩) rfl ?_
  refine WL_nil ?_
  refine W_seq ?_
  refine W_region rfl ?_
  refine L_call (hr := law12_one) rfl rfl trivial rfl rfl ?_
  refine L_v Tb_ok (v := .agg [.int _ _, .int _ _]) (av rfl ⟨trivial, rfl⟩) rfl ?_
  refine L_call (hr := h4) rfl rfl trivial rfl rfl ?_
  refine L_v Tb_ok (v := .tup [_, _]) (av rfl ⟨trivial, trivial⟩) rfl ?_
  refine L_v Tb_ok (v := .agg [.int _ _, .int _ _]) (av rfl ⟨trivial, trivial⟩) rfl ?_
  refine L_v Tb_ok (v := .int _ _) (av rfl ⟨trivial, trivial⟩) rfl ?_
  refine L_alloc Tb_ok (z := [.int .i64 0, .int .i64 0]) (n := 2) rfl rfl rfl rfl rfl ?_
  refine L_store Tb_ok (v := .agg [.int _ _, .int _ _]) (cs := [_, _]) (es' := [[_, _]]) rfl rfl rfl rfl rfl rfl rfl rfl rfl rfl ⟨trivial, trivial⟩ ?_
  refine L_v Tb_ok (v := .int _ _) (av rfl ⟨trivial, trivial⟩) rfl ?_
  refine WL_nil ?_
  refine W_seq ?_
  refine W_region rfl ?_
  refine L_v Tb_ok (v := .int _ _) (av rfl ⟨trivial, trivial⟩) rfl ?_
  refine L_v Tb_ok (v := .bool _) (av rfl ⟨trivial, trivial⟩) rfl ?_
  refine L_v Tb_ok (v := .bool _) (av rfl ⟨trivial, trivial⟩) rfl ?_
  refine L_g Tb_ok (v := .int _ _) rfl rfl ((fun hg => (av rfl ⟨trivial, trivial⟩))) rfl rfl ?_
  refine L_g Tb_ok (v := .bool _) rfl rfl ((fun hg => (av rfl ⟨⟨⟨(by first | exact hg | (simp_all; done) | (simp at hg ⊢; simp [hg])), True.intro⟩, True.intro⟩, trivial⟩))) rfl rfl ?_
  refine L_v Tb_ok (v := .bool _) (av rfl (by refine ⟨?_, fun h => ?_, fun h => ?_⟩ <;> first | exact True.intro | exact ⟨h, True.intro⟩ | (refine ⟨?_, True.intro⟩; first | (rw [h]; done) | (rw [h]; rfl) | (simp [h]; done) | (simp at h hg ⊢; simp [h, hg]; done) | (simp_all; done) | (simp_all; omega)))) rfl ?_
  refine L_v Tb_ok (v := .bool _) (av rfl ⟨trivial, trivial⟩) rfl ?_
  refine L_g Tb_ok (v := .int _ _) rfl rfl ((fun hg => (av rfl ⟨trivial, trivial⟩))) rfl rfl ?_
  refine L_g Tb_ok (v := .bool _) rfl rfl ((fun hg => (av rfl ⟨⟨⟨(by first | exact hg | (simp_all; done) | (simp at hg ⊢; simp [hg])), True.intro⟩, True.intro⟩, trivial⟩))) rfl rfl ?_
  refine L_v Tb_ok (v := .bool _) (av rfl (by refine ⟨?_, fun h => ?_, fun h => ?_⟩ <;> first | exact True.intro | exact ⟨h, True.intro⟩ | (refine ⟨?_, True.intro⟩; first | (rw [h]; done) | (rw [h]; rfl) | (simp [h]; done) | (simp at h hg ⊢; simp [h, hg]; done) | (simp_all; done) | (simp_all; omega)))) rfl ?_
  refine L_v Tb_ok (v := .bool _) (av rfl ⟨trivial, trivial⟩) rfl ?_
  refine L_g Tb_ok (v := .int _ _) rfl rfl ((fun hg => (av rfl ⟨trivial, trivial⟩))) rfl rfl ?_
  refine L_g Tb_ok (v := .bool _) rfl rfl ((fun hg => (av rfl ⟨⟨⟨(by first | exact hg | (simp_all; done) | (simp at hg ⊢; simp [hg])), True.intro⟩, True.intro⟩, trivial⟩))) rfl rfl ?_
  refine L_v Tb_ok (v := .bool _) (av rfl (by refine ⟨?_, fun h => ?_, fun h => ?_⟩ <;> first | exact True.intro | exact ⟨h, True.intro⟩ | (refine ⟨?_, True.intro⟩; first | (rw [h]; done) | (rw [h]; rfl) | (simp [h]; done) | (simp at h hg ⊢; simp [h, hg]; done) | (simp_all; done) | (simp_all; omega)))) rfl ?_
  refine L_v Tb_ok (v := .bool _) (av rfl ⟨trivial, trivial⟩) rfl ?_
  refine L_g Tb_ok (v := .int _ _) rfl rfl ((fun hg => (av rfl ⟨trivial, trivial⟩))) rfl rfl ?_
  refine L_g Tb_ok (v := .bool _) rfl rfl ((fun hg => (av rfl ⟨⟨⟨(by first | exact hg | (simp_all; done) | (simp at hg ⊢; simp [hg])), True.intro⟩, True.intro⟩, trivial⟩))) rfl rfl ?_
  refine L_v Tb_ok (v := .bool _) (av rfl (by refine ⟨?_, fun h => ?_, fun h => ?_⟩ <;> first | exact True.intro | exact ⟨h, True.intro⟩ | (refine ⟨?_, True.intro⟩; first | (rw [h]; done) | (rw [h]; rfl) | (simp [h]; done) | (simp at h hg ⊢; simp [h, hg]; done) | (simp_all; done) | (simp_all; omega)))) rfl ?_
  refine L_v Tb_ok (v := .bool _) (av rfl ⟨trivial, trivial⟩) rfl ?_
  refine L_g Tb_ok (v := .agg [.int _ _, .int _ _]) rfl rfl ((fun hg => (av rfl ⟨trivial, rfl⟩))) rfl rfl ?_
  refine L_g Tb_ok (v := .agg [.int _ _, .int _ _]) rfl rfl ((fun hg => (av rfl ⟨trivial, rfl⟩))) rfl rfl ?_
  refine L_g Tb_ok (v := .bool _) rfl rfl ((fun hg => (av rfl ⟨⟨⟨(by first | exact hg | (simp_all; done) | (simp at hg ⊢; simp [hg])), True.intro⟩, ⟨⟨(by first | exact hg | (simp_all; done) | (simp at hg ⊢; simp [hg])), True.intro⟩, True.intro⟩⟩, trivial⟩))) rfl rfl ?_
  refine L_v Tb_ok (v := .bool _) (av rfl (by refine ⟨?_, fun h => ?_, fun h => ?_⟩ <;> first | exact True.intro | exact ⟨h, True.intro⟩ | (refine ⟨?_, True.intro⟩; first | (rw [h]; done) | (rw [h]; rfl) | (simp [h]; done) | (simp at h hg ⊢; simp [h, hg]; done) | (simp_all; done) | (simp_all; omega)))) rfl ?_
  refine L_v Tb_ok (v := .bool _) (av rfl ⟨trivial, trivial⟩) rfl ?_
  refine L_g Tb_ok (v := .int _ _) rfl rfl ((fun hg => (av rfl ⟨trivial, trivial⟩))) rfl rfl ?_
  refine L_g Tb_ok (v := .bool _) rfl rfl ((fun hg => (av rfl ⟨⟨⟨(by first | exact hg | (simp_all; done) | (simp at hg ⊢; simp [hg])), True.intro⟩, True.intro⟩, trivial⟩))) rfl rfl ?_
  refine L_v Tb_ok (v := .bool _) (av rfl (by refine ⟨?_, fun h => ?_, fun h => ?_⟩ <;> first | exact True.intro | exact ⟨h, True.intro⟩ | (refine ⟨?_, True.intro⟩; first | (rw [h]; done) | (rw [h]; rfl) | (simp [h]; done) | (simp at h hg ⊢; simp [h, hg]; done) | (simp_all; done) | (simp_all; omega)))) rfl ?_
  refine L_v Tb_ok (v := .bool _) (av rfl ⟨trivial, trivial⟩) rfl ?_
  refine L_g Tb_ok (v := .int _ _) rfl rfl ((fun hg => (av rfl ⟨trivial, trivial⟩))) rfl rfl ?_
  refine L_g Tb_ok (v := .bool _) rfl rfl ((fun hg => (av rfl ⟨⟨⟨(by first | exact hg | (simp_all; done) | (simp at hg ⊢; simp [hg])), True.intro⟩, True.intro⟩, trivial⟩))) rfl rfl ?_
  refine L_v Tb_ok (v := .bool _) (av rfl (by refine ⟨?_, fun h => ?_, fun h => ?_⟩ <;> first | exact True.intro | exact ⟨h, True.intro⟩ | (refine ⟨?_, True.intro⟩; first | (rw [h]; done) | (rw [h]; rfl) | (simp [h]; done) | (simp at h hg ⊢; simp [h, hg]; done) | (simp_all; done) | (simp_all; omega)))) rfl ?_
  refine L_v Tb_ok (v := .bool _) (av rfl ⟨trivial, trivial⟩) rfl ?_
  refine WL_nil ?_
  refine W_ret ?_
  refine ends (l := [.bool _]) (q := .bool _) (.inr rfl) rfl ⟨trivial, trivial⟩ rfl rfl ?_
  rfl
end Go.AM
end
section
open Go Go.AM
set_option linter.unusedVariables false
set_option linter.unusedSimpArgs false
namespace Go.AM
theorem mx_eq (a b : Int) : mx a b = max a b := by unfold mx; split <;> omega
theorem mn_eq (a b : Int) : mn a b = min a b := by unfold mn; split <;> omega
theorem up_go (l : List Term) (h : ∀ t ∈ l, -32768 ≤ t.W ∧ t.W ≤ 32767) : ∀ (s : Int), 0 ≤ s → s + 32767 * l.length ≤ 4611686018427387904 → s ≤ l.foldl (fun s t => w64 (s + mx t.W 0)) s ∧ l.foldl (fun s t => w64 (s + mx t.W 0)) s ≤ s + 32767 * l.length := by
  induction l with
  | nil => intro s _ _; simp
  | cons t r ih =>
    intro s hs hb
    have ht := h t (by simp)
    rw [List.foldl_cons]
    have hl : ((t :: r).length : Int) = r.length + 1 := by simp
    rw [hl] at hb ⊢
    have hm : 0 ≤ mx t.W 0 ∧ mx t.W 0 ≤ 32767 := by rw [mx_eq]; omega
    have e : w64 (s + mx t.W 0) = s + mx t.W 0 := w64_id (by omega)
    rw [e]
    have := ih (fun u hu => h u (by simp [hu])) (s + mx t.W 0) (by omega) (by omega)
    omega
theorem down_go (l : List Term) (h : ∀ t ∈ l, -32768 ≤ t.W ∧ t.W ≤ 32767) : ∀ (s : Int), s ≤ 0 → -4611686018427387904 ≤ s - 32768 * l.length → l.foldl (fun s t => w64 (s + mn t.W 0)) s ≤ s ∧ s - 32768 * l.length ≤ l.foldl (fun s t => w64 (s + mn t.W 0)) s := by
  induction l with
  | nil => intro s _ _; simp
  | cons t r ih =>
    intro s hs hb
    have ht := h t (by simp)
    rw [List.foldl_cons]
    have hl : ((t :: r).length : Int) = r.length + 1 := by simp
    rw [hl] at hb ⊢
    have hm : mn t.W 0 ≤ 0 ∧ -32768 ≤ mn t.W 0 := by rw [mn_eq]; omega
    have e : w64 (s + mn t.W 0) = s + mn t.W 0 := w64_id (by omega)
    rw [e]
    have := ih (fun u hu => h u (by simp [hu])) (s + mn t.W 0) (by omega) (by omega)
    omega
theorem getD_mem {α : Type} {l : List α} {i : Nat} {d : α} {p : α → Prop} (h : ∀ x ∈ l, p x) (hd : p d) : p (l.getD i d) := by
  rw [List.getD_eq_getElem?_getD]
  cases hq : l[i]? with
  | none => exact hd
  | some x => exact h x (List.mem_of_getElem? hq)
theorem op_wf {m : Model} (hm : m.Wf) (i : Nat) : ((m.Ops.getD i default).Weights.all fun w => decide (-32768 ≤ w ∧ w ≤ 32767)) = true ∧ ((m.Ops.getD i default).Bias.all fun w => decide (-2147483648 ≤ w ∧ w ≤ 2147483647)) = true := by
  refine getD_mem (p := fun o : MOp => (o.Weights.all fun w => decide (-32768 ≤ w ∧ w ≤ 32767)) = true ∧ (o.Bias.all fun w => decide (-2147483648 ≤ w ∧ w ≤ 2147483647)) = true) (fun o ho => ?_) ⟨rfl, rfl⟩
  obtain ⟨_, _, _, _, _, h1, h2, _⟩ := hm.2.2.2.1.2 o ho
  exact ⟨List.all_eq_true.2 (fun w hw => decide_eq_true (I16.iff.1 (h1.2 w hw))), List.all_eq_true.2 (fun w hw => decide_eq_true (I32.iff.1 (h2.2 w hw)))⟩
theorem termsF_W {m : Model} (hm : m.Wf) (op ch at_ : Int) : ∀ t ∈ termsF m op ch at_, -32768 ≤ t.W ∧ t.W ≤ 32767 := by
  intro t ht
  unfold termsF at ht
  split at ht
  · rename_i h0
    obtain ⟨hS, _, hop, _⟩ := site_ok h0
    split at ht
    · simp at ht
    · split at ht
      · simp only [ofP, List.take_length, Nat.sub_self, List.replicate_zero, List.append_nil] at ht
        obtain ⟨p, _, rfl⟩ := List.mem_map.1 ht
        dsimp only; omega
      · simp only [ofQ] at ht
        obtain ⟨i, _, rfl⟩ := List.mem_map.1 ht
        dsimp only
        split
        · refine getD_mem (p := fun w : Int => -32768 ≤ w ∧ w ≤ 32767) (fun x hx => ?_) (by omega)
          obtain ⟨y, hy, rfl⟩ := List.mem_map.1 hx
          have hy' : y ∈ (findS m op).Op.Weights := List.mem_of_mem_drop (List.mem_of_mem_take hy)
          rw [hop] at hy'
          have := of_decide_eq_true (List.all_eq_true.1 (op_wf hm _).1 y hy')
          show -32768 ≤ w64 y ∧ w64 y ≤ 32767
          rw [show w64 y = y from w64_id (by omega)]; exact this
        · omega
  · simp at ht
theorem biasF_bd {m : Model} (hm : m.Wf) (op ch at_ : Int) : -2147483648 ≤ biasF m op ch at_ ∧ biasF m op ch at_ ≤ 2147483647 := by
  unfold biasF
  split
  · rename_i h0
    obtain ⟨hS, _, hop, _⟩ := site_ok h0
    split
    · omega
    · split
      · omega
      · rw [hop]
        have := getD_mem (i := (w64 (ch - 1)).toNat) (d := default) (p := fun w : Int => -2147483648 ≤ w ∧ w ≤ 2147483647) (fun x hx => of_decide_eq_true (List.all_eq_true.1 (op_wf hm (op - 1).toNat).2 x hx)) (by show -2147483648 ≤ (0 : Int) ∧ (0 : Int) ≤ 2147483647; omega)
        rw [show w64 _ = _ from w64_id (by omega)]; exact this
  · omega
theorem sums_ok {m : Model} (hm : m.Wf) (op ch at_ : Int) : (0 ≤ upF (termsF m op ch at_) ∧ upF (termsF m op ch at_) ≤ 16777216) ∧ (downF (termsF m op ch at_) ≤ 0 ∧ -16777216 ≤ downF (termsF m op ch at_)) ∧ w64 (upF (termsF m op ch at_) - downF (termsF m op ch at_)) = upF (termsF m op ch at_) - downF (termsF m op ch at_) := by
  have hl := termsF_len m op ch at_
  have hW := termsF_W hm op ch at_
  have h1 := up_go _ hW 0 (by omega) (by omega)
  have h2 := down_go _ hW 0 (by omega) (by omega)
  change 0 ≤ upF _ ∧ upF _ ≤ _ at h1
  change downF _ ≤ 0 ∧ _ ≤ downF _ at h2
  refine ⟨by omega, by omega, w64_id (by omega)⟩
theorem bytesB4 {a b c d : Int} (h : bytesB [a, b, c, d] = true) : (-128 ≤ a ∧ a ≤ 127) ∧ (-128 ≤ b ∧ b ≤ 127) ∧ (-128 ≤ c ∧ c ≤ 127) ∧ (-128 ≤ d ∧ d ≤ 127) := by
  simp [bytesB, inB] at h; omega
theorem pad_bd {S : Site} (hS : SiteOk S) : (-128 ≤ S.Op.Pad ∧ S.Op.Pad ≤ 127) ∧ (-128 ≤ S.Op.Lo ∧ S.Op.Lo ≤ 127) ∧ (-128 ≤ S.Op.Hi ∧ S.Op.Hi ≤ 127) ∧ (-128 ≤ S.Op.Zero ∧ S.Op.Zero ≤ 127) ∧ S.Op.Lo ≤ S.Op.Hi := by
  have h := hS.rng
  unfold op10 at h
  cases hb : bytesB [S.Op.Lo, S.Op.Hi, S.Op.Zero, S.Op.Pad] with
  | false => rw [hb] at h; simp at h
  | true =>
    rw [hb] at h
    obtain ⟨h1, h2, h3, h4⟩ := bytesB4 hb
    simp at h
    exact ⟨h4, h1, h2, h3, h⟩
def reachV (o : MOp) (s : Span) : Int := if qPads o.Win = true then max (max (max (-s.Lo) s.Hi) (max (-s.Hi) s.Lo)) (max o.Pad (-o.Pad)) else max (max (-s.Lo) s.Hi) (max (-s.Hi) s.Lo)
theorem qBad_iff {s : Span} : qBad s = false ↔ -128 ≤ s.Lo ∧ s.Lo ≤ s.Hi ∧ s.Hi ≤ 127 := by
  unfold qBad
  by_cases a : s.Lo < -128 <;> by_cases b : s.Lo > s.Hi <;> by_cases c : s.Hi > 127 <;> simp [a, b, c] <;> omega
theorem qReach_eq {o : MOp} {s : Span} (hs : -128 ≤ s.Lo ∧ s.Lo ≤ s.Hi ∧ s.Hi ≤ 127) (hp : -128 ≤ o.Pad ∧ o.Pad ≤ 127) : qReach o s = reachV o s ∧ 0 ≤ reachV o s ∧ reachV o s ≤ 128 := by
  have e1 : w64 (0 - s.Lo) = -s.Lo := by rw [show w64 _ = _ from w64_id (by omega)]; omega
  have e2 : w64 (0 - s.Hi) = -s.Hi := by rw [show w64 _ = _ from w64_id (by omega)]; omega
  have e3 : w64 (0 - o.Pad) = -o.Pad := by rw [show w64 _ = _ from w64_id (by omega)]; omega
  unfold qReach reachV qReach1
  rw [e1, e2, e3]
  simp only [mx_eq]
  cases qPads o.Win <;> simp <;> omega
/-- Quick, in plain numbers -/
theorem quick_ok {m : Model} (hm : m.Wf) {op ch : Int} {s : Span} (h : quickE m op ch s = 0) :
    ofE m op ch 0 = 0 ∧ (-128 ≤ s.Lo ∧ s.Lo ≤ s.Hi ∧ s.Hi ≤ 127) ∧ (0 ≤ reachV (findS m op).Op s ∧ reachV (findS m op).Op s ≤ 128) ∧ quickS m op ch s = ⟨biasF m op ch 0 - reachV (findS m op).Op s * (upF (termsF m op ch 0) - downF (termsF m op ch 0)), biasF m op ch 0 + reachV (findS m op).Op s * (upF (termsF m op ch 0) - downF (termsF m op ch 0))⟩ := by
  unfold quickE at h
  split at h
  · rename_i h0
    split at h
    · omega
    · rename_i hb
      have hs := qBad_iff.1 (by simpa using hb)
      obtain ⟨f0, _, o1, o2, o3, _⟩ := ofE_op h0
      obtain ⟨hS, _, hop, _⟩ := site_ok f0
      have hq : qOp m op = (findS m op).Op := by rw [hop]; unfold qOp; rw [o1]
      obtain ⟨r1, r2, r3⟩ := qReach_eq (o := (findS m op).Op) hs (pad_bd hS).1
      obtain ⟨s1, s2, s3⟩ := sums_ok hm op ch 0
      have hb2 := biasF_bd hm op ch 0
      refine ⟨h0, hs, ⟨r2, r3⟩, ?_⟩
      have d0 : 0 ≤ reachV (findS m op).Op s * (upF (termsF m op ch 0) - downF (termsF m op ch 0)) := Int.mul_nonneg r2 (by omega)
      have d1 : reachV (findS m op).Op s * (upF (termsF m op ch 0) - downF (termsF m op ch 0)) ≤ 128 * 33554432 := Int.mul_le_mul r3 (by omega) (by omega) (by omega)
      have hd : qD m op ch s = reachV (findS m op).Op s * (upF (termsF m op ch 0) - downF (termsF m op ch 0)) := by
        unfold qD
        rw [hq, r1, s3]
        exact w64_id (by omega)
      unfold quickS
      rw [if_pos h0, if_neg hb, hd, show w64 (biasF m op ch 0 - _) = _ from w64_id (by omega), show w64 (biasF m op ch 0 + _) = _ from w64_id (by omega)]
  · contradiction
theorem reach_mono {o : MOp} {s y : Span} (h1 : y.Lo ≤ s.Lo) (h2 : s.Hi ≤ y.Hi) (hs : s.Lo ≤ s.Hi) : reachV o s ≤ reachV o y := by
  unfold reachV; split <;> omega
end Go.AM
end
section
open Go Go.AM Go.Proofs
set_option maxRecDepth 10000
set_option linter.unusedVariables false
set_option linter.unusedSimpArgs false
namespace Go.AM
theorem ref03_Values (s : Span) : Ok Try.prog 43 [.agg (spanC s)] (.bool (!qBad s)) := by
  refine fn_ok Tb_ok (fn := Try.f43) Try.func43 rfl rfl (e := [(0, _)]) rfl (by decide) rfl ?_
  refine W_seq ?_
  refine W_region rfl ?_
  refine L_box Tb_ok (cs := [.int _ _, .int _ _]) (n := 2) rfl rfl rfl rfl trivial ?_
  refine L_v Tb_ok (v := .bool _) (av rfl ⟨trivial, trivial⟩) rfl ?_
  refine WL_nil ?_
  refine W_seq ?_
  refine W_region rfl ?_
  refine L_v Tb_ok (v := .ptr _ _ _) (av rfl ⟨trivial, trivial⟩) rfl ?_
  refine L_v Tb_ok (v := .int _ _) (av rfl ⟨trivial, rfl⟩) rfl ?_
  refine L_v Tb_ok (v := .bool _) (av rfl ⟨trivial, trivial⟩) rfl ?_
  refine L_v Tb_ok (v := .bool _) (av rfl ⟨trivial, trivial⟩) rfl ?_
  refine L_g Tb_ok (v := .ptr _ _ _) rfl rfl ((fun hg => (av rfl ⟨trivial, trivial⟩))) rfl rfl ?_
  refine L_g Tb_ok (v := .int _ _) rfl rfl ((fun hg => (av rfl ⟨⟨⟨(by first | exact hg | (simp_all; done) | (simp at hg ⊢; simp [hg])), True.intro⟩, True.intro⟩, rfl⟩))) rfl rfl ?_
  refine L_g Tb_ok (v := .ptr _ _ _) rfl rfl ((fun hg => (av rfl ⟨trivial, trivial⟩))) rfl rfl ?_
  refine L_g Tb_ok (v := .int _ _) rfl rfl ((fun hg => (av rfl ⟨⟨⟨(by first | exact hg | (simp_all; done) | (simp at hg ⊢; simp [hg])), True.intro⟩, True.intro⟩, rfl⟩))) rfl rfl ?_
  refine L_g Tb_ok (v := .bool _) rfl rfl ((fun hg => (av rfl ⟨⟨⟨(by first | exact hg | (simp_all; done) | (simp at hg ⊢; simp [hg])), True.intro⟩, ⟨⟨(by first | exact hg | (simp_all; done) | (simp at hg ⊢; simp [hg])), True.intro⟩, True.intro⟩⟩, trivial⟩))) rfl rfl ?_
  refine L_v Tb_ok (v := .bool _) (av rfl (by refine ⟨?_, fun h => ?_, fun h => ?_⟩ <;> first | exact True.intro | exact ⟨h, True.intro⟩ | (refine ⟨?_, True.intro⟩; first | (rw [h]; done) | (rw [h]; rfl) | (simp [h]; done) | (simp at h hg ⊢; simp [h, hg]; done) | (simp_all; done) | (simp_all; omega)))) rfl ?_
  refine L_v Tb_ok (v := .bool _) (av rfl ⟨trivial, trivial⟩) rfl ?_
  refine L_g Tb_ok (v := .ptr _ _ _) rfl rfl ((fun hg => (av rfl ⟨trivial, trivial⟩))) rfl rfl ?_
  refine L_g Tb_ok (v := .int _ _) rfl rfl ((fun hg => (av rfl ⟨⟨⟨(by first | exact hg | (simp_all; done) | (simp at hg ⊢; simp [hg])), True.intro⟩, True.intro⟩, rfl⟩))) rfl rfl ?_
  refine L_g Tb_ok (v := .bool _) rfl rfl ((fun hg => (av rfl ⟨⟨⟨(by first | exact hg | (simp_all; done) | (simp at hg ⊢; simp [hg])), True.intro⟩, True.intro⟩, trivial⟩))) rfl rfl ?_
  refine L_v Tb_ok (v := .bool _) (av rfl (by refine ⟨?_, fun h => ?_, fun h => ?_⟩ <;> first | exact True.intro | exact ⟨h, True.intro⟩ | (refine ⟨?_, True.intro⟩; first | (rw [h]; done) | (rw [h]; rfl) | (simp [h]; done) | (simp at h hg ⊢; simp [h, hg]; done) | (simp_all; done) | (simp_all; omega)))) rfl ?_
  refine L_v Tb_ok (v := .bool _) (av rfl ⟨trivial, trivial⟩) rfl ?_
  refine WL_nil ?_
  refine W_ret ?_
  refine ends (l := [.bool _]) (q := .bool _) (.inr rfl) rfl ⟨trivial, trivial⟩ rfl rfl ?_
  unfold qBad
  have d1 : decide (s.Lo ≥ -128) = !decide (s.Lo < -128) := by by_cases h : s.Lo < -128 <;> simp [h] <;> omega
  have d2 : decide (s.Lo ≤ s.Hi) = !decide (s.Lo > s.Hi) := by by_cases h : s.Lo > s.Hi <;> simp [h] <;> omega
  have d3 : decide (s.Hi ≤ 127) = !decide (s.Hi > 127) := by by_cases h : s.Hi > 127 <;> simp [h] <;> omega
  rw [d1, d2, d3]
  cases decide (s.Lo < -128) <;> cases decide (s.Lo > s.Hi) <;> cases decide (s.Hi > 127) <;> rfl
theorem ref12_size (x : Int) : Ok Try.prog 58 [.int .i64 x] (.int .i64 (mx x (w64 (0 - x)))) := by
  refine fn_ok Tb_ok (fn := Try.f58) Try.func58 rfl rfl (e := [(0, _)]) rfl (by decide) rfl ?_
  refine W_seq ?_
  refine W_region rfl ?_
  refine L_v Tb_ok (v := .int _ _) (av rfl ⟨trivial, trivial⟩) rfl ?_
  refine WL_nil ?_
  refine W_seq ?_
  refine W_region rfl ?_
  refine L_v Tb_ok (v := .int _ _) (av rfl ⟨trivial, trivial⟩) rfl ?_
  refine L_v Tb_ok (v := .int _ _) (av rfl ⟨trivial, trivial⟩) rfl ?_
  refine L_v Tb_ok (v := .int _ _) (av rfl ⟨trivial, trivial⟩) rfl ?_
  refine L_v Tb_ok (v := .int _ _) (av rfl ⟨trivial, trivial⟩) rfl ?_
  refine L_v Tb_ok (v := .int _ _) (av rfl ⟨trivial, trivial⟩) rfl ?_
  refine WL_nil ?_
  refine W_ret ?_
  refine ends (l := [.int _ _]) (q := .int _ _) (.inr rfl) rfl ⟨trivial, trivial⟩ rfl rfl ?_
  rfl
def rReach (o : MOp) (s : Span) : Int := bif decide (w64 (w64 (w64 (o.Win.Top + o.Win.Left) + o.Win.Bottom) + o.Win.Right) > 0) then mx (mx (mx s.Lo (w64 (0 - s.Lo))) (mx s.Hi (w64 (0 - s.Hi)))) (mx o.Pad (w64 (0 - o.Pad))) else mx (mx s.Lo (w64 (0 - s.Lo))) (mx s.Hi (w64 (0 - s.Hi)))
theorem ref12_Reach (o : MOp) (s : Span) : Ok Try.prog 44 [.agg (opC o), .agg (spanC s)] (.int .i64 (rReach o s)) := by
  refine fn_ok Tb_ok (fn := Try.f44) Try.func44 rfl rfl (e := [(0, _), (1, _)]) rfl (by decide) rfl ?_
  refine W_seq ?_
  refine W_region rfl ?_
  refine L_box Tb_ok (cs := [.int _ _, .int _ _, .int _ _, .int _ _, .int _ _, .int _ _, .int _ _, .int _ _, .int _ _, .int _ _, .int _ _, .int _ _, _, _, .int _ _, .int _ _, .int _ _, .int _ _, .int _ _, .int _ _, .int _ _, .int _ _]) (n := 22) rfl rfl rfl rfl trivial ?_
  refine L_box Tb_ok (cs := [.int _ _, .int _ _]) (n := 2) rfl rfl rfl rfl trivial ?_
  refine L_v Tb_ok (v := .int _ _) (av rfl ⟨trivial, trivial⟩) rfl ?_
  refine WL_nil ?_
  refine W_seq ?_
  refine W_draw 8 Tb_mixed rfl (by decide) (by kernel_rfl) (by kernel_rfl) ?_
  refine E_v Tb_ok (v := .ptr _ _ _) (av rfl ⟨trivial, trivial⟩) rfl ?_
  refine E_v Tb_ok (v := .int _ _) (av rfl ⟨trivial, rfl⟩) rfl ?_
  refine E_call (hr := ref12_size _) rfl rfl trivial rfl rfl ?_
  refine E_v Tb_ok (v := .ptr _ _ _) (av rfl ⟨trivial, trivial⟩) rfl ?_
  refine E_v Tb_ok (v := .int _ _) (av rfl ⟨trivial, rfl⟩) rfl ?_
  refine E_call (hr := ref12_size _) rfl rfl trivial rfl rfl ?_
  refine E_v Tb_ok (v := .int _ _) (av rfl ⟨trivial, trivial⟩) rfl ?_
  refine E_v Tb_ok (v := .int _ _) (av rfl ⟨trivial, trivial⟩) rfl ?_
  refine LexE_nil ?_
  refine WL_nil ?_
  refine W_seq ?_
  refine W_seq ?_
  refine W_region rfl ?_
  refine L_v Tb_ok (v := .ptr _ _ _) (av rfl ⟨trivial, trivial⟩) rfl ?_
  refine L_v Tb_ok (v := .ptr _ _ _) (av rfl ⟨trivial, trivial⟩) rfl ?_
  refine L_v Tb_ok (v := .int _ _) (av rfl ⟨trivial, rfl⟩) rfl ?_
  refine L_v Tb_ok (v := .ptr _ _ _) (av rfl ⟨trivial, trivial⟩) rfl ?_
  refine L_v Tb_ok (v := .ptr _ _ _) (av rfl ⟨trivial, trivial⟩) rfl ?_
  refine L_v Tb_ok (v := .int _ _) (av rfl ⟨trivial, rfl⟩) rfl ?_
  refine L_v Tb_ok (v := .int _ _) (av rfl ⟨trivial, trivial⟩) rfl ?_
  refine L_v Tb_ok (v := .ptr _ _ _) (av rfl ⟨trivial, trivial⟩) rfl ?_
  refine L_v Tb_ok (v := .ptr _ _ _) (av rfl ⟨trivial, trivial⟩) rfl ?_
  refine L_v Tb_ok (v := .int _ _) (av rfl ⟨trivial, rfl⟩) rfl ?_
  refine L_v Tb_ok (v := .int _ _) (av rfl ⟨trivial, trivial⟩) rfl ?_
  refine L_v Tb_ok (v := .ptr _ _ _) (av rfl ⟨trivial, trivial⟩) rfl ?_
  refine L_v Tb_ok (v := .ptr _ _ _) (av rfl ⟨trivial, trivial⟩) rfl ?_
  refine L_v Tb_ok (v := .int _ _) (av rfl ⟨trivial, rfl⟩) rfl ?_
  refine L_v Tb_ok (v := .int _ _) (av rfl ⟨trivial, trivial⟩) rfl ?_
  refine L_v Tb_ok (v := .bool _) (av rfl ⟨trivial, trivial⟩) rfl ?_
  refine WL_nil ?_
  refine W_cond (b := _) rfl (fun h28 => ?_) (fun h28 => ?_)
  · have hq : decide (w64 (w64 (w64 (o.Win.Top + o.Win.Left) + o.Win.Bottom) + o.Win.Right) > 0) = true := h28
    refine W_region rfl ?_
    refine L_v Tb_ok (v := .int _ _) (av rfl ⟨trivial, trivial⟩) rfl ?_
    refine L_v Tb_ok (v := .ptr _ _ _) (av rfl ⟨trivial, trivial⟩) rfl ?_
    refine L_v Tb_ok (v := .int _ _) (av rfl ⟨trivial, rfl⟩) rfl ?_
    refine L_call (hr := ref12_size _) rfl rfl trivial rfl rfl ?_
    refine L_v Tb_ok (v := .int _ _) (av rfl ⟨trivial, trivial⟩) rfl ?_
    refine L_v Tb_ok (v := .int _ _) (av rfl ⟨trivial, trivial⟩) rfl ?_
    refine WL_nil ?_
    refine W_seq ?_
    refine W_region rfl ?_
    refine L_v Tb_ok (v := .int _ _) (av rfl ⟨trivial, trivial⟩) rfl ?_
    refine L_v Tb_ok (v := .int _ _) (av rfl ⟨trivial, trivial⟩) rfl ?_
    refine WL_nil ?_
    refine W_ret ?_
    refine ends (l := [.int _ _]) (q := .int _ _) (.inr rfl) rfl ⟨trivial, trivial⟩ rfl rfl ?_
    rw [rReach, hq]; rfl
  · have hq : decide (w64 (w64 (w64 (o.Win.Top + o.Win.Left) + o.Win.Bottom) + o.Win.Right) > 0) = false := h28
    refine W_skip ?_
    refine W_seq ?_
    refine W_region rfl ?_
    refine L_v Tb_ok (v := .int _ _) (av rfl ⟨trivial, trivial⟩) rfl ?_
    refine L_v Tb_ok (v := .int _ _) (av rfl ⟨trivial, trivial⟩) rfl ?_
    refine WL_nil ?_
    refine W_ret ?_
    refine ends (l := [.int _ _]) (q := .int _ _) (.inr rfl) rfl ⟨trivial, trivial⟩ rfl rfl ?_
    rw [rReach, hq]; rfl
def rUp (l : List Term) : Int := l.foldl (fun s t => if t.W > 0 then w64 (s + t.W) else s) 0
def rDown (l : List Term) : Int := l.foldl (fun s t => if t.W > 0 then s else w64 (s + t.W)) 0
theorem ref12_Signed {S : Site} (hS : SiteOk S) (hln : lenF S.Op S.In = S.Len) {ch : Int} (hch : 1 ≤ ch ∧ ch ≤ S.Out.C) : Ok Try.prog 27 [.agg (rsiteC S), .int .i64 ch] (.tup [.int .i64 (rUp (tlF S ch 0)), .int .i64 (rDown (tlF S ch 0))]) := by
  have hT := ref10_Terms hS hln hch (at_ := 0) (by have := out_pos hS; omega)
  have hl := tlF_len hS ch 0
  have hlen := hS.len
  have hl2 : (tlF S ch 0).length ≤ 512 := by omega
  generalize tlF S ch 0 = L at hT hl2 ⊢
  refine fn_ok Tb_ok (fn := Try.f27) Try.func27 rfl rfl (e := [(0, _), (1, _)]) rfl (by decide) rfl ?_
  refine W_seq ?_
  refine W_region rfl ?_
  refine L_box Tb_ok (cs := [.int _ _, .int _ _, .int _ _, .int _ _, .int _ _, .int _ _, .int _ _, .int _ _, .int _ _, .int _ _, .int _ _, .int _ _, _, _, .int _ _, .int _ _, .int _ _, .int _ _, .int _ _, .int _ _, .int _ _, .int _ _, .int _ _, .int _ _, .int _ _, .int _ _, .int _ _, .int _ _]) (n := 28) rfl rfl rfl rfl trivial ?_
  refine L_v Tb_ok (v := .int _ _) (av rfl ⟨trivial, trivial⟩) rfl ?_
  refine L_v Tb_ok (v := .int _ _) (av rfl ⟨trivial, trivial⟩) rfl ?_
  refine WL_nil ?_
  refine W_seq ?_
  refine W_region rfl ?_
  refine L_v Tb_ok (v := .int _ _) (av rfl ⟨trivial, trivial⟩) rfl ?_
  refine L_v Tb_ok (v := .int _ _) (av rfl ⟨trivial, trivial⟩) rfl ?_
  refine WL_nil ?_
  refine W_seq ?_
  refine W_seq ?_
  refine W_region rfl ?_
  refine L_v Tb_ok (v := .agg [.int _ _, .int _ _, .int _ _, .int _ _, .int _ _, .int _ _, .int _ _, .int _ _, .int _ _, .int _ _, .int _ _, .int _ _, _, _, .int _ _, .int _ _, .int _ _, .int _ _, .int _ _, .int _ _, .int _ _, .int _ _, .int _ _, .int _ _, .int _ _, .int _ _, .int _ _, .int _ _]) (av rfl ⟨trivial, rfl⟩) rfl ?_
  refine L_v Tb_ok (v := .int _ _) (av rfl ⟨trivial, trivial⟩) rfl ?_
  refine L_call (hr := hT) rfl rfl trivial rfl rfl ?_
  refine L_v Tb_ok (v := .int _ _) (av rfl ⟨trivial, trivial⟩) rfl ?_
  refine L_v Tb_ok (v := .int _ _) (av rfl ⟨trivial, trivial⟩) rfl ?_
  refine WL_nil ?_
  refine W_block ?_
  refine W_for L.length (fun k => ⟨[(6, .int .i64 (rUp (L.take k))), (7, .int .i64 (rDown (L.take k))), (12, .ro (L.map termC)), (13, .int .i64 ((L.map termC).length : Int)), (14, .int .i64 (k : Int))], [], [], 1⟩) (le_fit ⟨rfl, rfl, rfl, rfl, rfl, trivial⟩ trivial trivial rfl rfl rfl rfl rfl) ?_
  intro k hk
  refine W_seq ?_
  refine W_region rfl ?_
  refine L_v Tb_ok (v := .bool _) (av rfl ⟨trivial, trivial⟩) rfl ?_
  refine WL_nil ?_
  refine W_seq ?_
  refine W_cond (b := _) rfl (fun h15 => ?_) (fun h15 => ?_)
  · have hlt : k < L.length := by simpa using h15
    refine W_skip ?_
    refine W_seq ?_
    refine W_block ?_
    refine W_seq ?_
    refine W_region rfl ?_
    first | (refine L_v Tb_ok (v := _) (ave_index_ro rfl rfl rfl (fun _ => rfl) rfl (by first | omega | assumption | decide | (simp_all; done) | (simp_all; omega)) (by first | omega | assumption | decide | (simp_all; done) | (simp_all; omega)) trivial) rfl ?_) | (refine L_v Tb_ok (v := _) (ave_index_app rfl rfl rfl (fun _ => rfl) rfl (by first | omega | assumption | decide | (simp_all; done) | (simp_all; omega)) (by first | omega | assumption | decide | (simp_all; done) | (simp_all; omega)) trivial) rfl ?_) | (refine L_v Tb_ok (v := _) (ave_index_row rfl rfl rfl rfl rfl rfl (by first | omega | assumption | decide | (simp_all; done) | (simp_all; omega)) (by first | omega | assumption | decide | (simp_all; done) | (simp_all; omega)) trivial) rfl ?_) | (refine L_v Tb_ok (v := .rptr _) (av rfl ⟨trivial, ⟨(by first | omega | assumption | decide | (simp_all; done) | (simp_all; omega)), (by first | omega | assumption | decide | (simp_all; done) | (simp_all; omega))⟩, rfl⟩) rfl ?_) | (refine L_v Tb_ok (v := .ptr _ _ _) (av rfl ⟨trivial, ⟨(by first | omega | assumption | decide | (simp_all; done) | (simp_all; omega)), (by first | omega | assumption | decide | (simp_all; done) | (simp_all; omega))⟩, rfl⟩) rfl ?_)
    refine L_v Tb_ok (v := .agg [.int _ _, .int _ _]) (av rfl ⟨trivial, rfl⟩) rfl ?_
    refine L_alloc Tb_ok (z := [.int .i64 0, .int .i64 0]) (n := 2) rfl rfl rfl rfl rfl ?_
    refine L_store Tb_ok (v := .agg [.int _ _, .int _ _]) (cs := [_, _]) (es' := [[_, _]]) rfl rfl rfl rfl rfl rfl rfl rfl rfl rfl ⟨trivial, trivial⟩ ?_
    refine WL_nil ?_
    refine W_seq ?_
    refine W_region rfl ?_
    refine L_v Tb_ok (v := .ptr _ _ _) (av rfl ⟨trivial, trivial⟩) rfl ?_
    refine L_v Tb_ok (v := .int _ _) (av rfl ⟨trivial, rfl⟩) rfl ?_
    refine L_v Tb_ok (v := .bool _) (av rfl ⟨trivial, trivial⟩) rfl ?_
    refine WL_nil ?_
    refine W_cond (b := _) rfl (fun h20 => ?_) (fun h20 => ?_)
    · have hW : (L.getD k default).W > 0 := of_decide_eq_true h20
      have hu : w64 (rUp (L.take k) + (L.getD ((k : Nat) : Int).toNat default).W) = rUp (L.take (k + 1)) := by
        unfold rUp
        rw [foldl_take _ _ _ _ hlt, if_pos hW]; rfl
      have hd : rDown (L.take k) = rDown (L.take (k + 1)) := by
        unfold rDown
        rw [foldl_take _ _ _ _ hlt, if_pos hW]
      refine W_region rfl ?_
      refine L_v Tb_ok (v := .int _ _) (av rfl ⟨trivial, trivial⟩) rfl ?_
      refine L_v Tb_ok (v := .ptr _ _ _) (av rfl ⟨trivial, trivial⟩) rfl ?_
      refine L_v Tb_ok (v := .int _ _) (av rfl ⟨trivial, rfl⟩) rfl ?_
      refine L_v Tb_ok (v := .int _ _) (av rfl ⟨trivial, trivial⟩) rfl ?_
      refine L_v Tb_ok (v := .int _ _) (av rfl ⟨trivial, trivial⟩) rfl ?_
      refine WL_nil ?_
      refine W_region rfl ?_
      refine L_v Tb_ok (v := .int _ _) (av rfl ⟨trivial, trivial⟩) rfl ?_
      refine L_v Tb_ok (v := .int _ _) (av rfl ⟨trivial, trivial⟩) rfl ?_
      refine WL_nil ?_
      refine for_end hlt (le_fit ⟨congrArg (AV.int .i64) hu, congrArg (AV.int .i64) hd, rfl, rfl, congrArg _ (w_succ hlt (by omega)), trivial⟩ trivial trivial rfl rfl rfl rfl rfl)
    · have hW : ¬ (L.getD k default).W > 0 := of_decide_eq_false h20
      have hu : rUp (L.take k) = rUp (L.take (k + 1)) := by
        unfold rUp
        rw [foldl_take _ _ _ _ hlt, if_neg hW]
      have hd : w64 (rDown (L.take k) + (L.getD ((k : Nat) : Int).toNat default).W) = rDown (L.take (k + 1)) := by
        unfold rDown
        rw [foldl_take _ _ _ _ hlt, if_neg hW]; rfl
      refine W_region rfl ?_
      refine L_v Tb_ok (v := .int _ _) (av rfl ⟨trivial, trivial⟩) rfl ?_
      refine L_v Tb_ok (v := .ptr _ _ _) (av rfl ⟨trivial, trivial⟩) rfl ?_
      refine L_v Tb_ok (v := .int _ _) (av rfl ⟨trivial, rfl⟩) rfl ?_
      refine L_v Tb_ok (v := .int _ _) (av rfl ⟨trivial, trivial⟩) rfl ?_
      refine L_v Tb_ok (v := .int _ _) (av rfl ⟨trivial, trivial⟩) rfl ?_
      refine WL_nil ?_
      refine W_region rfl ?_
      refine L_v Tb_ok (v := .int _ _) (av rfl ⟨trivial, trivial⟩) rfl ?_
      refine L_v Tb_ok (v := .int _ _) (av rfl ⟨trivial, trivial⟩) rfl ?_
      refine WL_nil ?_
      refine for_end hlt (le_fit ⟨congrArg (AV.int .i64) hu, congrArg (AV.int .i64) hd, rfl, rfl, congrArg _ (w_succ hlt (by omega)), trivial⟩ trivial trivial rfl rfl rfl rfl rfl)
  · have hke : k = L.length := by simp at h15; omega
    refine W_exit ?_
    repeat (first | refine pass_then ?_ | refine pass_once ?_ | refine pass_le ?_ | refine pass_round ?_ | refine pass_for ?_ | refine blockQ_miss rfl ?_)
    refine blockQ_hit ?_
    refine W_seq ?_
    refine W_region rfl ?_
    refine L_v Tb_ok (v := .int _ _) (av rfl ⟨trivial, trivial⟩) rfl ?_
    refine L_v Tb_ok (v := .int _ _) (av rfl ⟨trivial, trivial⟩) rfl ?_
    refine L_v Tb_ok (v := .int _ _) (av rfl ⟨trivial, trivial⟩) rfl ?_
    refine L_v Tb_ok (v := .int _ _) (av rfl ⟨trivial, trivial⟩) rfl ?_
    refine WL_nil ?_
    refine W_ret ?_
    refine ends (l := [.int _ _, .int _ _]) (q := .tup [.int _ _, .int _ _]) (.inr rfl) rfl ⟨trivial, trivial, trivial⟩ rfl rfl ?_
    rw [hke, List.take_length]
/-- the sums are the same -/
theorem rUp_eq (l : List Term) (h : ∀ t ∈ l, -32768 ≤ t.W ∧ t.W ≤ 32767) (hl : l.length ≤ 512) : rUp l = upF l ∧ rDown l = downF l := by
  have up : ∀ (l : List Term), (∀ t ∈ l, -32768 ≤ t.W ∧ t.W ≤ 32767) → ∀ s : Int, 0 ≤ s → s + 32767 * l.length ≤ 4611686018427387904 → l.foldl (fun s t => if t.W > 0 then w64 (s + t.W) else s) s = l.foldl (fun s t => w64 (s + mx t.W 0)) s := by
    intro l
    induction l with
    | nil => intro _ s _ _; rfl
    | cons t r ih =>
      intro h s h0 h1
      have ht := h t (by simp)
      have hlen : ((t :: r).length : Int) = r.length + 1 := by simp
      rw [hlen] at h1
      rw [List.foldl_cons, List.foldl_cons]
      have e : (if t.W > 0 then w64 (s + t.W) else s) = w64 (s + mx t.W 0) := by
        rw [mx_eq]
        split
        · rw [Int.max_eq_left (by omega)]
        · rw [Int.max_eq_right (by omega), Int.add_zero]; exact (w64_id (by omega)).symm
      rw [e]
      have hm : 0 ≤ mx t.W 0 ∧ mx t.W 0 ≤ 32767 := by rw [mx_eq]; omega
      exact ih (fun u hu => h u (by simp [hu])) _ (by rw [show w64 _ = _ from w64_id (by omega)]; omega) (by rw [show w64 _ = _ from w64_id (by omega)]; omega)
  have down : ∀ (l : List Term), (∀ t ∈ l, -32768 ≤ t.W ∧ t.W ≤ 32767) → ∀ s : Int, s ≤ 0 → -4611686018427387904 ≤ s - 32768 * l.length → l.foldl (fun s t => if t.W > 0 then s else w64 (s + t.W)) s = l.foldl (fun s t => w64 (s + mn t.W 0)) s := by
    intro l
    induction l with
    | nil => intro _ s _ _; rfl
    | cons t r ih =>
      intro h s h0 h1
      have ht := h t (by simp)
      have hlen : ((t :: r).length : Int) = r.length + 1 := by simp
      rw [hlen] at h1
      rw [List.foldl_cons, List.foldl_cons]
      have e : (if t.W > 0 then s else w64 (s + t.W)) = w64 (s + mn t.W 0) := by
        rw [mn_eq]
        split
        · rw [Int.min_eq_right (by omega), Int.add_zero]; exact (w64_id (by omega)).symm
        · rw [Int.min_eq_left (by omega)]
      rw [e]
      have hm : mn t.W 0 ≤ 0 ∧ -32768 ≤ mn t.W 0 := by rw [mn_eq]; omega
      exact ih (fun u hu => h u (by simp [hu])) _ (by rw [show w64 _ = _ from w64_id (by omega)]; omega) (by rw [show w64 _ = _ from w64_id (by omega)]; omega)
  exact ⟨up l h 0 (by omega) (by omega), down l h 0 (by omega) (by omega)⟩
theorem rReach_eq {S : Site} (hS : SiteOk S) {s : Span} (hs : -128 ≤ s.Lo ∧ s.Lo ≤ s.Hi ∧ s.Hi ≤ 127) : rReach S.Op s = reachV S.Op s := by
  have hp := (pad_bd hS).1
  have e1 : w64 (0 - s.Lo) = -s.Lo := by rw [show w64 _ = _ from w64_id (by omega)]; omega
  have e2 : w64 (0 - s.Hi) = -s.Hi := by rw [show w64 _ = _ from w64_id (by omega)]; omega
  have e3 : w64 (0 - S.Op.Pad) = -S.Op.Pad := by rw [show w64 _ = _ from w64_id (by omega)]; omega
  have hW : (0 ≤ S.Op.Win.Top ∧ S.Op.Win.Top ≤ 32) ∧ (0 ≤ S.Op.Win.Left ∧ S.Op.Win.Left ≤ 32) ∧ (0 ≤ S.Op.Win.Bottom ∧ S.Op.Win.Bottom ≤ 32) ∧ (0 ≤ S.Op.Win.Right ∧ S.Op.Win.Right ≤ 32) := by
    by_cases k1 : S.Op.Kind = 1
    · have he := hS.emp
      unfold op3 at he
      simp only [k1, ofU, bareF, bare8, bare7, bare6, bare5, bare4, bare3, bare2, bare1, emptyB, winEq] at he
      simp at he
      omega
    · have W := windowB_iff (hS.win k1).1; omega
  have eP : qPads S.Op.Win = decide (w64 (w64 (w64 (S.Op.Win.Top + S.Op.Win.Left) + S.Op.Win.Bottom) + S.Op.Win.Right) > 0) := by
    rw [show w64 (S.Op.Win.Top + S.Op.Win.Left) = _ from w64_id (by omega), show w64 (S.Op.Win.Top + S.Op.Win.Left + S.Op.Win.Bottom) = _ from w64_id (by omega), show w64 _ = _ from w64_id (by omega)]
    unfold qPads
    simp only [mx_eq]
    exact decide_eq_decide.2 (by omega)
  unfold rReach reachV
  rw [← eP, e1, e2, e3]
  simp only [mx_eq]
  cases qPads S.Op.Win <;> simp <;> omega
theorem ref12_Quick (m : Model) (hm : m.Wf) (op ch : Int) (s : Span) : Ok Try.prog 29 [.agg (modelC m), .int .i64 op, .int .i64 ch, .agg (spanC s)] (.tup [.agg (spanC (quickS m op ch s)), .int .i64 (quickE m op ch s)]) := by
  have hE := ofE_rc0 (m := m) (op := op) (ch := ch)
  refine fn_ok Tb_ok (fn := Try.f29) Try.func29 rfl rfl (e := [(0, _), (1, _), (2, _), (3, _)]) rfl (by decide) rfl ?_
  refine W_seq ?_
  refine W_region rfl ?_
  refine L_box Tb_ok (cs := [.int _ _, .int _ _, .int _ _, .int _ _, .int _ _, _, .int _ _]) (n := 7) rfl rfl rfl rfl trivial ?_
  refine L_box Tb_ok (cs := [.int _ _, .int _ _]) (n := 2) rfl rfl rfl rfl trivial ?_
  refine L_alloc Tb_ok (z := [.int .i64 0, .int .i64 0]) (n := 2) rfl rfl rfl rfl rfl ?_
  refine L_v Tb_ok (v := .int _ _) (av rfl ⟨trivial, trivial⟩) rfl ?_
  refine WL_nil ?_
  refine W_seq ?_
  refine W_region rfl ?_
  refine L_v Tb_ok (v := .agg [.int _ _, .int _ _, .int _ _, .int _ _, .int _ _, _, .int _ _]) (av rfl ⟨trivial, rfl⟩) rfl ?_
  refine L_v Tb_ok (v := .int _ _) (av rfl ⟨trivial, trivial⟩) rfl ?_
  refine L_v Tb_ok (v := .int _ _) (av rfl ⟨trivial, trivial⟩) rfl ?_
  refine L_call (hr := ref10_FindChan m hm op ch) rfl rfl trivial rfl rfl ?_
  refine L_v Tb_ok (v := .tup [_, _]) (av rfl ⟨trivial, trivial⟩) rfl ?_
  refine L_v Tb_ok (v := .agg [.int _ _, .int _ _, .int _ _, .int _ _, .int _ _, .int _ _, .int _ _, .int _ _, .int _ _, .int _ _, .int _ _, .int _ _, _, _, .int _ _, .int _ _, .int _ _, .int _ _, .int _ _, .int _ _, .int _ _, .int _ _, .int _ _, .int _ _, .int _ _, .int _ _, .int _ _, .int _ _]) (av rfl ⟨trivial, trivial⟩) rfl ?_
  refine L_v Tb_ok (v := .int _ _) (av rfl ⟨trivial, trivial⟩) rfl ?_
  refine L_alloc Tb_ok (z := [.int .i64 0, .int .i64 0, .int .i64 0, .int .i64 0, .int .i64 0, .int .i64 0, .int .i64 0, .int .i64 0, .int .i64 0, .int .i64 0, .int .i64 0, .int .i64 0, .nils, .nils, .int .i64 0, .int .i64 0, .int .i64 0, .int .i64 0, .int .i64 0, .int .i64 0, .int .i64 0, .int .i64 0, .int .i64 0, .int .i64 0, .int .i64 0, .int .i64 0, .int .i64 0, .int .i64 0]) (n := 28) rfl rfl rfl rfl rfl ?_
  refine L_store Tb_ok (v := .agg [.int _ _, .int _ _, .int _ _, .int _ _, .int _ _, .int _ _, .int _ _, .int _ _, .int _ _, .int _ _, .int _ _, .int _ _, _, _, .int _ _, .int _ _, .int _ _, .int _ _, .int _ _, .int _ _, .int _ _, .int _ _, .int _ _, .int _ _, .int _ _, .int _ _, .int _ _, .int _ _]) (cs := [_, _, _, _, _, _, _, _, _, _, _, _, _, _, _, _, _, _, _, _, _, _, _, _, _, _, _, _]) (es' := [[_, _, _, _, _, _, _, _, _, _, _, _, _, _, _, _, _, _, _, _, _, _, _, _, _, _, _, _]]) rfl rfl rfl rfl rfl rfl rfl rfl rfl rfl ⟨trivial, trivial⟩ ?_
  refine L_v Tb_ok (v := .int _ _) (av rfl ⟨trivial, trivial⟩) rfl ?_
  refine WL_nil ?_
  refine W_seq ?_
  refine W_seq ?_
  refine W_region rfl ?_
  refine L_v Tb_ok (v := .int _ _) (av rfl ⟨trivial, trivial⟩) rfl ?_
  refine L_v Tb_ok (v := .bool _) (av rfl ⟨trivial, trivial⟩) rfl ?_
  refine WL_nil ?_
  refine W_cond (b := _) rfl (fun h23 => ?_) (fun h23 => ?_)
  · have z : ofE m op ch 0 ≠ 0 := by rw [hE]; simpa using h23
    refine W_seq ?_
    refine W_region rfl ?_
    refine L_v Tb_ok (v := .agg [.int _ _, .int _ _]) (av rfl ⟨trivial, rfl⟩) rfl ?_
    refine L_v Tb_ok (v := .int _ _) (av rfl ⟨trivial, trivial⟩) rfl ?_
    refine L_store Tb_ok (v := .agg [.int _ _, .int _ _]) (cs := [_, _]) (es' := [[_, _]]) rfl rfl rfl rfl rfl rfl rfl rfl rfl rfl ⟨trivial, trivial⟩ ?_
    refine L_v Tb_ok (v := .int _ _) (av rfl ⟨trivial, trivial⟩) rfl ?_
    refine WL_nil ?_
    refine W_ret ?_
    refine ends (l := [.agg [.int _ _, .int _ _], .int _ _]) (q := .tup [.agg [.int _ _, .int _ _], .int _ _]) (.inr rfl) rfl ⟨rfl, trivial, trivial⟩ rfl rfl ?_
    simp only [quickS, quickE, if_neg z, ← hE]; rfl
  · have z : ofE m op ch 0 = 0 := by rw [hE]; simpa using h23
    obtain ⟨h0, hch, e2⟩ := rcE_zero (by rw [← hE]; exact z)
    obtain ⟨hS, _⟩ := site_ok h0
    have hb : ofBad (findS m op) ch 0 = false := (ofBad_iff hS).2 ⟨hch, by have := out_pos hS; omega⟩
    have hSi : Ok Try.prog 27 [.agg (rsiteC (rcS m op ch)), .int .i64 ch] (.tup [.int .i64 (upF (termsF m op ch 0)), .int .i64 (downF (termsF m op ch 0))]) := by
      obtain ⟨r1, r2⟩ := rUp_eq _ (termsF_W hm op ch 0) (termsF_len m op ch 0)
      rw [← r1, ← r2, e2, termsF_eq h0 hb]; exact ref12_Signed hS (lenF_site h0) hch
    have hBi : Ok Try.prog 17 [.agg (rsiteC (rcS m op ch)), .int .i64 ch] (.int .i64 (biasF m op ch 0)) := by rw [e2, bias_eq h0 hb]; exact ref10_Bias (findS m op) ch (bias_ix hS hch)
    refine W_skip ?_
    refine W_seq ?_
    refine W_seq ?_
    refine W_region rfl ?_
    refine L_v Tb_ok (v := .agg [.int _ _, .int _ _]) (av rfl ⟨trivial, rfl⟩) rfl ?_
    refine L_call (hr := ref03_Values s) rfl rfl trivial rfl rfl ?_
    refine L_v Tb_ok (v := .bool _) (av rfl ⟨trivial, trivial⟩) rfl ?_
    refine WL_nil ?_
    refine W_cond (b := _) rfl (fun h28 => ?_) (fun h28 => ?_)
    · have q : qBad s = true := by simpa using h28
      refine W_seq ?_
      refine W_region rfl ?_
      refine L_v Tb_ok (v := .agg [.int _ _, .int _ _]) (av rfl ⟨trivial, rfl⟩) rfl ?_
      refine L_store Tb_ok (v := .agg [.int _ _, .int _ _]) (cs := [_, _]) (es' := [[_, _]]) rfl rfl rfl rfl rfl rfl rfl rfl rfl rfl ⟨trivial, trivial⟩ ?_
      refine L_v Tb_ok (v := .int _ _) (av rfl ⟨trivial, trivial⟩) rfl ?_
      refine WL_nil ?_
      refine W_ret ?_
      refine ends (l := [.agg [.int _ _, .int _ _], .int _ _]) (q := .tup [.agg [.int _ _, .int _ _], .int _ _]) (.inr rfl) rfl ⟨rfl, trivial, trivial⟩ rfl rfl ?_
      simp only [quickS, quickE, if_pos z, q, if_true]; rfl
    · have q : qBad s = false := by simpa using h28
      refine W_skip ?_
      refine W_seq ?_
      refine W_region rfl ?_
      refine L_v Tb_ok (v := .agg [.int _ _, .int _ _, .int _ _, .int _ _, .int _ _, .int _ _, .int _ _, .int _ _, .int _ _, .int _ _, .int _ _, .int _ _, _, _, .int _ _, .int _ _, .int _ _, .int _ _, .int _ _, .int _ _, .int _ _, .int _ _, .int _ _, .int _ _, .int _ _, .int _ _, .int _ _, .int _ _]) (av rfl ⟨trivial, rfl⟩) rfl ?_
      refine L_v Tb_ok (v := .int _ _) (av rfl ⟨trivial, trivial⟩) rfl ?_
      refine L_call (hr := hSi) rfl rfl trivial rfl rfl ?_
      refine L_v Tb_ok (v := .tup [_, _]) (av rfl ⟨trivial, trivial⟩) rfl ?_
      refine L_v Tb_ok (v := .int _ _) (av rfl ⟨trivial, trivial⟩) rfl ?_
      refine L_v Tb_ok (v := .int _ _) (av rfl ⟨trivial, trivial⟩) rfl ?_
      refine L_v Tb_ok (v := .int _ _) (av rfl ⟨trivial, trivial⟩) rfl ?_
      refine L_v Tb_ok (v := .int _ _) (av rfl ⟨trivial, trivial⟩) rfl ?_
      refine WL_nil ?_
      refine W_seq ?_
      refine W_region rfl ?_
      refine L_v Tb_ok (v := .int _ _) (av rfl ⟨trivial, trivial⟩) rfl ?_
      refine L_v Tb_ok (v := .int _ _) (av rfl ⟨trivial, trivial⟩) rfl ?_
      refine L_v Tb_ok (v := .int _ _) (av rfl ⟨trivial, trivial⟩) rfl ?_
      refine L_v Tb_ok (v := .ptr _ _ _) (av rfl ⟨trivial, trivial⟩) rfl ?_
      refine L_v Tb_ok (v := .agg [.int _ _, .int _ _, .int _ _, .int _ _, .int _ _, .int _ _, .int _ _, .int _ _, .int _ _, .int _ _, .int _ _, .int _ _, _, _, .int _ _, .int _ _, .int _ _, .int _ _, .int _ _, .int _ _, .int _ _, .int _ _]) (av rfl ⟨trivial, rfl⟩) rfl ?_
      refine L_v Tb_ok (v := .agg [.int _ _, .int _ _]) (av rfl ⟨trivial, rfl⟩) rfl ?_
      refine L_call (hr := ref12_Reach (rcS m op ch).Op s) rfl rfl trivial rfl rfl ?_
      refine L_v Tb_ok (v := .int _ _) (av rfl ⟨trivial, trivial⟩) rfl ?_
      refine L_v Tb_ok (v := .int _ _) (av rfl ⟨trivial, trivial⟩) rfl ?_
      refine WL_nil ?_
      refine W_seq ?_
      refine W_draw 11 Tb_mixed rfl (by decide) (by kernel_rfl) (by kernel_rfl) ?_
      refine E_v Tb_ok (v := .agg [.int _ _, .int _ _, .int _ _, .int _ _, .int _ _, .int _ _, .int _ _, .int _ _, .int _ _, .int _ _, .int _ _, .int _ _, _, _, .int _ _, .int _ _, .int _ _, .int _ _, .int _ _, .int _ _, .int _ _, .int _ _, .int _ _, .int _ _, .int _ _, .int _ _, .int _ _, .int _ _]) (av rfl ⟨trivial, rfl⟩) rfl ?_
      refine E_v Tb_ok (v := .int _ _) (av rfl ⟨trivial, trivial⟩) rfl ?_
      refine E_call (hr := hBi) rfl rfl trivial rfl rfl ?_
      refine E_v Tb_ok (v := .int _ _) (av rfl ⟨trivial, trivial⟩) rfl ?_
      refine E_v Tb_ok (v := .int _ _) (av rfl ⟨trivial, trivial⟩) rfl ?_
      refine E_v Tb_ok (v := .agg [.int _ _, .int _ _, .int _ _, .int _ _, .int _ _, .int _ _, .int _ _, .int _ _, .int _ _, .int _ _, .int _ _, .int _ _, _, _, .int _ _, .int _ _, .int _ _, .int _ _, .int _ _, .int _ _, .int _ _, .int _ _, .int _ _, .int _ _, .int _ _, .int _ _, .int _ _, .int _ _]) (av rfl ⟨trivial, rfl⟩) rfl ?_
      refine E_v Tb_ok (v := .int _ _) (av rfl ⟨trivial, trivial⟩) rfl ?_
      refine E_call (hr := hBi) rfl rfl trivial rfl rfl ?_
      refine E_v Tb_ok (v := .int _ _) (av rfl ⟨trivial, trivial⟩) rfl ?_
      refine E_v Tb_ok (v := .int _ _) (av rfl ⟨trivial, trivial⟩) rfl ?_
      refine E_v Tb_ok (v := .agg [.int _ _, .int _ _]) (av rfl ⟨trivial, rfl⟩) rfl ?_
      refine LexE_nil ?_
      refine L_store Tb_ok (v := .agg [.int _ _, .int _ _]) (cs := [_, _]) (es' := [[_, _]]) rfl rfl rfl rfl rfl rfl rfl rfl rfl rfl ⟨trivial, trivial⟩ ?_
      refine L_v Tb_ok (v := .int _ _) (av rfl ⟨trivial, trivial⟩) rfl ?_
      refine WL_nil ?_
      refine W_ret ?_
      refine ends (l := [.agg [.int _ _, .int _ _], .int _ _]) (q := .tup [.agg [.int _ _, .int _ _], .int _ _]) (.inr rfl) rfl ⟨rfl, trivial, trivial⟩ rfl rfl ?_
      obtain ⟨_, hs, _, hq⟩ := quick_ok hm (show quickE m op ch s = 0 by simp [quickE, z, q])
      have hR := rReach_eq hS hs
      rw [← e2] at hR
      have hqe : quickE m op ch s = 0 := by simp [quickE, z, q]
      have hq2 := hq
      unfold quickS at hq2
      rw [if_pos z, q, if_neg (by simp)] at hq2
      obtain ⟨s1, s2, s3⟩ := sums_ok hm op ch 0
      have o2 := ofE_op z
      have hqd : qD m op ch s = w64 (w64 (upF (termsF m op ch 0) - downF (termsF m op ch 0)) * rReach (rcS m op ch).Op s) := by
        have hq3 : qOp m op = (findS m op).Op := by obtain ⟨_, _, hop, _⟩ := site_ok h0; rw [hop]; unfold qOp; rw [o2.2.2.1]
        obtain ⟨r1, _, _⟩ := qReach_eq (o := (findS m op).Op) hs (pad_bd hS).1
        unfold qD
        rw [hR, e2, hq3, r1, Int.mul_comm]
      simp only [quickS, hqe, if_pos z, q, if_false, Bool.false_eq_true, hqd]; rfl
end Go.AM
end
section
open Go Go.AM Go.Proofs
set_option maxRecDepth 10000
set_option linter.unusedVariables false
set_option linter.unusedSimpArgs false
namespace Go.AM
theorem normQuicks (a : Ask12) (ha : a.Wf) : Ok Try.prog 8 [.agg (ask12C a)] (.bool true) := by
  refine fn_ok Tb_ok (fn := Try.f8) Try.func8 rfl rfl (e := [(0, _)]) rfl (by decide) rfl ?_
  refine zs ?_
  refine zR ?_
  refine zbx [.int _ _, .int _ _, .int _ _, .int _ _, .int _ _, _, .int _ _, .int _ _, .int _ _, .int _ _, .int _ _, _] 12 ?_
  refine zLB ?_
  refine zn ?_
  refine zs ?_
  refine zR ?_
  refine zLP ?_
  refine zLG [.int _ _, .int _ _, .int _ _, .int _ _, .int _ _, _, .int _ _] ?_
  refine zLP ?_
  refine zLI ?_
  refine zLP ?_
  refine zLI ?_
  refine zLP ?_
  refine zLG [.int _ _, .int _ _] ?_
  refine zLc (norm_Quick a.M a.Op a.Ch a.S) ?_
  refine zLT [_, _] ?_
  refine zLG [.int _ _, .int _ _] ?_
  refine zLI ?_
  refine zal [.int .i64 0, .int .i64 0] 2 ?_
  refine zst (.agg [.int _ _, .int _ _]) [_, _] [[_, _]] ?_
  refine zLI ?_
  refine zn ?_
  refine zs ?_
  refine zR ?_
  refine zLP ?_
  refine zLG [.int _ _, .int _ _, .int _ _, .int _ _, .int _ _, _, .int _ _] ?_
  refine zLP ?_
  refine zLI ?_
  refine zLP ?_
  refine zLI ?_
  refine zLP ?_
  refine zLG [.int _ _, .int _ _] ?_
  refine zLc (ref12_Quick a.M ha.1 a.Op a.Ch a.S) ?_
  refine zLT [_, _] ?_
  refine zLG [.int _ _, .int _ _] ?_
  refine zLI ?_
  refine zal [.int .i64 0, .int .i64 0] 2 ?_
  refine zst (.agg [.int _ _, .int _ _]) [_, _] [[_, _]] ?_
  refine zLI ?_
  refine zn ?_
  refine zs ?_
  refine zR ?_
  refine zLc (law12_fixed) ?_
  refine zLB ?_
  refine zgLG [.int _ _, .int _ _] ?_
  refine zgLG [.int _ _, .int _ _] ?_
  refine zgLB ?_
  refine zpLB ?_
  refine zLB ?_
  refine zgLI ?_
  refine zgLI ?_
  refine zgLB ?_
  refine zpLB ?_
  refine zLB ?_
  refine zn ?_
  refine zt ?_
  refine ends (l := [.bool _]) (q := .bool _) (.inr rfl) rfl ⟨trivial, trivial⟩ rfl rfl ?_
  simp
end Go.AM
end
section
namespace Go.Proofs.Ytheclbekghjecaa.normQuicks
open Go.ChangeShapes Go.WideShapes Go.ChangeAt Go.RowKit
open Go.ChangeMaps (open_string shut_string)
set_option linter.unusedVariables false
theorem own : ownKnob Try.prog.godebug = none := by kernel_rfl
theorem laidOut : laidOutB Try.prog = true := by kernel_rfl
set_option maxRecDepth 100000 in
theorem lifted (os : Os) (started : os.Started) (H : Type) (enc : TypeId × Value → H) :
    ReturnsInHanded {} Try.checked os 8 .any (Rows.normQuicksSpec.pre6 enc Try.prog Try.f8 Rows.normQuicksRow.domain false) (Rows.normQuicksSpec.post enc Try.prog Try.f8 false true false false) := by
  refine returnsInHanded_of_change_sized (C := Try.checked) own started (by kernel_rfl) Try.func8
    (ChangeSpec.witness6 (enc := enc) (C := Try.checked) false ⟨#[], #[.agg #[.int .i64 0, .int .i64 0, .int .i64 0, .int .i64 0, .int .i64 0, .slice none 0 0, .int .i64 0, .int .i64 0, .int .i64 0, .int .i64 0, .int .i64 0, .slice none 0 0]], []⟩ 8 (by kernel_rfl) (by kernel_rfl) (by kernel_rfl) (by kernel_rfl)) ?_
  intro W base args ds gs before hval0 hW hcnd hsz0 _
  have hsz : (DataW.weightsEach Try.prog (Try.f8.params.toList ++ Rows.normQuicksSpec.plain.varTypes Try.prog) (ds ++ gs)).all (· ≤ reachBytes) = true := hsz0
  have hval : ∀ (j : Nat) t v, Try.f8.params[j]? = some t → args[j]? = some v → Value.okWide Try.prog W .any base t v := hval0
  have hW' := hW
  obtain ⟨p, q, hA0, hV, rfl, hfz, hnd⟩ := hW
  have hA : DataW.TrodAll enc Try.prog W 0 (fun _ => true) true Try.f8.params.toList args.toList ds p := hA0
  rw [Try.params8] at hA hval hsz
  obtain ⟨v0, vs0, d0, ds0, p0, q0, hargs, rfl, rfl, h0, r0⟩ := trodAll_cons hA
  obtain ⟨rfl, rfl, rfl⟩ := trodAll_nil r0
  obtain rfl : args = #[v0] := by cases args; simp_all
  obtain ⟨rfl, rfl⟩ := trodVars_none hV
  have k0 := h0
  have lt0 : ∀ x ∈ p0, x.block < W.heap.size := by obtain ⟨m, hm⟩ := k0; exact DataW.trod_lt m _ _ _ hm
  obtain ⟨y0, K0, w0⟩ := Go.AM.Opn.arg Go.AM.arg0 h0 (j := 0) (t := 63) hsz rfl rfl
  have R0 := Go.AM.arg_agg Try.underlying63 (hval 0 63 v0 rfl rfl) K0
  clear hA0 hval0 hsz0 hsz
  refine (Go.AM.Ok.law (Go.AM.normQuicks y0 w0) (Go.AM.rel1 R0)).mono fun e W' ⟨he, bel⟩ => ?_
  subst he
  exact ⟨_, rfl, _, _, _, [], _, [], hW', trodAll_mk1 (shut_bool Try.underlying4 _), (trodAll_cons_mk (Below.trod laidOut (by kernel_rfl) (of_decide_eq_true (by kernel_rfl)) k0 bel lt0) trodAll_mk0), rfl, bel.frame _, fun h => by cases h⟩
theorem over : Rows.normQuicksRow.holds Try.pinned (OpenSpec.ofChange Rows.normQuicksSpec) :=
  OpenClaim.holds_of_wide 8 Try.f8 rfl rfl rfl rfl rfl rfl rfl ⟨rfl, rfl, rfl, rfl, rfl⟩ rfl rfl rfl rfl rfl (by kernel_rfl) Try.func8 (by kernel_rfl)
    (of_decide_eq_true (by kernel_rfl)) (by unfold Func.isWrapper; first | (rw [if_pos (by decide +kernel)]; kernel_rfl) | (rw [if_neg (by decide +kernel)]; exact ⟨rfl, rfl⟩))
    (fun os started H enc _ => lifted os started H enc)
theorem proved : Rows.NormQuicksSaid := over
end Go.Proofs.Ytheclbekghjecaa.normQuicks
namespace Go.Proofs.Ytheclbekghjecaa
/-- The row, under a short name, for the claim. -/
theorem normQuicks_holds : Rows.NormQuicksSaid := normQuicks.proved
end Go.Proofs.Ytheclbekghjecaa
end
