/- The law WitnessTotals answers true, whatever its arguments: part 6 of 6 of its proof. -/
import Derived.Test.YtkcigpfdlplbdaaRows
import Derived.WalkKit
import Derived.Test.YtkcigpfdlplbdaaZWitnessTotals4
section
open Go Go.AM Go.Proofs
set_option maxRecDepth 10000
set_option linter.unusedVariables false
set_option linter.unusedSimpArgs false
namespace Go.AM
theorem wrap_nat64 (v : BitVec 64) : IntKind.i64.wrap (v.toNat : Int) = v.toInt := by
  rw [IntKind.wrap_i64, BitVec.toInt_eq_toNat_cond]
  have := v.isLt
  split <;> omega
theorem ofInt_int64 {x : Int} (h : -9223372036854775808 ≤ x ∧ x ≤ 9223372036854775807) : (BitVec.ofInt 64 x).toInt = x := by
  rw [BitVec.toInt_ofInt, Int.bmod_def]
  split <;> omega
theorem w64_range (x : Int) : -9223372036854775808 ≤ w64 x ∧ w64 x ≤ 9223372036854775807 := by rw [w64, IntKind.wrap_i64]; omega
theorem msb64 {x : Int} (h : -9223372036854775808 ≤ x ∧ x ≤ 9223372036854775807) : (BitVec.ofInt 64 x).msb = decide (x < 0) := by rw [BitVec.msb_eq_toInt, ofInt_int64 h]
theorem xor_sign {x y : Int} (hx : -9223372036854775808 ≤ x ∧ x ≤ 9223372036854775807) (hy : -9223372036854775808 ≤ y ∧ y ≤ 9223372036854775807) :
    w64 ((BitVec.ofInt IntKind.i64.bits x ^^^ BitVec.ofInt IntKind.i64.bits y).toNat : Int) < 0 ↔ ¬ (x < 0 ↔ y < 0) := by
  have e : w64 ((BitVec.ofInt IntKind.i64.bits x ^^^ BitVec.ofInt IntKind.i64.bits y).toNat : Int) = (BitVec.ofInt 64 x ^^^ BitVec.ofInt 64 y).toInt := wrap_nat64 _
  have m : (BitVec.ofInt 64 x ^^^ BitVec.ofInt 64 y).msb = (decide (x < 0) ^^ decide (y < 0)) := by rw [BitVec.msb_xor, msb64 hx, msb64 hy]
  rw [BitVec.msb_eq_toInt] at m
  rw [e]
  by_cases c : x < 0 <;> by_cases d : y < 0 <;> simp [c, d] at m ⊢ <;> omega
theorem and_sign {x y : Int} (hx : -9223372036854775808 ≤ x ∧ x ≤ 9223372036854775807) (hy : -9223372036854775808 ≤ y ∧ y ≤ 9223372036854775807) :
    w64 ((BitVec.ofInt IntKind.i64.bits x &&& BitVec.ofInt IntKind.i64.bits y).toNat : Int) < 0 ↔ (x < 0 ∧ y < 0) := by
  have e : w64 ((BitVec.ofInt IntKind.i64.bits x &&& BitVec.ofInt IntKind.i64.bits y).toNat : Int) = (BitVec.ofInt 64 x &&& BitVec.ofInt 64 y).toInt := wrap_nat64 _
  have m : (BitVec.ofInt 64 x &&& BitVec.ofInt 64 y).msb = (decide (x < 0) && decide (y < 0)) := by rw [BitVec.msb_and, msb64 hx, msb64 hy]
  rw [BitVec.msb_eq_toInt] at m
  rw [e]
  by_cases c : x < 0 <;> by_cases d : y < 0 <;> simp [c, d] at m ⊢ <;> omega
theorem num_Add (a b : Int) (ha : -4611686018427387904 ≤ a ∧ a ≤ 4611686018427387903) (hb : -4611686018427387904 ≤ b ∧ b ≤ 4611686018427387903) : Ok Try.prog 97 [.int .i64 a, .int .i64 b] (.tup [.int .i64 (w64 (a + b)), .int .i64 0]) := by
  have es : w64 (a + b) = a + b := w64_id (by omega)
  have hc17 : decide (IntKind.i64.wrap ((BitVec.ofInt IntKind.i64.bits (IntKind.i64.wrap ((BitVec.ofInt IntKind.i64.bits a ^^^ BitVec.ofInt IntKind.i64.bits (IntKind.i64.wrap (a + b))).toNat : Int)) &&& BitVec.ofInt IntKind.i64.bits (IntKind.i64.wrap ((BitVec.ofInt IntKind.i64.bits b ^^^ BitVec.ofInt IntKind.i64.bits (IntKind.i64.wrap (a + b))).toNat : Int))).toNat : Int) < 0) = false := by
    apply decide_eq_false
    rw [show IntKind.i64.wrap (a + b) = a + b from es]
    intro h
    have h2 := (and_sign (w64_range _) (w64_range _)).1 h
    rw [xor_sign (by omega) (by omega), xor_sign (by omega) (by omega)] at h2
    omega
  --@@1
  skip
  refine fn_ok Tb_ok (fn := Try.f97) Try.func97 rfl rfl (e := [(0, _), (1, _)]) rfl (by decide) rfl ?_
  refine zs ?_
  refine zR ?_
  refine zLI ?_
  refine zLI ?_
  refine zn ?_
  refine zs ?_
  refine zR ?_
  refine zLI ?_
  refine zLI ?_
  refine zLI ?_
  refine zLI ?_
  refine zn ?_
  refine zs ?_
  refine zs ?_
  refine zR ?_
  refine zLI ?_
  refine zLI ?_
  refine zLI ?_
  refine zLI ?_
  refine zLI ?_
  refine zLI ?_
  refine zLI ?_
  refine zLB ?_
  refine zn ?_
  refine W_cond_f (b := _) rfl (by exact hc17) ?_
  refine zk ?_
  refine zs ?_
  refine zR ?_
  refine zLI ?_
  refine zLI ?_
  refine zLI ?_
  refine zn ?_
  refine zt ?_
  refine ends (l := [.int _ _, .int _ _]) (q := .tup [.int _ _, .int _ _]) (.inr rfl) rfl ⟨trivial, trivial, trivial⟩ rfl rfl ?_
  rfl
theorem span_Add (a b : Span) {B : Int} (ha : bS B a) (hb : bS B b) (hB : B ≤ 4611686018427387903) (va : a.Lo ≤ a.Hi) (vb : b.Lo ≤ b.Hi) : Ok Try.prog 85 [.agg (spanC a), .agg (spanC b)] (.tup [.agg (spanC (plusS a b)), .int .i64 0]) := by
  obtain ⟨⟨a1, a2⟩, a3, a4⟩ := ha
  obtain ⟨⟨b1, b2⟩, b3, b4⟩ := hb
  have h1 : Ok Try.prog 69 [.agg (spanC a)] (.bool true) := by have := span_Valid a; rwa [decide_eq_true va] at this
  have h2 : Ok Try.prog 69 [.agg (spanC b)] (.bool true) := by have := span_Valid b; rwa [decide_eq_true vb] at this
  have m1 := num_Add a.Lo b.Lo (by omega) (by omega)
  have m2 := num_Add a.Hi b.Hi (by omega) (by omega)
  --@@2
  skip
  refine fn_ok Tb_ok (fn := Try.f85) Try.func85 rfl rfl (e := [(0, _), (1, _)]) rfl (by decide) rfl ?_
  refine zs ?_
  refine zR ?_
  refine zbx [.int _ _, .int _ _] 2 ?_
  refine zbx [.int _ _, .int _ _] 2 ?_
  refine zal [.int .i64 0, .int .i64 0] 2 ?_
  refine zLI ?_
  refine zn ?_
  refine zs ?_
  refine zs ?_
  refine zR ?_
  refine zLG [.int _ _, .int _ _] ?_
  refine zLc (h1) ?_
  refine zLB ?_
  refine zLB ?_
  refine zgLG [.int _ _, .int _ _] ?_
  refine L_callg (hr := fun hg => h2) rfl rfl rfl rfl rfl (fun hg => ⟨⟨(by exact hg), True.intro⟩, True.intro⟩) rfl rfl ?_
  refine zgLB ?_
  refine zpLB ?_
  refine zn ?_
  refine W_cond_f (b := _) rfl (by rfl) ?_
  refine zk ?_
  refine zs ?_
  refine zR ?_
  refine zLP ?_
  refine zLI ?_
  refine zLP ?_
  refine zLI ?_
  refine zLc (m1) ?_
  refine zLT [_, _] ?_
  refine zLI ?_
  refine zLI ?_
  refine zLI ?_
  refine zLI ?_
  refine zn ?_
  refine zs ?_
  refine zR ?_
  refine zLP ?_
  refine zLI ?_
  refine zLP ?_
  refine zLI ?_
  refine zLc (m2) ?_
  refine zLT [_, _] ?_
  refine zLI ?_
  refine zLI ?_
  refine zLI ?_
  refine zLI ?_
  refine zn ?_
  refine zs ?_
  refine zR ?_
  refine zLI ?_
  refine zLI ?_
  refine zLI ?_
  refine zLI ?_
  refine zLc (span_pair _ _) ?_
  refine zLG [.int _ _, .int _ _] ?_
  refine zLI ?_
  refine zst (.agg [.int _ _, .int _ _]) [_, _] [[_, _]] ?_
  refine zLI ?_
  refine zn ?_
  refine zt ?_
  refine ends (l := [.agg [.int _ _, .int _ _], .int _ _]) (q := .tup [.agg [.int _ _, .int _ _], .int _ _]) (.inr rfl) rfl ⟨rfl, trivial, trivial⟩ rfl rfl ?_
  rfl
theorem depth_word : Ok Try.prog 60 [] (.agg (spanC wordS)) := by
  refine fn_ok Tb_ok (fn := Try.f60) Try.func60 rfl rfl (e := []) rfl (by decide) rfl ?_
  refine zs ?_
  refine zR ?_
  refine zal [.int .i64 0, .int .i64 0] 2 ?_
  refine zn ?_
  refine zs ?_
  refine zR ?_
  refine zLG [.int _ _, .int _ _] ?_
  refine zst (.agg [.int _ _, .int _ _]) [_, _] [[_, _]] ?_
  refine zn ?_
  refine zt ?_
  refine ends (l := [.agg [.int _ _, .int _ _]]) (q := .agg [.int _ _, .int _ _]) (.inr rfl) rfl ⟨rfl, trivial⟩ rfl rfl ?_
  rfl
theorem depth_long : Ok Try.prog 65 [] (.agg (spanC longS)) := by
  refine fn_ok Tb_ok (fn := Try.f65) Try.func65 rfl rfl (e := []) rfl (by decide) rfl ?_
  refine zs ?_
  refine zR ?_
  refine zal [.int .i64 0, .int .i64 0] 2 ?_
  refine zn ?_
  refine zs ?_
  refine zR ?_
  refine zLG [.int _ _, .int _ _] ?_
  refine zst (.agg [.int _ _, .int _ _]) [_, _] [[_, _]] ?_
  refine zn ?_
  refine zt ?_
  refine ends (l := [.agg [.int _ _, .int _ _]]) (q := .agg [.int _ _, .int _ _]) (.inr rfl) rfl ⟨rfl, trivial⟩ rfl rfl ?_
  rfl
def safeB (m : Model) (op ch : Int) (s : Span) (d : Int) : Bool := bif partE m op ch s d == 0 then okW (partS m op ch s d) else false
theorem depth_Safe (m : Model) (hm : m.Wf) (op ch : Int) (s : Span) (d : Int) : Ok Try.prog 25 [.agg (modelC m), .int .i64 op, .int .i64 ch, .agg (spanC s), .int .i64 d] (.tup [.bool (safeB m op ch s d), .int .i64 (partE m op ch s d)]) := by
  refine fn_ok Tb_ok (fn := Try.f25) Try.func25 rfl rfl (e := [(0, _), (1, _), (2, _), (3, _), (4, _)]) rfl (by decide) rfl ?_
  refine zs ?_
  refine zR ?_
  refine zbx [.int _ _, .int _ _, .int _ _, .int _ _, .int _ _, _, .int _ _] 7 ?_
  refine zbx [.int _ _, .int _ _] 2 ?_
  refine zLB ?_
  refine zLI ?_
  refine zn ?_
  refine zs ?_
  refine zR ?_
  refine zLG [.int _ _, .int _ _, .int _ _, .int _ _, .int _ _, _, .int _ _] ?_
  refine zLI ?_
  refine zLI ?_
  refine zLG [.int _ _, .int _ _] ?_
  refine zLI ?_
  refine zLc (bound_Part m hm op ch s d) ?_
  refine zLT [_, _] ?_
  refine zLG [.int _ _, .int _ _] ?_
  refine zLI ?_
  refine zal [.int .i64 0, .int .i64 0] 2 ?_
  refine zst (.agg [.int _ _, .int _ _]) [_, _] [[_, _]] ?_
  refine zLI ?_
  refine zn ?_
  refine zs ?_
  refine W_draw 10 Tb_mixed rfl (by decide) (by kernel_rfl) (by kernel_rfl) ?_
  refine zEI ?_
  refine zEB ?_
  refine zEB ?_
  refine E_callg (hr := fun hg => depth_word) rfl rfl rfl rfl rfl (fun hg => trivial) rfl rfl ?_
  refine zgEG [.int _ _, .int _ _] ?_
  refine E_callg (hr := fun hg => span_Holds _ _) rfl rfl rfl rfl rfl (fun hg => ⟨⟨(by exact hg), True.intro⟩, ⟨⟨(by exact hg), True.intro⟩, True.intro⟩⟩) rfl rfl ?_
  refine zpEB ?_
  refine zEI ?_
  refine zEB ?_
  refine zEI ?_
  refine LexE_nil ?_
  refine zn ?_
  refine zt ?_
  refine ends (l := [.bool _, .int _ _]) (q := .tup [.bool _, .int _ _]) (.inr rfl) rfl ⟨trivial, trivial, trivial⟩ rfl rfl ?_
  rfl
def narB (t : Int) (s : Span) : Bool := bif decide (s.Lo ≥ -t) then decide (s.Hi < t) else false
theorem ref13_Narrow16 (s : Span) : Ok Try.prog 59 [.agg (spanC s), .int .i64 16] (.bool (narB 32768 s)) := by
  refine fn_ok Tb_ok (fn := Try.f59) Try.func59 rfl rfl (e := [(0, _), (1, _)]) rfl (by decide) rfl ?_
  refine zs ?_
  refine zR ?_
  refine zbx [.int _ _, .int _ _] 2 ?_
  refine zLB ?_
  refine zn ?_
  refine zs ?_
  refine zR ?_
  refine zLI ?_
  refine zLI ?_
  refine zLI ?_
  refine L_v Tb_ok (v := .int _ _) (av rfl ⟨trivial, (by decide)⟩) rfl ?_
  refine zLI ?_
  refine zn ?_
  refine zs ?_
  refine zR ?_
  refine zLP ?_
  refine zLI ?_
  refine zLI ?_
  refine zLI ?_
  refine zLB ?_
  refine zLB ?_
  refine zgLP ?_
  refine zgLI ?_
  refine zgLI ?_
  refine zgLB ?_
  refine zpLB ?_
  refine zLB ?_
  refine zn ?_
  refine zt ?_
  refine ends (l := [.bool _]) (q := .bool _) (.inr rfl) rfl ⟨trivial, trivial⟩ rfl rfl ?_
  rfl
theorem ref13_Narrow32 (s : Span) : Ok Try.prog 59 [.agg (spanC s), .int .i64 32] (.bool (narB 2147483648 s)) := by
  refine fn_ok Tb_ok (fn := Try.f59) Try.func59 rfl rfl (e := [(0, _), (1, _)]) rfl (by decide) rfl ?_
  refine zs ?_
  refine zR ?_
  refine zbx [.int _ _, .int _ _] 2 ?_
  refine zLB ?_
  refine zn ?_
  refine zs ?_
  refine zR ?_
  refine zLI ?_
  refine zLI ?_
  refine zLI ?_
  refine L_v Tb_ok (v := .int _ _) (av rfl ⟨trivial, (by decide)⟩) rfl ?_
  refine zLI ?_
  refine zn ?_
  refine zs ?_
  refine zR ?_
  refine zLP ?_
  refine zLI ?_
  refine zLI ?_
  refine zLI ?_
  refine zLB ?_
  refine zLB ?_
  refine zgLP ?_
  refine zgLI ?_
  refine zgLI ?_
  refine zgLB ?_
  refine zpLB ?_
  refine zLB ?_
  refine zn ?_
  refine zt ?_
  refine ends (l := [.bool _]) (q := .bool _) (.inr rfl) rfl ⟨trivial, trivial⟩ rfl rfl ?_
  rfl
theorem narB_iff {s : Span} : narB 32768 s = true ↔ nar s := by
  unfold narB nar
  by_cases c : s.Lo ≥ -32768
  · rw [decide_eq_true c, cond_true, decide_eq_true_eq]; omega
  · rw [decide_eq_false c, cond_false]; simp; omega
/-- what the reference's search asks of a depth -/
def blkOk (D : Nat) (r : List Span) (i : Nat) : Prop := narB 32768 (partG D ⟨0, 0, false⟩ r (i + 1)).2 = true ∧ narB 32768 (r.getD i default) = true
theorem blk_iff {d : Int} {D : Nat} (hd : d = (D : Int)) {r : List Span} {j : Nat} : blkOk D r j ↔ (bif !narB 32768 (plusS (blkY d j (partG D ⟨0, 0, false⟩ r j).2) (r.getD j default)) then true else !narB 32768 (r.getD j default)) = false := by
  unfold blkOk
  rw [blkY_eq hd]
  cases narB 32768 (plusS (blkY d j (partG D ⟨0, 0, false⟩ r j).2) (r.getD j default)) <;> simp
theorem bad_b {b : Bool} {p : Prop} (hb : b = true → p) (hn : ¬ p) : AV.bool false = AV.bool b := by
  cases b with
  | false => rfl
  | true => exact absurd (hb rfl) hn
theorem all_snoc {p : Nat → Prop} {k : Nat} (h : ∀ i, i < k → p i) (hk : p k) : ∀ i, i < k + 1 → p i := fun i hi => by
  by_cases e : i = k
  · rw [e]; exact hk
  · exact h i (by omega)
theorem ref18_safe (L : List (List Span)) (d : Int) (D : Nat) (hd : d = (D : Int)) (hD : 0 < D) (hlen : ∀ k, k < L.length → (L.getD k default).length ≤ 512) (hLL : L.length ≤ 1048576) (b : Bool) (hb : b = true ↔ ∀ k, k < L.length → ∀ i, i < (L.getD k default).length → blkOk D (L.getD k default) i) : Ok Try.prog 56 [.ro (L.map rowC), .int .i64 d] (.bool b) := by
  have hd0 : d ≠ 0 := by omega
  --@@3
  skip
  refine fn_ok Tb_ok (fn := Try.f56) Try.func56 rfl rfl (e := [(0, _), (1, _)]) rfl (by decide) rfl ?_
  refine zs ?_
  refine zR ?_
  refine zLB ?_
  refine zn ?_
  refine zs ?_
  refine zs ?_
  refine zR ?_
  refine zLO ?_
  refine zLI ?_
  refine zLI ?_
  refine zn ?_
  refine W_block ?_
  -- slot 44 changes in the loop: hint wanted
  -- slot 45 changes in the loop: hint wanted
  -- slot 46 changes in the loop: hint wanted
  refine W_forEF (L.length) (fun (k : Nat) => ∀ q, q < k → ∀ i, i < (L.getD q default).length → blkOk D (L.getD q default) i) (fun q hq => absurd hq (Nat.not_lt_zero _)) [(1, .int _ _), (10, .ro _), (11, .int _ _)] (fun (k : Nat) => [(12, .int .i64 (k : Int))]) [] (fun (k : Nat) => []) [] (fun (k : Nat) => []) 0 (le_fit (sub_cat ⟨rfl, trivial⟩ ⟨rfl, rfl, rfl, trivial⟩) (subO_cat trivial trivial) (subK_cat trivial trivial) rfl rfl rfl rfl rfl) ?_
  intro k hk hfk
  refine W.of_le (s' := ⟨[(12, .int .i64 (k : Int)), (1, .int _ _), (10, .ro _), (11, .int _ _)], [], [], 0⟩) (le_fit ⟨rfl, rfl, rfl, rfl, trivial⟩ trivial trivial rfl rfl rfl rfl rfl) ?_
  refine zs ?_
  refine zR ?_
  refine zLB ?_
  refine zn ?_
  refine zs ?_
  refine W_cond (b := _) rfl (fun h13 => ?_) (fun h13 => ?_)
  · have hkt : k < L.length := by (have := of_decide_eq_true h13; simp only [List.length_map, List.length_take, List.length_drop] at this; omega)
    have hr := hlen k hkt
    have hrk : L.getD ((k : Nat) : Int).toNat default = L.getD k default := by rw [Int.toNat_natCast]
    refine zk ?_
    refine zs ?_
    refine W_block ?_
    refine zs ?_
    refine zR ?_
    (refine L_v Tb_ok (v := _) (ave_index_ro rfl rfl rfl (fun _ => rfl) rfl (by first | omega | assumption | decide | (simp_all; done) | (simp_all; omega)) (by first | omega | assumption | decide | (simp_all; done) | (simp_all; omega)) trivial) rfl ?_)
    refine zLO ?_
    simp only [hrk]
    refine zLO ?_
    refine zn ?_
    refine zs ?_
    refine zR ?_
    refine zal [.int .i64 0, .int .i64 0] 2 ?_
    refine zn ?_
    refine zs ?_
    refine zR ?_
    refine zLO ?_
    refine zLI ?_
    refine zLI ?_
    refine zn ?_
    refine W_block ?_
    -- slot 44 changes in the loop: hint wanted
    -- slot 45 changes in the loop: hint wanted
    -- slot 46 changes in the loop: hint wanted
    refine W_forEF ((L.getD k default).length) (fun (j : Nat) => ∀ i, i < j → blkOk D (L.getD k default) i) (fun q hq => absurd hq (Nat.not_lt_zero _)) [(1, .int _ _), (7, .ptr 0 0 0), (10, .ro _), (11, .int _ _), (12, .int _ _), (16, .ro _), (17, .int _ _)] (fun (j : Nat) => [(18, .int .i64 (j : Int))]) [] (fun (j : Nat) => [(0, some ⟨28, 2, 0, [spanC (partG D ⟨0, 0, false⟩ (L.getD k default) j).2]⟩)]) [] (fun (j : Nat) => []) 1 (le_fit (sub_cat ⟨rfl, trivial⟩ ⟨rfl, rfl, rfl, rfl, rfl, rfl, rfl, trivial⟩) (subO_cat ⟨.inr rfl, trivial⟩ trivial) (subK_cat trivial trivial) rfl rfl rfl rfl rfl) ?_
    intro j hj hfj
    refine W.of_le (s' := ⟨[(18, .int .i64 (j : Int)), (1, .int _ _), (7, .ptr 0 0 0), (10, .ro _), (11, .int _ _), (12, .int _ _), (16, .ro _), (17, .int _ _)], [(0, some ⟨28, 2, 0, [spanC (partG D ⟨0, 0, false⟩ (L.getD k default) j).2]⟩)], [], 1⟩) (le_fit ⟨rfl, rfl, rfl, rfl, rfl, rfl, rfl, rfl, trivial⟩ ⟨.inr rfl, trivial⟩ trivial rfl rfl rfl rfl rfl) ?_
    refine zs ?_
    refine zR ?_
    refine zLB ?_
    refine zn ?_
    refine zs ?_
    refine W_cond (b := _) rfl (fun h19 => ?_) (fun h19 => ?_)
    · have hjt : j < (L.getD k default).length := by (have := of_decide_eq_true h19; simp only [List.length_map, List.length_take, List.length_drop] at this; omega)
      refine zk ?_
      refine zs ?_
      refine W_block ?_
      refine zs ?_
      refine zR ?_
      refine zLI ?_
      (refine L_v Tb_ok (v := _) (ave_index_ro rfl rfl rfl (fun _ => rfl) rfl (by first | omega | assumption | decide | (simp_all; done) | (simp_all; omega)) (by first | omega | assumption | decide | (simp_all; done) | (simp_all; omega)) trivial) rfl ?_)
      refine zLG [.int _ _, .int _ _] ?_
      refine zal [.int .i64 0, .int .i64 0] 2 ?_
      refine zLI ?_
      refine zst (.agg [.int _ _, .int _ _]) [_, _] [[_, _]] ?_
      refine zn ?_
      refine zs ?_
      refine zs ?_
      refine zR ?_
      refine zLI ?_
      refine zLI ?_
      refine L_v Tb_ok (v := .int _ _) (av rfl ⟨trivial, (by exact hd0)⟩) rfl ?_
      refine zLB ?_
      refine zn ?_
      refine W_iftB (b := _) rfl [(1, .int _ _), (7, .ptr 0 0 0), (9, .ptr 1 0 0), (10, .ro _), (11, .int _ _), (12, .int _ _), (16, .ro _), (17, .int _ _), (18, .int _ _)] (fun (z : Bool) => []) [(1, some ⟨_, _, _, _⟩)] (fun (z : Bool) => [(0, some ⟨28, 2, 0, [spanC (bif z then ⟨0, 0⟩ else (partG D ⟨0, 0, false⟩ (L.getD k default) j).2)]⟩)]) [] (fun (z : Bool) => []) 2 ⟨rfl, rfl, rfl, rfl, rfl, rfl, rfl, rfl, rfl, trivial⟩ ⟨.inr rfl, trivial⟩ trivial (fun h26 => ?_) (fun h26 => ?_) ?_
      · refine zR ?_
        refine zLG [.int _ _, .int _ _] ?_
        refine zst (.agg [.int _ _, .int _ _]) [_, _] [[_, _]] ?_
        refine zn ?_
        exact ⟨trivial, (le_fit (sub_cat trivial ⟨rfl, rfl, rfl, rfl, rfl, rfl, rfl, rfl, rfl, trivial⟩) (subO_cat ⟨.inr rfl, trivial⟩ ⟨.inr rfl, trivial⟩) (subK_cat trivial trivial) rfl rfl rfl rfl rfl)⟩
      · refine zk ?_
        exact ⟨trivial, (le_fit (sub_cat trivial ⟨rfl, rfl, rfl, rfl, rfl, rfl, rfl, rfl, rfl, trivial⟩) (subO_cat ⟨.inr rfl, trivial⟩ ⟨.inr rfl, trivial⟩) (subK_cat trivial trivial) rfl rfl rfl rfl rfl)⟩
      refine W.of_le (s' := ⟨[(1, .int _ _), (7, .ptr 0 0 0), (9, .ptr 1 0 0), (10, .ro _), (11, .int _ _), (12, .int _ _), (16, .ro _), (17, .int _ _), (18, .int _ _)], [(0, some ⟨28, 2, 0, [spanC (bif _ then ⟨0, 0⟩ else (partG D ⟨0, 0, false⟩ (L.getD k default) j).2)]⟩), (1, some ⟨_, _, _, _⟩)], [], 2⟩) (le_fit ⟨rfl, rfl, rfl, rfl, rfl, rfl, rfl, rfl, rfl, trivial⟩ ⟨.inr rfl, .inr rfl, trivial⟩ trivial rfl rfl rfl rfl rfl) ?_
      refine zs ?_
      refine zR ?_
      refine zLP ?_
      refine zLI ?_
      refine zLP ?_
      refine zLI ?_
      refine zLI ?_
      refine zLP ?_
      refine zst (.int _ _) [_] [[_, _]] ?_
      refine zn ?_
      refine zs ?_
      refine zR ?_
      refine zLP ?_
      refine zLI ?_
      refine zLP ?_
      refine zLI ?_
      refine zLI ?_
      refine zLP ?_
      refine zst (.int _ _) [_] [[_, _]] ?_
      refine zn ?_
      refine zs ?_
      refine zR ?_
      refine zLG [.int _ _, .int _ _] ?_
      refine zLc (ref13_Narrow16 (plusS (blkY d j (partG D ⟨0, 0, false⟩ (L.getD k default) j).2) ((L.getD k default).getD j default))) ?_
      refine zLB ?_
      refine zLB ?_
      refine zgLG [.int _ _, .int _ _] ?_
      refine L_callg (hr := fun hg => ref13_Narrow16 ((L.getD k default).getD j default)) rfl rfl rfl rfl rfl (fun hg => ⟨⟨(by exact hg), True.intro⟩, True.intro⟩) rfl rfl ?_
      refine zgLB ?_
      refine zpLB ?_
      refine zn ?_
      refine W_cond (b := _) rfl (fun h47 => ?_) (fun h47 => ?_)
      · have hbj : ¬ blkOk D (L.getD k default) j := fun q => by have := (blk_iff hd).1 q; exact absurd (this.symm.trans h47) (by decide)
        refine zs ?_
        refine zR ?_
        refine zLB ?_
        refine zn ?_
        refine zt ?_
        refine ends (l := [.bool _]) (q := .bool _) (.inr rfl) rfl ⟨trivial, trivial⟩ rfl rfl ?_
        exact bad_b hb.1 (fun q => hbj (q k hkt j hjt))
      · have hbj : blkOk D (L.getD k default) j := (blk_iff hd).2 h47
        refine zk ?_
        refine zR ?_
        refine zLI ?_
        refine zLI ?_
        refine zn ?_
        refine forF_end hjt (all_snoc hfj hbj) (le_fit (sub_cat ⟨congrArg _ (w_succ hjt (by omega)), trivial⟩ ⟨rfl, rfl, rfl, rfl, rfl, rfl, rfl, trivial⟩) (subO_cat ⟨.inr (by rw [blkY_eq hd]; rfl), trivial⟩ trivial) (subK_cat trivial trivial) rfl rfl rfl rfl rfl)
    · have hje : j = (L.getD k default).length := by (have := of_decide_eq_false h19; simp only [List.length_map, List.length_take, List.length_drop] at this; omega)
      refine W_exit ?_
      repeat (first | refine pass_then ?_ | refine pass_forF ?_)
      refine blockQ_hit ?_
      refine zR ?_
      refine zLI ?_
      refine zLI ?_
      refine zn ?_
      refine forF_end hkt (all_snoc hfk (fun i hi => hfj i (by omega))) (le_fit (sub_cat ⟨congrArg _ (w_succ hkt (by omega)), trivial⟩ ⟨rfl, rfl, rfl, trivial⟩) (subO_cat trivial trivial) (subK_cat trivial trivial) rfl rfl rfl rfl rfl)
  · have hke : k = L.length := by (have := of_decide_eq_false h13; simp only [List.length_map, List.length_take, List.length_drop] at this; omega)
    refine W_exit ?_
    repeat (first | refine pass_then ?_ | refine pass_forF ?_)
    refine blockQ_hit ?_
    refine zs ?_
    refine zR ?_
    refine zLB ?_
    refine zn ?_
    refine zt ?_
    refine ends (l := [.bool _]) (q := .bool _) (.inr rfl) rfl ⟨trivial, trivial⟩ rfl rfl ?_
    rw [hb.2 (fun q hq => hfk q (by omega))]
end Go.AM
end
section
namespace Go.AM
open Go.RowKit
set_option linter.unusedVariables false
set_option linter.unusedSimpArgs false
section
variable {P : Program} {T : Tab} {nt lo : Nat} {ops : Array Oper} {O : Objs} {K : Toks} {nx : Nat} {Q : Exit → St → Prop} {e : Env} {rest : List Oper} {ty : TypeId} {pos : String} {after : Array Edge} {v : AV} {d : Nat}
theorem L_load_at (hT : Tab.Ok P T) {α : Type} [Inhabited α] {f : α → List AV} {xs : List α} (q : Nat) {t : Nat} {x : Operand} {id i j : Nat} (hx : strip (ev e x) = .ptr id i j) {oty osz ofz : Nat} (hob : lk O id = some ⟨oty, osz, ofz, xs.map f⟩) (hq : i = q) (hi : q < xs.length)
    (hkn : (T.at t).kind.known = true) (hc : loadc (T.at t) (osz - j) = true) (hs : sgs [ev e x]) (hv : loadv (T.at t) ((f (xs.getD q default)).drop j) = v) (hd : Nat.blt d nt = true) (hn : WL P nt lo ops rest ⟨(d, v) :: e, O, K, nx⟩ Q) : WL P nt lo ops (⟨some d, .load t x, ty, pos, after, none⟩ :: rest) ⟨e, O, K, nx⟩ Q := by
  subst hq; subst hv
  exact L_v hT (ave_load_row hx hob hkn hc hi hs) hd hn
theorem L_store_at (hT : Tab.Ok P T) {α : Type} [Inhabited α] {f : α → List AV} {xs : List α} (q : Nat) (v' : α) {t : Nat} {x y : Operand} {id i j : Nat} (hx : strip (ev e x) = .ptr id i j) {oty osz ofz : Nat} (hob : lk O id = some ⟨oty, osz, ofz, xs.map f⟩) (hq : i = q) (hi : q < xs.length) (hv : strip (ev e y) = v) {cs : List AV} (hcs : v.cells = cs) (hp : v.plain = true) (hone : cs.all AV.one = true)
    (hes : (f (xs.getD q default)).take j ++ cs ++ (f (xs.getD q default)).drop (j + cs.length) = f v') (hk : (Nat.beq (T.at t).size cs.length && !(Nat.beq cs.length 0) && Nat.ble (j + cs.length) osz) = true) (hf : Nat.ble ofz i = true) (hs : sg (ev e x) ∧ sg (ev e y))
    (hn : WL P nt lo ops rest ⟨e, (id, some ⟨oty, osz, ofz, (xs.set q v').map f⟩) :: O, K, nx⟩ Q) : WL P nt lo ops (⟨none, .store t x y, ty, pos, after, none⟩ :: rest) ⟨e, O, K, nx⟩ Q := by
  subst hq
  exact L_store_row hT hx hob hv hcs hp hone hes hk hi hf hs hn
theorem map_dem {α : Type} {f : α → List AV} (hf : ∀ x, (f x).map demC = f x) (xs : List α) : (xs.map f).map (·.map demC) = xs.map f := by
  rw [List.map_map]; exact List.map_congr_left (fun x _ => hf x)
theorem map_gr {α : Type} {f : α → List AV} (hg : ∀ x, (f x).all grC = true) (xs : List α) : (xs.map f).all (fun c => c.all grC) = true := by
  rw [List.all_eq_true]; intro c hc; obtain ⟨x, _, rfl⟩ := List.mem_map.1 hc; exact hg x
theorem L_give {α : Type} {f : α → List AV} {xs : List α} {l0 : List Oper} (t : Nat) {id n oty osz ofz : Nat} (hg : get e t = .row id 0 n) (hob : lk O id = some ⟨oty, osz, ofz, xs.map f⟩) (hn : n = xs.length) (hfz : Nat.ble ofz n = true) (hsz : Nat.blt 0 osz = true) (hf : ∀ x, (f x).map demC = f x) (hgr : ∀ x, (f x).all grC = true)
    (h : WL P nt lo ops l0 ⟨(t, .ro (xs.map f)) :: e, (id, none) :: O, K, nx + 1⟩ Q) : WL P nt lo ops l0 ⟨e, O, K, nx⟩ Q :=
  L_freeze hg hob (by rw [hn]; simp) hfz hsz (map_dem hf xs) (map_gr hgr xs) h
theorem W_give {α : Type} {f : α → List AV} {xs : List α} {c : Code} (t : Nat) {id n oty osz ofz : Nat} (hg : get e t = .row id 0 n) (hob : lk O id = some ⟨oty, osz, ofz, xs.map f⟩) (hn : n = xs.length) (hfz : Nat.ble ofz n = true) (hsz : Nat.blt 0 osz = true) (hf : ∀ x, (f x).map demC = f x) (hgr : ∀ x, (f x).all grC = true)
    (h : W P nt lo c ⟨(t, .ro (xs.map f)) :: e, (id, none) :: O, K, nx + 1⟩ Q) : W P nt lo c ⟨e, O, K, nx⟩ Q :=
  W.of_le (le_freeze hg hob (by rw [hn]; simp) hfz hsz (map_dem hf xs) (map_gr hgr xs)) h
theorem L_slice_map (hT : Tab.Ok P T) {α : Type} {f : α → List AV} {xs : List α} (a c : Nat) {t el sz : Nat} {x y z : Operand} {ky kz : IntKind} {p q : Int} (hx : strip (ev e x) = .ro (xs.map f)) (hy : strip (ev e y) = .int ky p) (hz : strip (ev e z) = .int kz q)
    (hk : (T.at t).kind = .slice el) (hsz : (T.at el).size = sz) (hpos : Nat.blt 0 sz = true) (hl : ∀ x, (f x).length = sz) (ha : p = (a : Int)) (hc : q = (c : Int)) (h1 : a ≤ c) (h2 : c ≤ xs.length) (hs : sg (ev e x) ∧ sg (ev e y) ∧ sg (ev e z)) (hd : Nat.blt d nt = true)
    (hn : WL P nt lo ops rest ⟨(d, .ro (((xs.drop a).take (c - a)).map f)) :: e, O, K, nx⟩ Q) : WL P nt lo ops (⟨some d, .slice t x (some y) (some z) none, ty, pos, after, none⟩ :: rest) ⟨e, O, K, nx⟩ Q := by
  subst ha hc
  refine L_slice hT hx hy hz hk hsz hpos (fun c hc => by obtain ⟨x, _, rfl⟩ := List.mem_map.1 hc; exact hl x) (by omega) (by omega) (by rw [List.length_map]; omega) hs hd ?_
  rw [Int.toNat_natCast, Int.toNat_natCast, ← List.map_drop, ← List.map_take]
  exact hn
theorem L_slice_mapto (hT : Tab.Ok P T) {α : Type} {f : α → List AV} {xs : List α} (c : Nat) {t el sz : Nat} {x z : Operand} {kz : IntKind} {q : Int} (hx : strip (ev e x) = .ro (xs.map f)) (hz : strip (ev e z) = .int kz q)
    (hk : (T.at t).kind = .slice el) (hsz : (T.at el).size = sz) (hpos : Nat.blt 0 sz = true) (hl : ∀ x, (f x).length = sz) (hc : q = (c : Int)) (h2 : c ≤ xs.length) (hs : sg (ev e x) ∧ sg (ev e z)) (hd : Nat.blt d nt = true)
    (hn : WL P nt lo ops rest ⟨(d, .ro ((xs.take c).map f)) :: e, O, K, nx⟩ Q) : WL P nt lo ops (⟨some d, .slice t x none (some z) none, ty, pos, after, none⟩ :: rest) ⟨e, O, K, nx⟩ Q := by
  subst hc
  refine L_slice_to hT hx hz hk hsz hpos (fun c hc => by obtain ⟨x, _, rfl⟩ := List.mem_map.1 hc; exact hl x) (by omega) (by rw [List.length_map]; omega) hs hd ?_
  rw [Int.toNat_natCast, ← List.map_take]
  exact hn
theorem L_slice_mapfrom (hT : Tab.Ok P T) {α : Type} {f : α → List AV} {xs : List α} (a : Nat) {t el sz : Nat} {x y : Operand} {ky : IntKind} {p : Int} (hx : strip (ev e x) = .ro (xs.map f)) (hy : strip (ev e y) = .int ky p)
    (hk : (T.at t).kind = .slice el) (hsz : (T.at el).size = sz) (hpos : Nat.blt 0 sz = true) (hl : ∀ x, (f x).length = sz) (ha : p = (a : Int)) (h2 : a ≤ xs.length) (hs : sg (ev e x) ∧ sg (ev e y)) (hd : Nat.blt d nt = true)
    (hn : WL P nt lo ops rest ⟨(d, .ro ((xs.drop a).map f)) :: e, O, K, nx⟩ Q) : WL P nt lo ops (⟨some d, .slice t x (some y) none none, ty, pos, after, none⟩ :: rest) ⟨e, O, K, nx⟩ Q := by
  subst ha
  refine L_slice_from hT hx hy hk hsz hpos (fun c hc => by obtain ⟨x, _, rfl⟩ := List.mem_map.1 hc; exact hl x) (by omega) (by rw [List.length_map]; omega) hs hd ?_
  rw [Int.toNat_natCast, ← List.map_drop]
  exact hn
end
end Go.AM
end
section
open Go Go.AM Go.Proofs
set_option maxRecDepth 10000
set_option linter.unusedVariables false
set_option linter.unusedSimpArgs false
namespace Go.AM
def upC (up : Bool) (w : Int) : Bool := decide (w > 0) == up
theorem i8w {x : Int} (h : -128 ≤ x ∧ x ≤ 127) : IntKind.i8.wrap x = x := by simp [IntKind.wrap, IntKind.bits, IntKind.signed]; split <;> omega
def elemsW (s : Shape) : Int := s.H * s.W * s.C
theorem elems_inW {s : Shape} (h : shapeB s = true) : w64 (w64 (s.H * s.W) * s.C) = elemsW s ∧ 0 ≤ elemsW s ∧ elemsW s ≤ 16384 := by
  have B := shapeB_iff.1 h
  have c0 : 0 ≤ s.H * s.W := Int.mul_nonneg (by omega) (by omega)
  have c1 : s.H * s.W ≤ 1024 * 1024 := Int.mul_le_mul B.1.2 B.2.1.2 (by omega) (by omega)
  have c2 : 0 ≤ s.H * s.W * s.C := Int.mul_nonneg c0 (by omega)
  unfold elemsW
  rw [show w64 (s.H * s.W) = _ from w64_id (by omega)]
  exact ⟨w64_id (by omega), c2, by omega⟩
theorem witness_numbers (T : List Term) (s : Span) (M : Nat) (up : Bool) (hs : -128 ≤ s.Lo ∧ s.Lo ≤ s.Hi ∧ s.Hi ≤ 127) (hM : M ≤ 16384) (hT : T.length ≤ 512) (hat : ∀ t ∈ T, t.At < (M : Int)) :
    Ok Try.prog 53 [.ro (T.map termC), .agg (spanC s), .int .i64 (M : Int), .bool up] (.ro ((rowT (upC up) s.Lo s.Hi M T).map i8C)) := by
  have mk1 : (0 : Int) ≤ (M : Int) := by omega
  have mk3 : ((Tb.at 60).bytes : Int) * (M : Int) ≤ 281474976710656 := by rw [show (Tb.at 60).bytes = 1 from rfl]; omega
  have wl : IntKind.i8.wrap s.Lo = s.Lo := i8w (by omega)
  have wh : IntKind.i8.wrap s.Hi = s.Hi := i8w (by omega)
  have hR := rowT_len (upC up) s.Lo s.Hi M
  --@@1
  skip
  refine fn_ok Tb_ok (fn := Try.f53) Try.func53 rfl rfl (e := [(0, _), (1, _), (2, _), (3, _)]) rfl (by decide) rfl ?_
  refine zs ?_
  refine zR ?_
  refine zbx [.int _ _, .int _ _] 2 ?_
  refine zLN ?_
  refine zn ?_
  refine zs ?_
  refine zR ?_
  refine zLI ?_
  refine L_make Tb_ok (el := 60) (sz := 1) (z := [.int .i8 0]) rfl rfl rfl rfl rfl rfl rfl rfl ⟨trivial, trivial⟩ (by omega) (by omega) rfl ?_
  refine zLW ?_
  refine zn ?_
  refine zs ?_
  refine zs ?_
  refine zR ?_
  refine zLW ?_
  refine zLI ?_
  refine zLI ?_
  refine zn ?_
  refine W_block ?_
  refine W_forE (M) [(0, .ro _), (3, .bool _), (5, .ptr 0 0 0), (9, .row 1 0 _), (16, .int _ _)] (fun (i : Nat) => [(17, .int .i64 (i : Int))]) [(0, some ⟨_, _, _, _⟩)] (fun (i : Nat) => [(1, some ⟨60, 1, 0, (fillL s.Lo M i).map i8C⟩)]) [] (fun (i : Nat) => []) 2 (le_fit (sub_cat ⟨rfl, trivial⟩ ⟨rfl, rfl, rfl, rfl, rfl, trivial⟩) (subO_cat ⟨.inr (by show some (Ob.mk 60 1 0 (List.replicate (((M : Nat) : Int)).toNat [AV.int .i8 0])) = _; rw [Int.toNat_natCast]; simp [fillL, i8C]), trivial⟩ ⟨.inr rfl, trivial⟩) (subK_cat trivial trivial) rfl rfl rfl (by simp [ltOB, i8C, AV.lt, spanC]) rfl) ?_
  intro i hi
  refine W.of_le (s' := ⟨[(17, .int .i64 (i : Int)), (0, .ro _), (3, .bool _), (5, .ptr 0 0 0), (9, .row 1 0 _), (16, .int _ _)], [(1, some ⟨60, 1, 0, (fillL s.Lo M i).map i8C⟩), (0, some ⟨_, _, _, _⟩)], [], 2⟩) (le_fit ⟨rfl, rfl, rfl, rfl, rfl, rfl, trivial⟩ ⟨.inr rfl, .inr rfl, trivial⟩ trivial rfl rfl rfl (by simp [ltOB, i8C, AV.lt, spanC]) rfl) ?_
  refine zs ?_
  refine zR ?_
  refine zLB ?_
  refine zn ?_
  refine zs ?_
  refine W_cond (b := _) rfl (fun h18 => ?_) (fun h18 => ?_)
  · have hit : i < M := by (have := of_decide_eq_true h18; omega)
    refine zk ?_
    refine zs ?_
    refine W_block ?_
    refine zs ?_
    refine zR ?_
    refine zLI ?_
    refine zLI ?_
    refine zn ?_
    refine zR ?_
    refine zLW ?_
    refine zLI ?_
    refine zLP ?_
    refine zLI ?_
    refine zLI ?_
    (refine L_v Tb_ok (v := _) (ave_index_row rfl rfl rfl rfl rfl rfl (by first | omega | assumption | decide | (simp_all; done) | (simp_all; omega)) (by first | omega | assumption | decide | (simp_all; done) | (simp_all; omega)) trivial) rfl ?_)
    refine L_store_at Tb_ok (f := i8C) (xs := fillL s.Lo M i) (i) (s.Lo) rfl rfl (by simp) (by rw [fillL_len (by omega)]; omega) rfl rfl rfl rfl (by show [AV.int .i8 _] = [AV.int .i8 _]; rw [wl]) rfl rfl ⟨trivial, trivial⟩ ?_
    refine zn ?_
    refine zR ?_
    refine zLI ?_
    refine zLI ?_
    refine zn ?_
    refine for_end hit (le_fit (sub_cat ⟨congrArg _ (w_succ hit (by omega)), trivial⟩ ⟨rfl, rfl, rfl, rfl, rfl, trivial⟩) (subO_cat ⟨.inr (by rw [← fillL_set hit]; rfl), trivial⟩ ⟨.inr rfl, trivial⟩) (subK_cat trivial trivial) rfl rfl rfl (by simp [ltOB, i8C, AV.lt, spanC]) rfl)
  · have hie : i = M := by (have := of_decide_eq_false h18; omega)
    refine W_exit ?_
    repeat (first | refine pass_then ?_ | refine pass_for ?_)
    refine blockQ_hit ?_
    refine zs ?_
    refine zs ?_
    refine zR ?_
    refine zLO ?_
    refine zLI ?_
    refine zLI ?_
    refine zn ?_
    refine W_block ?_
    -- slot 37 changes in the loop: hint wanted
    -- slot 38 changes in the loop: hint wanted
    -- slot 39 changes in the loop: hint wanted
    -- slot 40 changes in the loop: hint wanted
    -- slot 41 changes in the loop: hint wanted
    refine W_forE (T.length) [(3, .bool _), (5, .ptr 0 0 0), (9, .row 1 0 _), (27, .ro _), (28, .int _ _)] (fun (j : Nat) => [(29, .int .i64 (j : Int))]) [(0, some ⟨_, _, _, _⟩)] (fun (j : Nat) => [(1, some ⟨60, 1, 0, (rowT (upC up) s.Lo s.Hi M (T.take j)).map i8C⟩)]) [] (fun (j : Nat) => []) 2 (le_fit (sub_cat ⟨rfl, trivial⟩ ⟨rfl, rfl, rfl, rfl, rfl, trivial⟩) (subO_cat ⟨.inr (by show some (Ob.mk 60 1 0 ((fillL s.Lo M i).map i8C)) = _; rw [hie]; simp [fillL, rowT]), trivial⟩ ⟨.inr rfl, trivial⟩) (subK_cat trivial trivial) rfl rfl rfl (by simp [ltOB, i8C, AV.lt, spanC]) rfl) ?_
    intro j hj
    refine W.of_le (s' := ⟨[(29, .int .i64 (j : Int)), (3, .bool _), (5, .ptr 0 0 0), (9, .row 1 0 _), (27, .ro _), (28, .int _ _)], [(1, some ⟨60, 1, 0, (rowT (upC up) s.Lo s.Hi M (T.take j)).map i8C⟩), (0, some ⟨_, _, _, _⟩)], [], 2⟩) (le_fit ⟨rfl, rfl, rfl, rfl, rfl, rfl, trivial⟩ ⟨.inr rfl, .inr rfl, trivial⟩ trivial rfl rfl rfl (by simp [ltOB, i8C, AV.lt, spanC]) rfl) ?_
    refine zs ?_
    refine zR ?_
    refine zLB ?_
    refine zn ?_
    refine zs ?_
    refine W_cond (b := _) rfl (fun h30 => ?_) (fun h30 => ?_)
    · have hjt : j < T.length := by (have := of_decide_eq_true h30; simp only [List.length_map, List.length_take, List.length_drop] at this; omega)
      have hm := hat (T.getD j default) (by rw [List.getD_eq_getElem?_getD, List.getElem?_eq_getElem hjt]; exact List.getElem_mem hjt)
      have hsu := rowT_succ (upC up) s.Lo s.Hi M hjt
      have hl := hR (T.take j)
      refine zk ?_
      refine zs ?_
      refine W_block ?_
      refine zs ?_
      refine zR ?_
      (refine L_v Tb_ok (v := _) (ave_index_ro rfl rfl rfl (fun _ => rfl) rfl (by first | omega | assumption | decide | (simp_all; done) | (simp_all; omega)) (by first | omega | assumption | decide | (simp_all; done) | (simp_all; omega)) trivial) rfl ?_)
      refine zLG [.int _ _, .int _ _] ?_
      refine zal [.int .i64 0, .int .i64 0] 2 ?_
      refine zst (.agg [.int _ _, .int _ _]) [_, _] [[_, _]] ?_
      refine zn ?_
      refine zs ?_
      refine zR ?_
      refine zLP ?_
      refine zLI ?_
      refine zLB ?_
      refine zLB ?_
      refine zgLP ?_
      refine zgLI ?_
      refine zgLB ?_
      refine zgLB ?_
      refine zgLB ?_
      refine zpLB ?_
      refine zn ?_
      refine W_cond (b := _) rfl (fun h42 => ?_) (fun h42 => ?_)
      · have hp : (0 ≤ (T.getD j default).At ∧ (T.getD j default).At < ((rowT (upC up) s.Lo s.Hi M (T.take j)).length : Int)) ∧ upC up (T.getD j default).W = true := by
          rw [hl]
          have h' : (bif decide ((T.getD j default).At ≥ 0) then decide ((T.getD j default).W > 0) == up else false) = true := h42
          by_cases c : (T.getD j default).At ≥ 0
          · refine ⟨⟨c, hm⟩, ?_⟩
            rw [decide_eq_true c] at h'; exact h'
          · rw [decide_eq_false c] at h'; cases h'
        have hp1 := hp.1.1
        refine zR ?_
        refine zLW ?_
        refine zLP ?_
        refine zLI ?_
        refine zLP ?_
        refine zLI ?_
        refine zLI ?_
        simp only [Int.toNat_natCast]
        (refine L_v Tb_ok (v := _) (ave_index_row rfl rfl rfl rfl rfl rfl (by first | exact hp.1.1 | omega) (by first | exact hp.1.1 | omega) trivial) rfl ?_)
        refine L_store_at Tb_ok (f := i8C) (xs := rowT (upC up) s.Lo s.Hi M (T.take j)) ((T.getD j default).At.toNat) (s.Hi) rfl rfl (by simp) (by rw [hl]; omega) rfl rfl rfl rfl (by show [AV.int .i8 _] = [AV.int .i8 _]; rw [wh]) rfl rfl ⟨trivial, trivial⟩ ?_
        refine zn ?_
        refine zR ?_
        refine zLI ?_
        refine zLI ?_
        refine zn ?_
        refine for_end hjt (le_fit (sub_cat ⟨congrArg _ (w_succ hjt (by omega)), trivial⟩ ⟨rfl, rfl, rfl, rfl, rfl, trivial⟩) (subO_cat ⟨.inr (by rw [hsu]; unfold setT; (rw [if_pos hp]; rfl)), trivial⟩ ⟨.inr rfl, trivial⟩) (subK_cat trivial trivial) rfl rfl rfl (by simp [ltOB, i8C, AV.lt, spanC]) rfl)
      · have hp : ¬ ((0 ≤ (T.getD j default).At ∧ (T.getD j default).At < ((rowT (upC up) s.Lo s.Hi M (T.take j)).length : Int)) ∧ upC up (T.getD j default).W = true) := fun q => by
          have h' : (bif decide ((T.getD j default).At ≥ 0) then decide ((T.getD j default).W > 0) == up else false) = false := h42
          rw [decide_eq_true (show (T.getD j default).At ≥ 0 from q.1.1)] at h'
          have h2 : upC up (T.getD j default).W = false := h'
          rw [q.2] at h2; cases h2
        refine zk ?_
        refine zR ?_
        refine zLI ?_
        refine zLI ?_
        refine zn ?_
        refine for_end hjt (le_fit (sub_cat ⟨congrArg _ (w_succ hjt (by omega)), trivial⟩ ⟨rfl, rfl, rfl, rfl, rfl, trivial⟩) (subO_cat ⟨.inr (by rw [hsu]; unfold setT; (rw [if_neg hp]; rfl)), trivial⟩ ⟨.inr rfl, trivial⟩) (subK_cat trivial trivial) rfl rfl rfl (by simp [ltOB, i8C, AV.lt, spanC]) rfl)
    · have hje : j = T.length := by (have := of_decide_eq_false h30; simp only [List.length_map, List.length_take, List.length_drop] at this; omega)
      refine W_exit ?_
      repeat (first | refine pass_then ?_ | refine pass_for ?_)
      refine blockQ_hit ?_
      refine zs ?_
      refine zR ?_
      refine L_give (f := i8C) (xs := rowT (upC up) s.Lo s.Hi M (T.take j)) 9 rfl rfl (by rw [hR]; exact Int.toNat_natCast M) rfl rfl (fun _ => rfl) (fun _ => rfl) ?_
      refine zLO ?_
      refine zLO ?_
      refine zn ?_
      refine zt ?_
      (refine ends (l := [.ro _]) (q := .ro _) (.inr rfl) rfl ⟨trivial, trivial⟩ rfl rfl ?_)
      rw [hje, List.take_length]
/-- what the terms make of numbers -/
theorem witness_sum (T : List Term) (x : List Int) (pad : Int) (hT : T.length ≤ 512) (hat : ∀ t ∈ T, t.At < (x.length : Int)) :
    Ok Try.prog 54 [.ro (T.map termC), .ro (x.map i8C), .int .i64 pad] (.int .i64 (sumT 0 T x pad)) := by
  --@@2
  skip
  refine fn_ok Tb_ok (fn := Try.f54) Try.func54 rfl rfl (e := [(0, _), (1, _), (2, _)]) rfl (by decide) rfl ?_
  refine zs ?_
  refine zR ?_
  refine zLI ?_
  refine zn ?_
  refine zs ?_
  refine zR ?_
  refine zLI ?_
  refine zn ?_
  refine zs ?_
  refine zs ?_
  refine zR ?_
  refine zLO ?_
  refine zLI ?_
  refine zLI ?_
  refine zn ?_
  refine W_block ?_
  refine W_forE (T.length) [(1, .ro _), (2, .int _ _), (10, .ro _), (11, .int _ _)] (fun (j : Nat) => [(12, .int .i64 (j : Int)), (7, .int .i64 (sumT 0 (T.take j) x pad))]) [] (fun (j : Nat) => []) [] (fun (j : Nat) => []) 0 (le_fit (sub_cat ⟨rfl, rfl, trivial⟩ ⟨rfl, rfl, rfl, rfl, trivial⟩) (subO_cat trivial trivial) (subK_cat trivial trivial) rfl rfl rfl (by rfl) rfl) ?_
  intro j hj
  refine W.of_le (s' := ⟨[(12, .int .i64 (j : Int)), (7, .int .i64 (sumT 0 (T.take j) x pad)), (1, .ro _), (2, .int _ _), (10, .ro _), (11, .int _ _)], [], [], 0⟩) (le_fit ⟨rfl, rfl, rfl, rfl, rfl, rfl, trivial⟩ trivial trivial rfl rfl rfl (by rfl) rfl) ?_
  refine zs ?_
  refine zR ?_
  refine zLB ?_
  refine zn ?_
  refine zs ?_
  refine W_cond (b := _) rfl (fun h13 => ?_) (fun h13 => ?_)
  · have hjt : j < T.length := by (have := of_decide_eq_true h13; simp only [List.length_map, List.length_take, List.length_drop] at this; omega)
    have hm := hat (T.getD j default) (by rw [List.getD_eq_getElem?_getD, List.getElem?_eq_getElem hjt]; exact List.getElem_mem hjt)
    refine zk ?_
    refine zs ?_
    refine W_block ?_
    refine zs ?_
    refine zR ?_
    (refine L_v Tb_ok (v := _) (ave_index_ro rfl rfl rfl (fun _ => rfl) rfl (by first | omega | assumption | decide | (simp_all; done) | (simp_all; omega)) (by first | omega | assumption | decide | (simp_all; done) | (simp_all; omega)) trivial) rfl ?_)
    refine zLG [.int _ _, .int _ _] ?_
    refine zal [.int .i64 0, .int .i64 0] 2 ?_
    refine zst (.agg [.int _ _, .int _ _]) [_, _] [[_, _]] ?_
    refine zn ?_
    refine zs ?_
    refine zR ?_
    refine zLP ?_
    refine zLI ?_
    refine zLB ?_
    refine zn ?_
    refine W_cond (b := _) rfl (fun h18 => ?_) (fun h18 => ?_)
    · have hp : ¬ (T.getD j default).At ≥ 0 := by have : (T.getD j default).At < 0 := of_decide_eq_true h18; omega
      refine zR ?_
      refine zLI ?_
      refine zLP ?_
      refine zLI ?_
      refine zLI ?_
      refine zLI ?_
      refine zLI ?_
      refine zLI ?_
      refine zn ?_
      refine zR ?_
      refine zLI ?_
      refine zLI ?_
      refine zn ?_
      refine for_end hjt (le_fit (sub_cat ⟨congrArg _ (w_succ hjt (by omega)), congrArg (AV.int .i64) (by unfold sumT; rw [foldl_take' _ _ _ _ hjt, vT]; (rw [if_neg hp]; rfl)), trivial⟩ ⟨rfl, rfl, rfl, rfl, trivial⟩) (subO_cat trivial trivial) (subK_cat trivial trivial) rfl rfl rfl (by rfl) rfl)
    · have hp : (T.getD j default).At ≥ 0 := by have : ¬ (T.getD j default).At < 0 := of_decide_eq_false h18; omega
      refine W_draw 12 Tb_mixed rfl (by decide) (by kernel_rfl) (by kernel_rfl) ?_
      refine zEI ?_
      refine zEP ?_
      refine zEI ?_
      refine zEO ?_
      refine zEP ?_
      refine zEI ?_
      (refine E_v Tb_ok (v := _) (ave_index_ro rfl rfl rfl (fun _ => rfl) rfl (by first | exact hp | exact hm | omega) (by first | exact hp | exact hm | omega) trivial) rfl ?_)
      refine zEI ?_
      refine zEI ?_
      refine zEI ?_
      refine zEI ?_
      refine zEI ?_
      refine LexE_nil ?_
      refine zn ?_
      refine zR ?_
      refine zLI ?_
      refine zLI ?_
      refine zn ?_
      refine for_end hjt (le_fit (sub_cat ⟨congrArg _ (w_succ hjt (by omega)), congrArg (AV.int .i64) (by unfold sumT; rw [foldl_take' _ _ _ _ hjt, vT]; (rw [if_pos hp]; rfl)), trivial⟩ ⟨rfl, rfl, rfl, rfl, trivial⟩) (subO_cat trivial trivial) (subK_cat trivial trivial) rfl rfl rfl (by rfl) rfl)
  · have hje : j = T.length := by (have := of_decide_eq_false h13; simp only [List.length_map, List.length_take, List.length_drop] at this; omega)
    refine W_exit ?_
    repeat (first | refine pass_then ?_ | refine pass_for ?_)
    refine blockQ_hit ?_
    refine zs ?_
    refine zR ?_
    refine zLI ?_
    refine zLI ?_
    refine zn ?_
    refine zt ?_
    refine ends (l := [.int _ _]) (q := .int _ _) (.inr rfl) rfl ⟨trivial, trivial⟩ rfl rfl ?_
    rw [hje, List.take_length]
theorem witness_size {m : Model} {op : Int} (h0 : findE m op = 0) {M : Nat} (hM : (M : Int) = elemsW (findS m op).In) : Ok Try.prog 50 [.agg (modelC m), .int .i64 op] (.int .i64 (M : Int)) := by
  obtain ⟨hS, ⟨o1, o2⟩, hop, he, e⟩ := site_ok h0
  have hn := whole_ok he
  have ow : IntKind.i64.wrap (op - 1) = op - 1 := w64_id (by omega)
  have el := (elems_inW hS.inB).1
  have i0 : 0 ≤ IntKind.i64.wrap (op - 1) := by rw [ow]; omega
  have i1 : IntKind.i64.wrap (op - 1) < (m.Ops.length : Int) := by rw [ow]; omega
  have hA := whole_A he (i := (IntKind.i64.wrap (op - 1)).toNat) (by omega)
  have hA2 : (m.Ops.getD (IntKind.i64.wrap (op - 1)).toNat default).A < ((wholeF m).1.length : Int) := by rw [hn.2.2.2.1]; omega
  have hin : (findS m op).In = (wholeF m).1.getD (m.Ops.getD (IntKind.i64.wrap (op - 1)).toNat default).A.toNat default := by
    rw [e, ow]; rfl
  --@@3
  skip
  refine fn_ok Tb_ok (fn := Try.f50) Try.func50 rfl rfl (e := [(0, _), (1, _)]) rfl (by decide) rfl ?_
  refine zs ?_
  refine zR ?_
  refine zbx [.int _ _, .int _ _, .int _ _, .int _ _, .int _ _, _, .int _ _] 7 ?_
  refine zLI ?_
  refine zn ?_
  refine zs ?_
  refine zR ?_
  refine zLG [.int _ _, .int _ _, .int _ _, .int _ _, .int _ _, _, .int _ _] ?_
  refine zLc (model_Shapes m) ?_
  refine zLT [_, _] ?_
  refine zLO ?_
  refine zLG [.int _ _, .int _ _, .int _ _] ?_
  refine zal [.int .i64 0, .int .i64 0, .int .i64 0] 3 ?_
  refine zLO ?_
  refine zst (.agg [.int _ _, .int _ _, .int _ _]) [_, _, _] [[_, _, _]] ?_
  refine zn ?_
  refine zs ?_
  refine zR ?_
  refine zLO ?_
  refine zLP ?_
  refine zLO ?_
  refine zLI ?_
  refine zLI ?_
  (refine L_v Tb_ok (v := _) (ave_index_ro rfl rfl rfl (fun _ => rfl) rfl (by first | exact i0 | exact i1 | (rw [List.length_map]; exact i1)) (by first | exact i0 | exact i1 | (rw [List.length_map]; exact i1)) trivial) rfl ?_)
  refine zLQ ?_
  refine zLI ?_
  (refine L_v Tb_ok (v := _) (ave_index_ro rfl rfl rfl (fun _ => rfl) rfl (by first | exact hA.1 | exact hA2 | (rw [List.length_map]; exact hA2)) (by first | exact hA.1 | exact hA2 | (rw [List.length_map]; exact hA2)) trivial) rfl ?_)
  refine zLG [.int _ _, .int _ _, .int _ _] ?_
  refine zal [.int .i64 0, .int .i64 0, .int .i64 0] 3 ?_
  refine zst (.agg [.int _ _, .int _ _, .int _ _]) [_, _, _] [[_, _, _]] ?_
  refine zn ?_
  refine zs ?_
  refine zR ?_
  refine zLP ?_
  refine zLI ?_
  refine zLP ?_
  refine zLI ?_
  refine zLI ?_
  refine zLP ?_
  refine zLI ?_
  refine zLI ?_
  refine zLI ?_
  refine zn ?_
  refine zt ?_
  refine ends (l := [.int _ _]) (q := .int _ _) (.inr rfl) rfl ⟨trivial, trivial⟩ rfl rfl ?_
  congr 1
  rw [hM, ← el, hin]; rfl
end Go.AM
end
section
open Go Go.AM Go.Proofs
set_option maxRecDepth 10000
set_option linter.unusedVariables false
set_option linter.unusedSimpArgs false
namespace Go.AM
structure Wit where
  (At : Int) (X : List Int)
def witC (w : Wit) : List AV := [.int .i64 w.At, .ro (w.X.map i8C)]
theorem sumT_shift (b : Int) (T : List Term) (a : List Int) (pad : Int) (hb : I64 b) : w64 (b + sumT 0 T a pad) = sumT b T a pad := by
  have k : ∀ (T : List Term) (c : Int), T.foldl (fun s t => w64 (s + w64 (t.W * vT a pad t))) (w64 (b + c)) = w64 (b + T.foldl (fun s t => w64 (s + w64 (t.W * vT a pad t))) c) := by
    intro T
    induction T with
    | nil => intro c; rfl
    | cons t T ih =>
      intro c
      simp only [List.foldl_cons]
      rw [← ih]
      congr 1
      simp only [w64, IntKind.wrap_i64]; omega
  unfold sumT
  rw [← k T 0, show w64 (b + 0) = b by rw [Int.add_zero]; exact w64_id (by have := I64.iff.1 hb; omega)]
theorem exists_first {P : Nat → Prop} : ∀ n, P n → ∃ N, N ≤ n ∧ P N ∧ ∀ k, k < N → ¬ P k := by
  intro n
  induction n using Nat.strongRecOn with
  | _ n ih =>
    intro h
    by_cases c : ∃ k, k < n ∧ P k
    · obtain ⟨k, hk, hp⟩ := c
      obtain ⟨N, h1, h2, h3⟩ := ih k hk hp
      exact ⟨N, by omega, h2, h3⟩
    · exact ⟨n, Nat.le_refl n, h, fun k hk hp => c ⟨k, hk, hp⟩⟩
/-- what is known where the model, the op, the channel and the span are asked of rightly -/
structure AskH (m : Model) (op ch : Int) (s : Span) (M : Nat) : Prop where
  f0 : findE m op = 0
  hs : -128 ≤ s.Lo ∧ s.Lo ≤ s.Hi ∧ s.Hi ≤ 127
  hch : 1 ≤ ch ∧ ch ≤ (findS m op).Out.C
  eM : (M : Int) = elemsW (findS m op).In
  M1 : M ≤ 16384
  Of : ∀ k : Nat, k < posN m op → Ok Try.prog 52 [.agg (modelC m), .int .i64 op, .int .i64 ch, .int .i64 (k : Int)] (.tup [.ro ((termsF m op ch k).map termC), .int .i64 (biasF m op ch 0), .int .i64 0])
  tl : ∀ k : Nat, (termsF m op ch k).length ≤ 512
  tat : ∀ k : Nat, ∀ t ∈ termsF m op ch k, t.At < (M : Int)
  ends : ∀ k : Nat, k < posN m op → sumT (biasF m op ch 0) (termsF m op ch k) (rowT (upC false) s.Lo s.Hi M (termsF m op ch k)) (findS m op).Op.Pad = (sumS (biasF m op ch 0) ((rowsF m op ch s).getD k default)).Lo ∧
    sumT (biasF m op ch 0) (termsF m op ch k) (rowT (upC true) s.Lo s.Hi M (termsF m op ch k)) (findS m op).Op.Pad = (sumS (biasF m op ch 0) ((rowsF m op ch s).getD k default)).Hi
  lo : ∃ k : Nat, k < posN m op ∧ (sumS (biasF m op ch 0) ((rowsF m op ch s).getD k default)).Lo = (totS m op ch s).Lo
  hi : ∃ k : Nat, k < posN m op ∧ (sumS (biasF m op ch 0) ((rowsF m op ch s).getD k default)).Hi = (totS m op ch s).Hi
  pn : posN m op ≤ 1048576
  pos : (posN m op : Int) = (findS m op).Out.H * (findS m op).Out.W
  bias : I64 (biasF m op ch 0)
  biasE : ∀ k : Nat, k < posN m op → biasF m op ch k = biasF m op ch 0
  bad : ∀ k : Nat, k < posN m op → ofBad (findS m op) ch k = false
theorem ask_h {m : Model} (hm : m.Wf) {op ch : Int} {s : Span} (hz : askE m op ch s = 0) : ∃ M, AskH m op ch s M := by
  obtain ⟨z, hs, f0⟩ := askE_zero hz
  obtain ⟨_, fb, _⟩ := ofE_op z
  obtain ⟨hS, ⟨o1, o2⟩, hop, _⟩ := site_ok f0
  obtain ⟨hch, hat0⟩ := (ofBad_iff hS).1 fb
  obtain ⟨p1, p2, p3⟩ := out_pos hS
  have el := (elems_inW hS.inB).2
  obtain ⟨M, hM⟩ : ∃ M : Nat, (M : Int) = elemsW (findS m op).In := ⟨_, Int.toNat_of_nonneg el.1⟩
  have hM' : (M : Int) = (findS m op).In.H * (findS m op).In.W * (findS m op).In.C := hM
  have hk2 : ∀ k : Nat, k < posN m op → 0 ≤ (k : Int) ∧ (k : Int) < (findS m op).Out.H * (findS m op).Out.W := fun k hk => ⟨by omega, by unfold posN at hk; omega⟩
  have hbk : ∀ k : Nat, k < posN m op → ofBad (findS m op) ch k = false := fun k hk => (ofBad_iff hS).2 ⟨hch, hk2 k hk⟩
  have heq : ∀ k : Nat, k < posN m op → biasF m op ch k = biasF m op ch 0 := fun k hk => by
    have h1 := hbk k hk
    have hb0 : ofBad (findS m op) ch 0 = false := fb
    simp [biasF, f0, h1, hb0]
  have hOf : ∀ k : Nat, k < posN m op → Ok Try.prog 52 [.agg (modelC m), .int .i64 op, .int .i64 ch, .int .i64 (k : Int)] (.tup [.ro ((termsF m op ch k).map termC), .int .i64 (biasF m op ch 0), .int .i64 0]) := fun k hk => by
    have h := terms_Of m op ch k
    rw [heq k hk, show ofE m op ch k = 0 by unfold ofE; rw [if_pos f0, if_neg (by rw [hbk k hk]; simp)]] at h
    exact h
  have hve := fun (k : Nat) (hk : k < posN m op) => val_ends hS hch (hk2 k hk) hs hM' (by have h := termsF_W hm op ch k; rw [termsF_eq f0 (hbk k hk)] at h; exact h)
  have hrow : ∀ k : Nat, k < posN m op → (rowsF m op ch s).getD k default = (termsF m op ch k).map (endF (findS m op).Op.Pad s) := fun k hk => by simp [rowsF, rowF, List.getD_eq_getElem?_getD, hk]
  have hrl : (rowsF m op ch s).length = posN m op := by simp [rowsF]
  have hp1 := posN_pos f0
  have hnb := rowsF_len hz
  rw [hrl] at hnb
  obtain ⟨⟨k1, hk1, e1⟩, k2, hk2', e2⟩ := tot_ends (biasF m op ch 0) (l := rowsF m op ch s) (fun h => by rw [h] at hrl; simp at hrl; omega)
  rw [hrl] at hk1 hk2'
  have hts : totS m op ch s = hullS (totH (biasF m op ch 0) (rowsF m op ch s)) := by rw [totS, if_pos hz]
  have u0 : upC false = fun w => !decide (w > 0) := by funext w; unfold upC; cases decide (w > 0) <;> rfl
  have u1 : upC true = fun w => decide (w > 0) := by funext w; unfold upC; cases decide (w > 0) <;> rfl
  refine ⟨M, f0, hs, hch, hM, by omega, hOf, fun k => termsF_len _ _ _ _, fun k t ht => ?_, fun k hk => ⟨?_, ?_⟩, ⟨k1, hk1, by rw [hts]; simp [hullS, e1]⟩, ⟨k2, hk2', by rw [hts]; simp [hullS, e2]⟩, hnb, by unfold posN; omega, ?_, heq, hbk⟩
  · rcases terms_in f0 ch k t ht with h | h
    · omega
    · rw [hM']; exact h
  · rw [u0, hrow k hk]
    refine sumT_lo _ _ _ ?_
    rw [termsF_eq f0 (hbk k hk)]; exact (hve k hk).1
  · rw [u1, hrow k hk]
    refine sumT_hi _ _ _ ?_
    rw [termsF_eq f0 (hbk k hk)]; exact (hve k hk).2
  · have hB := bb hm op ch; unfold bS at hB; dsimp only at hB
    exact I64.iff.2 (by omega)
end Go.AM
end
section
open Go Go.AM Go.Proofs
set_option maxRecDepth 10000
set_option linter.unusedVariables false
set_option linter.unusedSimpArgs false
namespace Go.AM
def endQ (m : Model) (op ch : Int) (s : Span) (up : Bool) : Int := bif up then (totS m op ch s).Hi else (totS m op ch s).Lo
/-- a witness of an end -/
def WitOk (m : Model) (op ch : Int) (s : Span) (up : Bool) (w : Wit) : Prop :=
  (askE m op ch s ≠ 0 → w = ⟨0, []⟩) ∧ (askE m op ch s = 0 → ∃ M k : Nat, AskH m op ch s M ∧ k < posN m op ∧ w = ⟨(k : Int), rowT (upC up) s.Lo s.Hi M (termsF m op ch k)⟩ ∧ sumT (biasF m op ch 0) (termsF m op ch k) w.X (findS m op).Op.Pad = endQ m op ch s up)
theorem witness_end (m : Model) (hm : m.Wf) (op ch : Int) (s : Span) (up : Bool) : ∃ w, WitOk m op ch s up w ∧ Ok Try.prog 39 [.agg (modelC m), .int .i64 op, .int .i64 ch, .agg (spanC s), .bool up] (.tup [.agg (witC w), .int .i64 (askE m op ch s)]) := by
  have hTo := bound_Total m hm op ch s
  by_cases hz : askE m op ch s = 0
  · obtain ⟨M, H⟩ := ask_h hm hz
    have hM1 := H.M1
    have hpn := H.pn
    obtain ⟨hS, ⟨o1, o2⟩, hop, he, _⟩ := site_ok H.f0
    have hn := (whole_ok he).1
    have ow : IntKind.i64.wrap (op - 1) = op - 1 := w64_id (by omega)
    have i0 : 0 ≤ IntKind.i64.wrap (op - 1) := by rw [ow]; omega
    have i1 : IntKind.i64.wrap (op - 1) < (m.Ops.length : Int) := by rw [ow]; omega
    have hpad : (m.Ops.getD (IntKind.i64.wrap (op - 1)).toNat default).Pad = (findS m op).Op.Pad := by rw [ow, hop]
    obtain ⟨X, hX⟩ : ∃ X : Nat → List Int, X = fun k : Nat => rowT (upC up) s.Lo s.Hi M (termsF m op ch k) := ⟨_, rfl⟩
    have hXl : ∀ k : Nat, (X k).length = M := fun k => by rw [hX]; exact rowT_len _ _ _ _ _
    have hex : ∃ n, n < posN m op ∧ sumT (biasF m op ch 0) (termsF m op ch n) (X n) (findS m op).Op.Pad = endQ m op ch s up := by
      cases up with
      | false => obtain ⟨k, h1, h2⟩ := H.lo; exact ⟨k, h1, by rw [hX]; exact (H.ends k h1).1.trans h2⟩
      | true => obtain ⟨k, h1, h2⟩ := H.hi; exact ⟨k, h1, by rw [hX]; exact (H.ends k h1).2.trans h2⟩
    obtain ⟨n, hn1, hn2⟩ := hex
    obtain ⟨N, hN1, hN2, hN3⟩ := exists_first (P := fun k => sumT (biasF m op ch 0) (termsF m op ch k) (X k) (findS m op).Op.Pad = endQ m op ch s up) n hn2
    refine ⟨⟨(N : Int), X N⟩, ⟨fun h => absurd hz h, fun _ => ⟨M, N, H, by omega, by rw [hX], hN2⟩⟩, ?_⟩
    have hsz := witness_size H.f0 H.eM
    have hnum : ∀ k : Nat, Ok Try.prog 53 [.ro ((termsF m op ch k).map termC), .agg (spanC s), .int .i64 (M : Int), .bool up] (.ro ((X k).map i8C)) := fun k => by
      rw [hX]; exact witness_numbers _ s M up H.hs H.M1 (H.tl k) (H.tat k)
    have hsum : ∀ k : Nat, Ok Try.prog 54 [.ro ((termsF m op ch k).map termC), .ro ((X k).map i8C), .int .i64 (findS m op).Op.Pad] (.int .i64 (sumT 0 (termsF m op ch k) (X k) (findS m op).Op.Pad)) := fun k =>
      witness_sum _ _ _ (H.tl k) (by rw [hXl]; exact H.tat k)
    have hsh := fun k : Nat => sumT_shift (biasF m op ch 0) (termsF m op ch k) (X k) (findS m op).Op.Pad H.bias
    rw [hz] at hTo
    --@@1
    skip
    refine fn_ok Tb_ok (fn := Try.f39) Try.func39 rfl rfl (e := [(0, _), (1, _), (2, _), (3, _), (4, _)]) rfl (by decide) rfl ?_
    refine zs ?_
    refine zR ?_
    refine zbx [.int _ _, .int _ _, .int _ _, .int _ _, .int _ _, _, .int _ _] 7 ?_
    refine zbx [.int _ _, .int _ _] 2 ?_
    refine zal [.int .i64 0, .nils] 2 ?_
    refine zLI ?_
    refine zn ?_
    refine zs ?_
    refine zR ?_
    refine zLG [.int _ _, .int _ _, .int _ _, .int _ _, .int _ _, _, .int _ _] ?_
    refine zLI ?_
    refine zLI ?_
    refine zLG [.int _ _, .int _ _] ?_
    refine zLc (hTo) ?_
    refine zLT [_, _] ?_
    refine zLG [.int _ _, .int _ _] ?_
    refine zLI ?_
    refine zal [.int .i64 0, .int .i64 0] 2 ?_
    refine zst (.agg [.int _ _, .int _ _]) [_, _] [[_, _]] ?_
    refine zLI ?_
    refine zn ?_
    refine zs ?_
    refine zs ?_
    refine zR ?_
    refine zLI ?_
    refine zLB ?_
    refine zn ?_
    refine W_cond_f (b := _) rfl (by rfl) ?_
    refine zk ?_
    refine zs ?_
    refine zR ?_
    refine zLP ?_
    refine zLI ?_
    refine zLI ?_
    refine zn ?_
    refine zs ?_
    refine zs ?_
    refine zR ?_
    refine zLB ?_
    refine zn ?_
    refine W_iftB (b := _) rfl [(1, .int _ _), (2, .int _ _), (4, .bool _), (5, .ptr 0 0 0), (8, .ptr 1 0 0), (10, .ptr 2 0 0)] (fun (z : Bool) => [(14, .int .i64 (bif z then (totS m op ch s).Hi else (totS m op ch s).Lo))]) [(0, some ⟨_, _, _, _⟩), (1, some ⟨_, _, _, _⟩), (2, some ⟨_, _, _, _⟩)] (fun (z : Bool) => []) [] (fun (z : Bool) => []) 3 ⟨rfl, rfl, rfl, rfl, rfl, rfl, trivial⟩ ⟨.inr rfl, .inr rfl, .inr rfl, trivial⟩ trivial (fun h36 => ?_) (fun h36 => ?_) ?_
    · refine zR ?_
      refine zLP ?_
      refine zLI ?_
      refine zLI ?_
      refine zn ?_
      exact ⟨trivial, (le_fit (sub_cat ⟨rfl, trivial⟩ ⟨rfl, rfl, rfl, rfl, rfl, rfl, trivial⟩) (subO_cat trivial ⟨.inr rfl, .inr rfl, .inr rfl, trivial⟩) (subK_cat trivial trivial) rfl rfl rfl (by rfl) rfl)⟩
    · refine zk ?_
      exact ⟨trivial, (le_fit (sub_cat ⟨rfl, trivial⟩ ⟨rfl, rfl, rfl, rfl, rfl, rfl, trivial⟩) (subO_cat trivial ⟨.inr rfl, .inr rfl, .inr rfl, trivial⟩) (subK_cat trivial trivial) rfl rfl rfl (by rfl) rfl)⟩
    refine W.of_le (s' := ⟨[(14, .int .i64 (bif _ then (totS m op ch s).Hi else (totS m op ch s).Lo)), (1, .int _ _), (2, .int _ _), (4, .bool _), (5, .ptr 0 0 0), (8, .ptr 1 0 0), (10, .ptr 2 0 0)], [(0, some ⟨_, _, _, _⟩), (1, some ⟨_, _, _, _⟩), (2, some ⟨_, _, _, _⟩)], [], 3⟩) (le_fit ⟨rfl, rfl, rfl, rfl, rfl, rfl, rfl, trivial⟩ ⟨.inr rfl, .inr rfl, .inr rfl, trivial⟩ trivial rfl rfl rfl (by rfl) rfl) ?_
    refine zs ?_
    refine W_draw 12 Tb_mixed rfl (by decide) (by kernel_rfl) (by kernel_rfl) ?_
    refine zEG [.int _ _, .int _ _, .int _ _, .int _ _, .int _ _, _, .int _ _] ?_
    refine zEI ?_
    refine zEc (hsz) ?_
    refine zEP ?_
    refine zEO ?_
    refine zEI ?_
    refine zEI ?_
    (refine E_v Tb_ok (v := _) (ave_index_ro rfl rfl rfl (fun _ => rfl) rfl (by first | exact i0 | exact i1 | (rw [List.length_map]; exact i1)) (by first | exact i0 | exact i1 | (rw [List.length_map]; exact i1)) trivial) rfl ?_)
    refine zEQ ?_
    refine zEI ?_
    refine zEI ?_
    simp only [hpad]
    refine zEI ?_
    refine LexE_nil ?_
    refine zn ?_
    refine zs ?_
    refine zR ?_
    refine zLI ?_
    refine zn ?_
    refine W_block ?_
    refine W_inv (ι := {k : Nat // k ≤ N}) (fun k => ⟨[(1, .int .i64 op), (2, .int .i64 ch), (4, .bool up), (5, .ptr 0 0 0), (8, .ptr 1 0 0), (10, .ptr 2 0 0), (14, .int .i64 (endQ m op ch s up)), (15, .int .i64 (M : Int)), (16, .int .i64 (findS m op).Op.Pad), (17, .int .i64 (k.1 : Int))], [(0, some ⟨26, 7, 0, [modelC m]⟩), (1, some ⟨28, 2, 0, [spanC s]⟩), (2, some ⟨33, 2, 0, [[.int .i64 0, .nils]]⟩)], [], 3⟩) (fun k => N - k.1) ⟨0, Nat.zero_le _⟩ (le_fit ⟨rfl, rfl, rfl, rfl, rfl, rfl, rfl, rfl, rfl, rfl, trivial⟩ ⟨.inr rfl, .inr rfl, .inr rfl, trivial⟩ trivial rfl rfl rfl rfl rfl) ?_
    rintro ⟨k, hk⟩
    dsimp only
    refine zs ?_
    refine W_block ?_
    refine zs ?_
    refine zR ?_
    refine zLG [.int _ _, .int _ _, .int _ _, .int _ _, .int _ _, _, .int _ _] ?_
    refine zLI ?_
    refine zLI ?_
    refine zLI ?_
    refine zLc (H.Of k (by omega)) ?_
    refine zLT [_, _, _] ?_
    refine zLO ?_
    refine zLI ?_
    refine zLI ?_
    refine zLO ?_
    refine zLI ?_
    refine zLI ?_
    refine zn ?_
    refine zs ?_
    refine zs ?_
    refine zR ?_
    refine zLI ?_
    refine zLB ?_
    refine zn ?_
    refine W_cond_f (b := _) rfl (by rfl) ?_
    refine zk ?_
    refine zs ?_
    refine zR ?_
    refine zLO ?_
    refine zLG [.int _ _, .int _ _] ?_
    refine zLI ?_
    refine zLB ?_
    refine zLc (hnum k) ?_
    refine zLO ?_
    refine zn ?_
    refine zs ?_
    refine zR ?_
    refine zLI ?_
    refine zLO ?_
    refine zLO ?_
    refine zLI ?_
    refine zLc (hsum k) ?_
    refine zLI ?_
    refine zLI ?_
    refine zLB ?_
    refine zn ?_
    refine W_cond (b := _) rfl (fun h76 => ?_) (fun h76 => ?_)
    · have hkN : k = N := by
        have h' : (IntKind.i64.wrap (biasF m op ch 0 + sumT 0 (termsF m op ch k) (X k) (findS m op).Op.Pad) == endQ m op ch s up) = true := h76
        by_cases c : k < N
        · exact absurd ((hsh k).symm.trans (eq_of_beq h')) (hN3 k c)
        · omega
      refine zs ?_
      refine zR ?_
      refine zLI ?_
      refine zLO ?_
      refine zLG [.int _ _, _] ?_
      refine zst (.agg [.int _ _, _]) [_, _] [[_, _]] ?_
      refine zLI ?_
      refine zn ?_
      refine zt ?_
      refine ends (l := [.agg [.int _ _, _], .int _ _]) (q := .tup [.agg [.int _ _, _], .int _ _]) (.inr rfl) rfl ⟨rfl, trivial, trivial⟩ rfl rfl ?_
      rw [hkN, hz]; rfl
    · have hkt : k < N := by
        have h' : (IntKind.i64.wrap (biasF m op ch 0 + sumT 0 (termsF m op ch k) (X k) (findS m op).Op.Pad) == endQ m op ch s up) = false := h76
        by_cases c : k < N
        · exact c
        · have e : k = N := by omega
          rw [show IntKind.i64.wrap (biasF m op ch 0 + sumT 0 (termsF m op ch k) (X k) (findS m op).Op.Pad) = endQ m op ch s up by rw [e]; exact (hsh N).trans hN2] at h'
          simp at h'
      refine zk ?_
      refine zR ?_
      refine zLI ?_
      refine zLI ?_
      refine zLI ?_
      refine zn ?_
      refine round_end (Q := fun _ _ => True) ⟨k + 1, hkt⟩ (by dsimp only; omega) (le_fit ⟨rfl, rfl, rfl, rfl, rfl, rfl, rfl, rfl, rfl, congrArg _ (w_succ hkt (by omega)), trivial⟩ ⟨.inr rfl, .inr rfl, .inr rfl, trivial⟩ trivial rfl rfl rfl rfl rfl)
  · refine ⟨⟨0, []⟩, ⟨fun _ => rfl, fun h => absurd h hz⟩, ?_⟩
    have hc31 : (askE m op ch s != 0) = true := by simp [hz]
    --@@2
    skip
    refine fn_ok Tb_ok (fn := Try.f39) Try.func39 rfl rfl (e := [(0, _), (1, _), (2, _), (3, _), (4, _)]) rfl (by decide) rfl ?_
    refine zs ?_
    refine zR ?_
    refine zbx [.int _ _, .int _ _, .int _ _, .int _ _, .int _ _, _, .int _ _] 7 ?_
    refine zbx [.int _ _, .int _ _] 2 ?_
    refine zal [.int .i64 0, .nils] 2 ?_
    refine zLI ?_
    refine zn ?_
    refine zs ?_
    refine zR ?_
    refine zLG [.int _ _, .int _ _, .int _ _, .int _ _, .int _ _, _, .int _ _] ?_
    refine zLI ?_
    refine zLI ?_
    refine zLG [.int _ _, .int _ _] ?_
    refine zLc (hTo) ?_
    refine zLT [_, _] ?_
    refine zLG [.int _ _, .int _ _] ?_
    refine zLI ?_
    refine zal [.int .i64 0, .int .i64 0] 2 ?_
    refine zst (.agg [.int _ _, .int _ _]) [_, _] [[_, _]] ?_
    refine zLI ?_
    refine zn ?_
    refine zs ?_
    refine zs ?_
    refine zR ?_
    refine zLI ?_
    refine zLB ?_
    refine zn ?_
    refine W_cond_t (b := _) rfl (by exact hc31) ?_
    refine zs ?_
    refine zR ?_
    refine zLG [.int _ _, _] ?_
    refine zLI ?_
    refine zst (.agg [.int _ _, _]) [_, _] [[_, _]] ?_
    refine zLI ?_
    refine zn ?_
    refine zt ?_
    refine ends (l := [.agg [.int _ _, _], .int _ _]) (q := .tup [.agg [.int _ _, _], .int _ _]) (.inr rfl) rfl ⟨rfl, trivial, trivial⟩ rfl rfl ?_
    rfl
theorem witness_Low (m : Model) (hm : m.Wf) (op ch : Int) (s : Span) : ∃ w, WitOk m op ch s false w ∧ Ok Try.prog 14 [.agg (modelC m), .int .i64 op, .int .i64 ch, .agg (spanC s)] (.tup [.agg (witC w), .int .i64 (askE m op ch s)]) := by
  obtain ⟨w, hw, hE⟩ := witness_end m hm op ch s false
  refine ⟨w, hw, ?_⟩
  --@@3
  skip
  refine fn_ok Tb_ok (fn := Try.f14) Try.func14 rfl rfl (e := [(0, _), (1, _), (2, _), (3, _)]) rfl (by decide) rfl ?_
  refine zs ?_
  refine zR ?_
  refine zbx [.int _ _, .int _ _, .int _ _, .int _ _, .int _ _, _, .int _ _] 7 ?_
  refine zbx [.int _ _, .int _ _] 2 ?_
  refine zal [.int .i64 0, .nils] 2 ?_
  refine zLI ?_
  refine zn ?_
  refine zs ?_
  refine zR ?_
  refine zLG [.int _ _, .int _ _, .int _ _, .int _ _, .int _ _, _, .int _ _] ?_
  refine zLI ?_
  refine zLI ?_
  refine zLG [.int _ _, .int _ _] ?_
  refine zLc (hE) ?_
  refine zLG [.int _ _, _] ?_
  refine zLI ?_
  refine zst (.agg [.int _ _, _]) [_, _] [[_, _]] ?_
  refine zLI ?_
  refine zn ?_
  refine zt ?_
  refine ends (l := [.agg [.int _ _, _], .int _ _]) (q := .tup [.agg [.int _ _, _], .int _ _]) (.inr rfl) rfl ⟨rfl, trivial, trivial⟩ rfl rfl ?_
  rfl
theorem witness_High (m : Model) (hm : m.Wf) (op ch : Int) (s : Span) : ∃ w, WitOk m op ch s true w ∧ Ok Try.prog 15 [.agg (modelC m), .int .i64 op, .int .i64 ch, .agg (spanC s)] (.tup [.agg (witC w), .int .i64 (askE m op ch s)]) := by
  obtain ⟨w, hw, hE⟩ := witness_end m hm op ch s true
  refine ⟨w, hw, ?_⟩
  --@@4
  skip
  refine fn_ok Tb_ok (fn := Try.f15) Try.func15 rfl rfl (e := [(0, _), (1, _), (2, _), (3, _)]) rfl (by decide) rfl ?_
  refine zs ?_
  refine zR ?_
  refine zbx [.int _ _, .int _ _, .int _ _, .int _ _, .int _ _, _, .int _ _] 7 ?_
  refine zbx [.int _ _, .int _ _] 2 ?_
  refine zal [.int .i64 0, .nils] 2 ?_
  refine zLI ?_
  refine zn ?_
  refine zs ?_
  refine zR ?_
  refine zLG [.int _ _, .int _ _, .int _ _, .int _ _, .int _ _, _, .int _ _] ?_
  refine zLI ?_
  refine zLI ?_
  refine zLG [.int _ _, .int _ _] ?_
  refine zLc (hE) ?_
  refine zLG [.int _ _, _] ?_
  refine zLI ?_
  refine zst (.agg [.int _ _, _]) [_, _] [[_, _]] ?_
  refine zLI ?_
  refine zn ?_
  refine zt ?_
  refine ends (l := [.agg [.int _ _, _], .int _ _]) (q := .tup [.agg [.int _ _, _], .int _ _]) (.inr rfl) rfl ⟨rfl, trivial, trivial⟩ rfl rfl ?_
  rfl
end Go.AM
end
section
open Go Go.AM Go.Proofs
set_option maxRecDepth 10000
set_option linter.unusedVariables false
set_option linter.unusedSimpArgs false
namespace Go.AM
theorem all_snocP {p : Nat → Prop} {k : Nat} (h : ∀ i, i < k → p i) (hk : p k) : ∀ i, i < k + 1 → p i := fun i hi => by
  by_cases e : i = k
  · rw [e]; exact hk
  · exact h i (by omega)
theorem ext_getD {α : Type} [Inhabited α] {a b : List α} (hl : a.length = b.length) (h : ∀ j, j < a.length → a.getD j default = b.getD j default) : a = b := by
  apply List.ext_getElem hl
  intro j h1 h2
  have := h j h1
  simpa [List.getD_eq_getElem?_getD, h1, h2] using this
theorem ref11_Same (a b : List Int) (ha : a.length ≤ 1048576) : Ok Try.prog 24 [.ro (a.map i8C), .ro (b.map i8C)] (.bool (decide (a = b))) := by
  --@@2
  skip
  refine fn_ok Tb_ok (fn := Try.f24) Try.func24 rfl rfl (e := [(0, _), (1, _)]) rfl (by decide) rfl ?_
  refine zs ?_
  refine zR ?_
  refine zLB ?_
  refine zn ?_
  refine zs ?_
  refine zs ?_
  refine zR ?_
  refine zLO ?_
  refine zLI ?_
  refine zLO ?_
  refine zLI ?_
  refine zLB ?_
  refine zn ?_
  refine W_cond (b := _) rfl (fun h10 => ?_) (fun h10 => ?_)
  · have hl : a.length ≠ b.length := fun e => by simp [e] at h10
    refine zs ?_
    refine zR ?_
    refine zLB ?_
    refine zn ?_
    refine zt ?_
    refine ends (l := [.bool _]) (q := .bool _) (.inr rfl) rfl ⟨trivial, trivial⟩ rfl rfl ?_
    rw [decide_eq_false (fun e => hl (by rw [e]))]
  · have hl : a.length = b.length := by simp at h10; omega
    refine zk ?_
    refine zs ?_
    refine zs ?_
    refine zR ?_
    refine zLO ?_
    refine zLI ?_
    refine zLI ?_
    refine zn ?_
    refine W_block ?_
    refine W_forEF (a.length) (fun (i : Nat) => ∀ j, j < i → a.getD j default = b.getD j default) (fun j hj => absurd hj (by omega)) [(0, .ro _), (1, .ro _), (12, .int _ _)] (fun (i : Nat) => [(13, .int .i64 (i : Int))]) [] (fun (i : Nat) => []) [] (fun (i : Nat) => []) 0 (le_fit (sub_cat ⟨rfl, trivial⟩ ⟨rfl, rfl, rfl, trivial⟩) (subO_cat trivial trivial) (subK_cat trivial trivial) rfl rfl rfl (by rfl) rfl) ?_
    intro i hi hfi
    refine W.of_le (s' := ⟨[(13, .int .i64 (i : Int)), (0, .ro _), (1, .ro _), (12, .int _ _)], [], [], 0⟩) (le_fit ⟨rfl, rfl, rfl, rfl, trivial⟩ trivial trivial rfl rfl rfl (by rfl) rfl) ?_
    refine zs ?_
    refine zR ?_
    refine zLB ?_
    refine zn ?_
    refine zs ?_
    refine W_cond (b := _) rfl (fun h14 => ?_) (fun h14 => ?_)
    · have hit : i < a.length := by (have := of_decide_eq_true h14; simp only [List.length_map, List.length_take, List.length_drop] at this; omega)
      refine zk ?_
      refine zs ?_
      refine W_block ?_
      refine zs ?_
      refine zR ?_
      refine zLI ?_
      refine zLI ?_
      refine zn ?_
      refine zs ?_
      refine W_draw 9 Tb_mixed rfl (by decide) (by kernel_rfl) (by kernel_rfl) ?_
      refine zEO ?_
      refine zEI ?_
      (refine E_v Tb_ok (v := _) (ave_index_ro rfl rfl rfl (fun _ => rfl) rfl (by first | omega | assumption | decide | (simp_all; done) | (simp_all; omega)) (by first | omega | assumption | decide | (simp_all; done) | (simp_all; omega)) trivial) rfl ?_)
      refine zEI ?_
      refine zEO ?_
      refine zEI ?_
      (refine E_v Tb_ok (v := _) (ave_index_ro rfl rfl rfl (fun _ => rfl) rfl (by first | omega | assumption | decide | (simp_all; done) | (simp_all; omega)) (by first | omega | assumption | decide | (simp_all; done) | (simp_all; omega)) trivial) rfl ?_)
      refine zEI ?_
      refine zEB ?_
      refine LexE_nil ?_
      refine zn ?_
      refine W_cond (b := _) rfl (fun h24 => ?_) (fun h24 => ?_)
      · have hn : a.getD i default ≠ b.getD i default := by simpa [i8C] using h24
        refine zs ?_
        refine zR ?_
        refine zLB ?_
        refine zn ?_
        refine zt ?_
        refine ends (l := [.bool _]) (q := .bool _) (.inr rfl) rfl ⟨trivial, trivial⟩ rfl rfl ?_
        rw [decide_eq_false (fun e => hn (by rw [e]))]
      · have hn : a.getD i default = b.getD i default := by simpa [i8C] using h24
        refine zk ?_
        refine zR ?_
        refine zLI ?_
        refine zLI ?_
        refine zn ?_
        refine forF_end hit (all_snocP (p := fun j => a.getD j default = b.getD j default) hfi hn) (le_fit (sub_cat ⟨congrArg _ (w_succ hit (by omega)), trivial⟩ ⟨rfl, rfl, rfl, trivial⟩) (subO_cat trivial trivial) (subK_cat trivial trivial) rfl rfl rfl (by rfl) rfl)
    · have hie : i = a.length := by (have := of_decide_eq_false h14; simp only [List.length_map, List.length_take, List.length_drop] at this; omega)
      refine W_exit ?_
      repeat (first | refine pass_then ?_ | refine pass_forF ?_)
      refine blockQ_hit ?_
      refine zs ?_
      refine zR ?_
      refine zLB ?_
      refine zn ?_
      refine zt ?_
      refine ends (l := [.bool _]) (q := .bool _) (.inr rfl) rfl ⟨trivial, trivial⟩ rfl rfl ?_
      rw [decide_eq_true (ext_getD hl (hie ▸ hfi))]
theorem ref10_Value (s : Site) (t : Term) (a : List Int) (h : t.At < a.length) : Ok Try.prog 58 [.agg (rsiteC s), .agg (termC t), .ro (a.map i8C)] (.int .i64 (w64 (t.W * vT a s.Op.Pad t))) := by
  --@@3
  skip
  refine fn_ok Tb_ok (fn := Try.f58) Try.func58 rfl rfl (e := [(0, _), (1, _), (2, _)]) rfl (by decide) rfl ?_
  refine zs ?_
  refine zR ?_
  refine zbx [.int _ _, .int _ _, .int _ _, .int _ _, .int _ _, .int _ _, .int _ _, .int _ _, .int _ _, .int _ _, .int _ _, .int _ _, _, _, .int _ _, .int _ _, .int _ _, .int _ _, .int _ _, .int _ _, .int _ _, .int _ _, .int _ _, .int _ _, .int _ _, .int _ _, .int _ _, .int _ _] 28 ?_
  refine zbx [.int _ _, .int _ _] 2 ?_
  refine zLI ?_
  refine zn ?_
  refine zs ?_
  refine zs ?_
  refine zR ?_
  refine zLP ?_
  refine zLI ?_
  refine zLB ?_
  refine zn ?_
  refine W_cond (b := _) rfl (fun h9 => ?_) (fun h9 => ?_)
  · have hn : ¬ t.At ≥ 0 := by simp at h9; omega
    refine zs ?_
    refine zR ?_
    refine zLP ?_
    refine zLI ?_
    refine zLP ?_
    refine zLP ?_
    refine zLI ?_
    refine zLI ?_
    refine zLI ?_
    refine zn ?_
    refine zt ?_
    refine ends (l := [.int _ _]) (q := .int _ _) (.inr rfl) rfl ⟨trivial, trivial⟩ rfl rfl ?_
    rw [vT, if_neg hn]; rfl
  · have hn : t.At ≥ 0 := by simp at h9; omega
    have hb : t.At < ((a.map i8C).length : Int) := by rw [List.length_map]; exact h
    refine zk ?_
    refine zs ?_
    refine W_draw 10 Tb_mixed rfl (by decide) (by kernel_rfl) (by kernel_rfl) ?_
    refine zEP ?_
    refine zEI ?_
    refine zEO ?_
    refine zEP ?_
    refine zEI ?_
    (refine E_v Tb_ok (v := _) (ave_index_ro rfl rfl rfl (fun _ => rfl) rfl (by first | exact hn | exact hb | exact h) (by first | exact hn | exact hb | exact h) trivial) rfl ?_)
    refine zEI ?_
    refine zEI ?_
    refine zEI ?_
    refine zEI ?_
    refine LexE_nil ?_
    refine zn ?_
    refine zt ?_
    refine ends (l := [.int _ _]) (q := .int _ _) (.inr rfl) rfl ⟨trivial, trivial⟩ rfl rfl ?_
    rw [vT, if_pos hn]; rfl
theorem ref11_Sum {S : Site} (hS : SiteOk S) (hln : lenF S.Op S.In = S.Len) {ch at_ : Int} (hch : 1 ≤ ch ∧ ch ≤ S.Out.C) (hat : 0 ≤ at_ ∧ at_ < S.Out.H * S.Out.W) (a : List Int) (ha : (a.length : Int) = S.In.H * S.In.W * S.In.C) (hl : (tlF S ch at_).length ≤ 512) : Ok Try.prog 49 [.agg (rsiteC S), .int .i64 ch, .int .i64 at_, .ro (a.map i8C)] (.int .i64 (sumT (if S.Op.Kind = 4 then 0 else w64 (S.Op.Bias.getD (w64 (ch - 1)).toNat default)) (tlF S ch at_) a S.Op.Pad)) := by
  have hlt : ∀ t ∈ tlF S ch at_, t.At < (a.length : Int) := fun t ht => by
    have e0 : 0 ≤ (a.length : Int) := by omega
    rcases tlF_at hS hch at_ t ht with h | h <;> omega
  obtain ⟨b, hb⟩ : ∃ b, b = (if S.Op.Kind = 4 then 0 else w64 (S.Op.Bias.getD (w64 (ch - 1)).toNat default)) := ⟨_, rfl⟩
  have hB := ref10_Bias S ch (bias_ix hS hch)
  rw [← hb] at hB ⊢
  have hT := ref10_Terms hS hln hch hat
  generalize tlF S ch at_ = l at *
  --@@4
  skip
  refine fn_ok Tb_ok (fn := Try.f49) Try.func49 rfl rfl (e := [(0, _), (1, _), (2, _), (3, _)]) rfl (by decide) rfl ?_
  refine zs ?_
  refine zR ?_
  refine zbx [.int _ _, .int _ _, .int _ _, .int _ _, .int _ _, .int _ _, .int _ _, .int _ _, .int _ _, .int _ _, .int _ _, .int _ _, _, _, .int _ _, .int _ _, .int _ _, .int _ _, .int _ _, .int _ _, .int _ _, .int _ _, .int _ _, .int _ _, .int _ _, .int _ _, .int _ _, .int _ _] 28 ?_
  refine zLI ?_
  refine zn ?_
  refine zs ?_
  refine zR ?_
  refine zLG [.int _ _, .int _ _, .int _ _, .int _ _, .int _ _, .int _ _, .int _ _, .int _ _, .int _ _, .int _ _, .int _ _, .int _ _, _, _, .int _ _, .int _ _, .int _ _, .int _ _, .int _ _, .int _ _, .int _ _, .int _ _, .int _ _, .int _ _, .int _ _, .int _ _, .int _ _, .int _ _] ?_
  refine zLI ?_
  refine zLc (hB) ?_
  refine zLI ?_
  refine zn ?_
  refine zs ?_
  refine zs ?_
  refine zR ?_
  refine zLG [.int _ _, .int _ _, .int _ _, .int _ _, .int _ _, .int _ _, .int _ _, .int _ _, .int _ _, .int _ _, .int _ _, .int _ _, _, _, .int _ _, .int _ _, .int _ _, .int _ _, .int _ _, .int _ _, .int _ _, .int _ _, .int _ _, .int _ _, .int _ _, .int _ _, .int _ _, .int _ _] ?_
  refine zLI ?_
  refine zLI ?_
  refine zLc (hT) ?_
  refine zLI ?_
  refine zLI ?_
  refine zn ?_
  refine W_block ?_
  refine W_forE (l.length) [(3, .ro _), (4, .ptr 0 0 0), (18, .ro _), (19, .int _ _)] (fun (i : Nat) => [(20, .int .i64 (i : Int)), (9, .int .i64 (sumT b (l.take i) a S.Op.Pad))]) [(0, some ⟨_, _, _, _⟩)] (fun (i : Nat) => []) [] (fun (i : Nat) => []) 1 (le_fit (sub_cat ⟨rfl, rfl, trivial⟩ ⟨rfl, rfl, rfl, rfl, trivial⟩) (subO_cat trivial ⟨.inr rfl, trivial⟩) (subK_cat trivial trivial) rfl rfl rfl (by rfl) rfl) ?_
  intro i hi
  refine W.of_le (s' := ⟨[(20, .int .i64 (i : Int)), (9, .int .i64 (sumT b (l.take i) a S.Op.Pad)), (3, .ro _), (4, .ptr 0 0 0), (18, .ro _), (19, .int _ _)], [(0, some ⟨_, _, _, _⟩)], [], 1⟩) (le_fit ⟨rfl, rfl, rfl, rfl, rfl, rfl, trivial⟩ ⟨.inr rfl, trivial⟩ trivial rfl rfl rfl (by rfl) rfl) ?_
  refine zs ?_
  refine zR ?_
  refine zLB ?_
  refine zn ?_
  refine zs ?_
  refine W_cond (b := _) rfl (fun h21 => ?_) (fun h21 => ?_)
  · have hit : i < l.length := by (have := of_decide_eq_true h21; simp only [List.length_map, List.length_take, List.length_drop] at this; omega)
    have hi := hlt (l.getD i default) (by rw [List.getD_eq_getElem?_getD, List.getElem?_eq_getElem hit]; exact List.getElem_mem hit)
    refine zk ?_
    refine zs ?_
    refine W_block ?_
    refine zs ?_
    refine zR ?_
    (refine L_v Tb_ok (v := _) (ave_index_ro rfl rfl rfl (fun _ => rfl) rfl (by first | omega | assumption | decide | (simp_all; done) | (simp_all; omega)) (by first | omega | assumption | decide | (simp_all; done) | (simp_all; omega)) trivial) rfl ?_)
    refine zLG [.int _ _, .int _ _] ?_
    refine zal [.int .i64 0, .int .i64 0] 2 ?_
    refine zst (.agg [.int _ _, .int _ _]) [_, _] [[_, _]] ?_
    refine zn ?_
    refine zR ?_
    refine zLI ?_
    refine zLG [.int _ _, .int _ _, .int _ _, .int _ _, .int _ _, .int _ _, .int _ _, .int _ _, .int _ _, .int _ _, .int _ _, .int _ _, _, _, .int _ _, .int _ _, .int _ _, .int _ _, .int _ _, .int _ _, .int _ _, .int _ _, .int _ _, .int _ _, .int _ _, .int _ _, .int _ _, .int _ _] ?_
    refine zLG [.int _ _, .int _ _] ?_
    refine zLO ?_
    refine zLc (ref10_Value S (l.getD i default) a hi) ?_
    refine zLI ?_
    refine zLI ?_
    refine zn ?_
    refine zR ?_
    refine zLI ?_
    refine zLI ?_
    refine zn ?_
    refine for_end hit (le_fit (sub_cat ⟨congrArg _ (w_succ hit (by omega)), congrArg (AV.int .i64) (by unfold sumT; rw [foldl_take' _ _ _ _ hit]; rfl), trivial⟩ ⟨rfl, rfl, rfl, rfl, trivial⟩) (subO_cat trivial ⟨.inr rfl, trivial⟩) (subK_cat trivial trivial) rfl rfl rfl (by rfl) rfl)
  · have hie : i = l.length := by (have := of_decide_eq_false h21; simp only [List.length_map, List.length_take, List.length_drop] at this; omega)
    refine W_exit ?_
    repeat (first | refine pass_then ?_ | refine pass_for ?_)
    refine blockQ_hit ?_
    refine zs ?_
    refine zR ?_
    refine zLI ?_
    refine zLI ?_
    refine zn ?_
    refine zt ?_
    refine ends (l := [.int _ _]) (q := .int _ _) (.inr rfl) rfl ⟨trivial, trivial⟩ rfl rfl ?_
    rw [hie, List.take_length]
theorem witness_Break_no (m : Model) (hm : m.Wf) (op ch : Int) (s : Span) (k : Int) (h : partE m op ch s k ≠ 0 ∨ safeB m op ch s k = true) : Ok Try.prog 20 [.agg (modelC m), .int .i64 op, .int .i64 ch, .agg (spanC s), .int .i64 k] (.tup [.agg [.int .i64 0, .int .i64 0, .int .i64 0, .ro []], .bool false, .int .i64 (partE m op ch s k)]) := by
  have hc43 : (bif (partE m op ch s k != 0) then true else safeB m op ch s k) = true := by
    rcases h with h | h
    · simp [h]
    · rw [h]; simp
  --@@5
  skip
  refine fn_ok Tb_ok (fn := Try.f20) Try.func20 rfl rfl (e := [(0, _), (1, _), (2, _), (3, _), (4, _)]) rfl (by decide) rfl ?_
  refine zs ?_
  refine zR ?_
  refine zbx [.int _ _, .int _ _, .int _ _, .int _ _, .int _ _, _, .int _ _] 7 ?_
  refine zbx [.int _ _, .int _ _] 2 ?_
  refine zal [.int .i64 0, .int .i64 0, .int .i64 0, .nils] 4 ?_
  refine zLB ?_
  refine zLI ?_
  refine zn ?_
  refine zs ?_
  refine zR ?_
  refine zLG [.int _ _, .int _ _, .int _ _, .int _ _, .int _ _, _, .int _ _] ?_
  refine zLI ?_
  refine zLI ?_
  refine zLG [.int _ _, .int _ _] ?_
  refine zLI ?_
  refine zLc (depth_Safe m hm op ch s k) ?_
  refine zLT [_, _] ?_
  refine zLB ?_
  refine zLI ?_
  refine zLB ?_
  refine zLI ?_
  refine zn ?_
  refine zs ?_
  refine zs ?_
  refine zR ?_
  refine zLI ?_
  refine zLB ?_
  refine zLB ?_
  refine zgLB ?_
  refine zpLB ?_
  refine zn ?_
  refine W_cond_t (b := _) rfl (by exact hc43) ?_
  refine zs ?_
  refine zR ?_
  refine zLG [.int _ _, .int _ _, .int _ _, _] ?_
  refine zLI ?_
  refine zst (.agg [.int _ _, .int _ _, .int _ _, _]) [_, _, _, _] [[_, _, _, _]] ?_
  refine zLB ?_
  refine zLI ?_
  refine zn ?_
  refine zt ?_
  refine ends (l := [.agg [.int _ _, .int _ _, .int _ _, _], .bool _, .int _ _]) (q := .tup [.agg [.int _ _, .int _ _, .int _ _, _], .bool _, .int _ _]) (.inr rfl) rfl ⟨rfl, trivial, trivial, trivial⟩ rfl rfl ?_
  rfl
def mOneW : Model := ⟨⟨1, 1, 2⟩, -128, 127, [⟨1, 0, 0, 1, ⟨0, 0, 0, 0, 0, 0, 0, 0⟩, [3, -2], [1], ⟨1, 0⟩, ⟨0, 0⟩, 0, 0, -128, 127⟩], 1⟩
theorem law23_one : Ok Try.prog 42 [] (.agg (modelC mOneW)) := by
  refine fn_ok Tb_ok (fn := Try.f42) Try.func42 rfl rfl (e := []) rfl (by decide) rfl ?_
  refine zs ?_
  refine zR ?_
  refine zal [.int .i64 0, .int .i64 0, .int .i64 0, .int .i64 0, .int .i64 0, .nils, .int .i64 0] 7 ?_
  refine zn ?_
  refine zs ?_
  refine zR ?_
  refine zLG [.int _ _, .int _ _, .int _ _] ?_
  refine L_build Tb_ok (t := 39) (len := 2) (el := 107) (sz := 1) (es := [[_], [_]]) (z := [.int .i16 0]) rfl rfl rfl rfl rfl (by decide) trivial rfl rfl rfl rfl rfl ?_
  refine L_build Tb_ok (t := 40) (len := 1) (el := 21) (sz := 1) (es := [[_]]) (z := [.int .i32 0]) rfl rfl rfl rfl rfl (by decide) trivial rfl rfl rfl rfl rfl ?_
  refine zLG [.int _ _, .int _ _] ?_
  refine L_freeze (t := 2) (l := _) rfl rfl rfl rfl rfl rfl rfl ?_
  refine L_freeze (t := 3) (l := _) rfl rfl rfl rfl rfl rfl rfl ?_
  refine zLG [.int _ _, .int _ _, .int _ _, .int _ _, .int _ _, .int _ _, .int _ _, .int _ _, .int _ _, .int _ _, .int _ _, .int _ _, _, _, .int _ _, .int _ _, .int _ _, .int _ _, .int _ _, .int _ _, .int _ _, .int _ _] ?_
  refine L_build Tb_ok (t := 24) (len := 1) (el := 44) (sz := 22) (es := [[_, _, _, _, _, _, _, _, _, _, _, _, _, _, _, _, _, _, _, _, _, _]]) (z := [.int .i64 0, .int .i64 0, .int .i64 0, .int .i64 0, .int .i64 0, .int .i64 0, .int .i64 0, .int .i64 0, .int .i64 0, .int .i64 0, .int .i64 0, .int .i64 0, .nils, .nils, .int .i64 0, .int .i64 0, .int .i64 0, .int .i64 0, .int .i64 0, .int .i64 0, .int .i64 0, .int .i64 0]) rfl rfl rfl rfl rfl (by decide) trivial rfl rfl rfl rfl rfl ?_
  refine L_freeze (t := 6) (l := _) rfl rfl rfl rfl rfl rfl rfl ?_
  refine zLG [.int _ _, .int _ _, .int _ _, .int _ _, .int _ _, _, .int _ _] ?_
  refine zst (.agg [.int _ _, .int _ _, .int _ _, .int _ _, .int _ _, _, .int _ _]) [_, _, _, _, _, _, _] [[_, _, _, _, _, _, _]] ?_
  refine zn ?_
  refine zt ?_
  refine ends (l := [.agg [.int _ _, .int _ _, .int _ _, .int _ _, .int _ _, _, .int _ _]]) (q := .agg [.int _ _, .int _ _, .int _ _, .int _ _, .int _ _, _, .int _ _]) (.inr rfl) rfl ⟨rfl, trivial⟩ rfl rfl ?_
  rfl
theorem mOneW_Wf : mOneW.Wf := by
  simp [mOneW, Model.Wf, Shape.Wf, ListWf, MOp.Wf, Window.Wf, Scale.Wf, I64.iff, I32.iff, I16.iff, reachBytes]
theorem one_wit {up : Bool} {w : Wit} (h : WitOk mOneW 1 1 ⟨0, 10⟩ up w) : w = ⟨0, rowT (upC up) 0 10 2 (termsF mOneW 1 1 0)⟩ := by
  obtain ⟨M, k, H, hk, e, _⟩ := h.2 (by decide +kernel)
  have hM := H.eM
  rw [show elemsW (findS mOneW 1).In = 2 by decide +kernel] at hM
  have hp : posN mOneW 1 = 1 := by decide +kernel
  obtain rfl : k = 0 := by omega
  obtain rfl : M = 2 := by omega
  exact e
theorem law23_fixed : Ok Try.prog 17 [] (.bool true) := by
  obtain ⟨a, ha, h1⟩ := witness_Low mOneW mOneW_Wf 1 1 ⟨0, 10⟩
  obtain ⟨b, hb, h2⟩ := witness_High mOneW mOneW_Wf 1 1 ⟨0, 10⟩
  have h3 := witness_Break_no mOneW mOneW_Wf 1 1 ⟨0, 10⟩ 2 (.inr (by decide +kernel))
  have h4 := witness_Break_no mOneW mOneW_Wf 1 1 ⟨0, 10⟩ 3 (.inl (by decide +kernel))
  rw [one_wit ha, show rowT (upC false) 0 10 2 (termsF mOneW 1 1 0) = [0, 10] by decide +kernel, show askE mOneW 1 1 ⟨0, 10⟩ = 0 by decide +kernel] at h1
  rw [one_wit hb, show rowT (upC true) 0 10 2 (termsF mOneW 1 1 0) = [10, 0] by decide +kernel, show askE mOneW 1 1 ⟨0, 10⟩ = 0 by decide +kernel] at h2
  rw [show partE mOneW 1 1 ⟨0, 10⟩ 2 = 0 by decide +kernel] at h3
  rw [show partE mOneW 1 1 ⟨0, 10⟩ 3 = 151 by decide +kernel] at h4
  --@@6
  skip
  refine fn_ok Tb_ok (fn := Try.f17) Try.func17 rfl rfl (e := []) rfl (by decide) rfl ?_
  refine zs ?_
  refine zR ?_
  refine zLB ?_
  refine zn ?_
  refine zs ?_
  refine zR ?_
  refine zLc (law23_one) ?_
  refine zLG [.int _ _, .int _ _] ?_
  refine zLc (h1) ?_
  refine zLT [_, _] ?_
  refine zLG [.int _ _, _] ?_
  refine zLI ?_
  refine zal [.int .i64 0, .nils] 2 ?_
  refine zst (.agg [.int _ _, _]) [_, _] [[_, _]] ?_
  refine zLI ?_
  refine zn ?_
  refine zs ?_
  refine zR ?_
  refine zLc (law23_one) ?_
  refine zLG [.int _ _, .int _ _] ?_
  refine zLc (h2) ?_
  refine zLT [_, _] ?_
  refine zLG [.int _ _, _] ?_
  refine zLI ?_
  refine zal [.int .i64 0, .nils] 2 ?_
  refine zst (.agg [.int _ _, _]) [_, _] [[_, _]] ?_
  refine zLI ?_
  refine zn ?_
  refine zs ?_
  refine zR ?_
  refine zLc (law23_one) ?_
  refine zLG [.int _ _, .int _ _] ?_
  refine zLc (h3) ?_
  refine zLT [_, _, _] ?_
  refine zLG [.int _ _, .int _ _, .int _ _, _] ?_
  refine zLB ?_
  refine zLI ?_
  refine zal [.int .i64 0, .int .i64 0, .int .i64 0, .nils] 4 ?_
  refine zst (.agg [.int _ _, .int _ _, .int _ _, _]) [_, _, _, _] [[_, _, _, _]] ?_
  refine zLB ?_
  refine zLI ?_
  refine zn ?_
  refine zs ?_
  refine zR ?_
  refine zLc (law23_one) ?_
  refine zLG [.int _ _, .int _ _] ?_
  refine zLc (h4) ?_
  refine zLT [_, _, _] ?_
  refine zLG [.int _ _, .int _ _, .int _ _, _] ?_
  refine zLB ?_
  refine zLI ?_
  refine zal [.int .i64 0, .int .i64 0, .int .i64 0, .nils] 4 ?_
  refine zst (.agg [.int _ _, .int _ _, .int _ _, _]) [_, _, _, _] [[_, _, _, _]] ?_
  refine zLB ?_
  refine zLI ?_
  refine zn ?_
  refine zs ?_
  refine zR ?_
  refine zLP ?_
  refine zLI ?_
  refine zLB ?_
  refine zLB ?_
  refine zgLP ?_
  refine zgLO ?_
  refine WL_split (d := 40) (want := true) (g := true) rfl rfl rfl rfl (fun _ => ?_) (fun h => by cases h)
  refine L_build Tb_ok (t := 31) (len := 2) (el := 60) (sz := 1) (es := [[_], [_]]) (z := [.int .i8 0]) rfl rfl rfl rfl rfl (by decide) trivial rfl rfl rfl rfl rfl ?_
  refine L_freeze (t := 43) (l := _) rfl rfl rfl rfl rfl rfl rfl ?_
  refine L_callg (hr := fun hg => ref11_Same [0, 10] [0, 10] (by decide)) rfl rfl rfl rfl rfl (fun hg => ⟨⟨(by exact hg), True.intro⟩, True.intro⟩) rfl rfl ?_
  refine zpLB ?_
  refine zLB ?_
  refine zgLI ?_
  refine zgLB ?_
  refine zpLB ?_
  refine zLB ?_
  refine zgLP ?_
  refine zgLI ?_
  refine zgLB ?_
  refine zpLB ?_
  refine zLB ?_
  refine zgLP ?_
  refine zgLO ?_
  refine WL_split (d := 55) (want := true) (g := true) rfl rfl rfl rfl (fun _ => ?_) (fun h => by cases h)
  refine L_build Tb_ok (t := 31) (len := 2) (el := 60) (sz := 1) (es := [[_], [_]]) (z := [.int .i8 0]) rfl rfl rfl rfl rfl (by decide) trivial rfl rfl rfl rfl rfl ?_
  refine L_freeze (t := 58) (l := _) rfl rfl rfl rfl rfl rfl rfl ?_
  refine L_callg (hr := fun hg => ref11_Same [10, 0] [10, 0] (by decide)) rfl rfl rfl rfl rfl (fun hg => ⟨⟨(by exact hg), True.intro⟩, True.intro⟩) rfl rfl ?_
  refine zpLB ?_
  refine zLB ?_
  refine zgLI ?_
  refine zgLB ?_
  refine zpLB ?_
  refine zLB ?_
  refine zgLB ?_
  refine zgLB ?_
  refine zpLB ?_
  refine zLB ?_
  refine zgLP ?_
  refine zgLO ?_
  refine zgLI ?_
  refine zgLB ?_
  refine zpLB ?_
  refine zLB ?_
  refine zgLI ?_
  refine zgLB ?_
  refine zpLB ?_
  refine zLB ?_
  refine zgLI ?_
  refine zgLB ?_
  refine zpLB ?_
  refine zLB ?_
  refine zn ?_
  refine zt ?_
  refine ends (l := [.bool _]) (q := .bool _) (.inr rfl) rfl ⟨trivial, trivial⟩ rfl rfl ?_
  rfl
end Go.AM
end
section
open Go Go.AM Go.Proofs
set_option maxRecDepth 10000
set_option linter.unusedVariables false
set_option linter.unusedSimpArgs false
namespace Go.AM
theorem mem_getD {l : List Int} {j : Nat} (h : j < l.length) : l.getD j default ∈ l := by
  rw [List.getD_eq_getElem?_getD, List.getElem?_eq_getElem h]; exact List.getElem_mem h
theorem ref23_Numbers (S : Site) (s : Span) (a : List Int) (hl : (a.length : Int) = w64 (w64 (S.In.H * S.In.W) * S.In.C)) (hal : a.length ≤ 16384) (hs : -128 ≤ s.Lo ∧ s.Lo ≤ s.Hi ∧ s.Hi ≤ 127) (ha : ∀ v ∈ a, s.Lo ≤ v ∧ v ≤ s.Hi) :
    Ok Try.prog 48 [.agg (rsiteC S), .agg (spanC s), .ro (a.map i8C)] (.bool true) := by
  have hc22 : (((a.map i8C).length : Int) != IntKind.i64.wrap (IntKind.i64.wrap (S.In.H * S.In.W) * S.In.C)) = false := by
    rw [List.length_map, hl]; simp [w64]
  --@@1
  skip
  refine fn_ok Tb_ok (fn := Try.f48) Try.func48 rfl rfl (e := [(0, _), (1, _), (2, _)]) rfl (by decide) rfl ?_
  refine zs ?_
  refine zR ?_
  refine zbx [.int _ _, .int _ _, .int _ _, .int _ _, .int _ _, .int _ _, .int _ _, .int _ _, .int _ _, .int _ _, .int _ _, .int _ _, _, _, .int _ _, .int _ _, .int _ _, .int _ _, .int _ _, .int _ _, .int _ _, .int _ _, .int _ _, .int _ _, .int _ _, .int _ _, .int _ _, .int _ _] 28 ?_
  refine zbx [.int _ _, .int _ _] 2 ?_
  refine zLB ?_
  refine zn ?_
  refine zs ?_
  refine zs ?_
  refine zR ?_
  refine zLO ?_
  refine zLI ?_
  refine zLP ?_
  refine zLP ?_
  refine zLI ?_
  refine zLP ?_
  refine zLP ?_
  refine zLI ?_
  refine zLI ?_
  refine zLP ?_
  refine zLP ?_
  refine zLI ?_
  refine zLI ?_
  refine zLB ?_
  refine zn ?_
  refine W_cond_f (b := _) rfl (by exact hc22) ?_
  refine zk ?_
  refine zs ?_
  refine zs ?_
  refine zR ?_
  refine zLO ?_
  refine zLI ?_
  refine zLI ?_
  refine zn ?_
  refine W_block ?_
  -- slot 35 changes in the loop: hint wanted
  -- slot 36 changes in the loop: hint wanted
  -- slot 37 changes in the loop: hint wanted
  -- slot 38 changes in the loop: hint wanted
  -- slot 39 changes in the loop: hint wanted
  refine W_forE (a.length) [(4, .ptr 1 0 0), (23, .ro _), (24, .int _ _)] (fun (i : Nat) => [(25, .int .i64 (i : Int))]) [(1, some ⟨_, _, _, _⟩)] (fun (i : Nat) => []) [] (fun (i : Nat) => []) 2 (le_fit (sub_cat ⟨rfl, trivial⟩ ⟨rfl, rfl, rfl, trivial⟩) (subO_cat trivial ⟨.inr rfl, trivial⟩) (subK_cat trivial trivial) rfl rfl rfl (by rfl) rfl) ?_
  intro i hi
  refine W.of_le (s' := ⟨[(25, .int .i64 (i : Int)), (4, .ptr 1 0 0), (23, .ro _), (24, .int _ _)], [(1, some ⟨_, _, _, _⟩)], [], 2⟩) (le_fit ⟨rfl, rfl, rfl, rfl, trivial⟩ ⟨.inr rfl, trivial⟩ trivial rfl rfl rfl (by rfl) rfl) ?_
  refine zs ?_
  refine zR ?_
  refine zLB ?_
  refine zn ?_
  refine zs ?_
  refine W_cond (b := _) rfl (fun h26 => ?_) (fun h26 => ?_)
  · have hit : i < a.length := by (have := of_decide_eq_true h26; simp only [List.length_map, List.length_take, List.length_drop] at this; omega)
    have hv := ha (a.getD i default) (mem_getD hit)
    have hw : IntKind.i64.wrap (a.getD i default) = a.getD i default := w64_id (by omega)
    have hc40 : (bif decide (IntKind.i64.wrap (a.getD i default) < s.Lo) then true else decide (IntKind.i64.wrap (a.getD i default) > s.Hi)) = false := by rw [hw, decide_eq_false (by omega), decide_eq_false (by omega)]; rfl
    refine zk ?_
    refine zs ?_
    refine W_block ?_
    refine zs ?_
    refine zR ?_
    (refine L_v Tb_ok (v := _) (ave_index_ro rfl rfl rfl (fun _ => rfl) rfl (by first | omega | assumption | decide | (simp_all; done) | (simp_all; omega)) (by first | omega | assumption | decide | (simp_all; done) | (simp_all; omega)) trivial) rfl ?_)
    refine zLI ?_
    refine zLI ?_
    refine zn ?_
    refine zs ?_
    refine zR ?_
    refine zLI ?_
    refine zLI ?_
    refine zLP ?_
    refine zLI ?_
    refine zLB ?_
    refine zLB ?_
    refine zgLI ?_
    refine zgLI ?_
    refine zgLP ?_
    refine zgLI ?_
    refine zgLB ?_
    refine zpLB ?_
    refine zn ?_
    refine W_cond_f (b := _) rfl (by exact hc40) ?_
    refine zk ?_
    refine zR ?_
    refine zLI ?_
    refine zLI ?_
    refine zn ?_
    refine for_end hit (le_fit (sub_cat ⟨congrArg _ (w_succ hit (by omega)), trivial⟩ ⟨rfl, rfl, rfl, trivial⟩) (subO_cat trivial ⟨.inr rfl, trivial⟩) (subK_cat trivial trivial) rfl rfl rfl (by rfl) rfl)
  · have hie : i = a.length := by (have := of_decide_eq_false h26; simp only [List.length_map, List.length_take, List.length_drop] at this; omega)
    refine W_exit ?_
    repeat (first | refine pass_then ?_ | refine pass_for ?_)
    refine blockQ_hit ?_
    refine zs ?_
    refine zR ?_
    refine zLB ?_
    refine zn ?_
    refine zt ?_
    refine ends (l := [.bool _]) (q := .bool _) (.inr rfl) rfl ⟨trivial, trivial⟩ rfl rfl ?_
    rfl
theorem rowT_in {c : Int → Bool} {lo hi : Int} (h : lo ≤ hi) (M : Nat) (T : List Term) : ∀ v ∈ rowT c lo hi M T, lo ≤ v ∧ v ≤ hi := by
  have k : ∀ (T : List Term) (l : List Int), (∀ v ∈ l, lo ≤ v ∧ v ≤ hi) → ∀ v ∈ T.foldl (setT c hi) l, lo ≤ v ∧ v ≤ hi := by
    intro T
    induction T with
    | nil => intro l hl; exact hl
    | cons t T ih =>
      intro l hl
      simp only [List.foldl_cons]
      refine ih _ fun v hv => ?_
      unfold setT at hv
      split at hv
      · rcases List.mem_or_eq_of_mem_set hv with h1 | h1
        · exact hl v h1
        · rw [h1]; omega
      · exact hl v hv
  refine k T _ fun v hv => ?_
  rw [(List.mem_replicate.1 hv).2]; omega
theorem ref23_Reaches {m : Model} {op ch : Int} {s : Span} {M k : Nat} (H : AskH m op ch s M) (hk : k < posN m op) (a : List Int) (hal : a.length = M) (ha : ∀ v ∈ a, s.Lo ≤ v ∧ v ≤ s.Hi) {t : Int} (ht : sumT (biasF m op ch 0) (termsF m op ch k) a (findS m op).Op.Pad = t) :
    Ok Try.prog 19 [.agg (rsiteC (findS m op)), .int .i64 ch, .agg (spanC s), .agg (witC ⟨(k : Int), a⟩), .int .i64 t] (.bool true) := by
  obtain ⟨hS, _⟩ := site_ok H.f0
  have hM1 := H.M1
  have hpn := H.pn
  have hp := H.pos
  obtain ⟨p1, p2, p3⟩ := out_pos hS
  have hPos := ref10_Positions (findS m op)
  rw [p1, ← hp] at hPos
  have hN := ref23_Numbers (findS m op) s a (by rw [(elems_inW hS.inB).1, hal, H.eM]) (by omega) H.hs ha
  have hb := H.bad k hk
  have hSu := ref11_Sum hS (lenF_site H.f0) H.hch (at_ := (k : Int)) (by omega) a (by rw [hal]; exact H.eM) (by rw [← termsF_eq H.f0 hb]; exact H.tl k)
  rw [← bias_eq H.f0 hb, ← termsF_eq H.f0 hb, H.biasE k hk, ht] at hSu
  have hc28 : (bif (bif decide ((k : Int) < 0) then true else decide ((k : Int) ≥ (posN m op : Int))) then true else !true) = false := by
    rw [decide_eq_false (by omega), decide_eq_false (by omega)]; rfl
  --@@2
  skip
  refine fn_ok Tb_ok (fn := Try.f19) Try.func19 rfl rfl (e := [(0, _), (1, _), (2, _), (3, _), (4, _)]) rfl (by decide) rfl ?_
  refine zs ?_
  refine zR ?_
  refine zbx [.int _ _, .int _ _, .int _ _, .int _ _, .int _ _, .int _ _, .int _ _, .int _ _, .int _ _, .int _ _, .int _ _, .int _ _, _, _, .int _ _, .int _ _, .int _ _, .int _ _, .int _ _, .int _ _, .int _ _, .int _ _, .int _ _, .int _ _, .int _ _, .int _ _, .int _ _, .int _ _] 28 ?_
  refine zbx [.int _ _, .int _ _] 2 ?_
  refine zbx [.int _ _, _] 2 ?_
  refine zLB ?_
  refine zn ?_
  refine zs ?_
  refine zs ?_
  refine W_draw 18 Tb_mixed rfl (by decide) (by kernel_rfl) (by kernel_rfl) ?_
  refine zEP ?_
  refine zEI ?_
  refine zEB ?_
  refine zEB ?_
  refine zgEP ?_
  refine zgEI ?_
  refine zgEG [.int _ _, .int _ _, .int _ _, .int _ _, .int _ _, .int _ _, .int _ _, .int _ _, .int _ _, .int _ _, .int _ _, .int _ _, _, _, .int _ _, .int _ _, .int _ _, .int _ _, .int _ _, .int _ _, .int _ _, .int _ _, .int _ _, .int _ _, .int _ _, .int _ _, .int _ _, .int _ _] ?_
  refine E_callg (hr := fun hg => hPos) rfl rfl rfl rfl rfl (fun hg => ⟨⟨(by exact hg), True.intro⟩, True.intro⟩) rfl rfl ?_
  refine zgEB ?_
  refine zpEB ?_
  refine zEB ?_
  refine zgEG [.int _ _, .int _ _, .int _ _, .int _ _, .int _ _, .int _ _, .int _ _, .int _ _, .int _ _, .int _ _, .int _ _, .int _ _, _, _, .int _ _, .int _ _, .int _ _, .int _ _, .int _ _, .int _ _, .int _ _, .int _ _, .int _ _, .int _ _, .int _ _, .int _ _, .int _ _, .int _ _] ?_
  refine zgEG [.int _ _, .int _ _] ?_
  refine zgEP ?_
  refine zgEO ?_
  refine E_callg (hr := fun hg => hN) rfl rfl rfl rfl rfl (fun hg => ⟨⟨(by exact hg), True.intro⟩, ⟨⟨(by exact hg), True.intro⟩, ⟨⟨(by exact hg), True.intro⟩, True.intro⟩⟩⟩) rfl rfl ?_
  refine zgEB ?_
  refine zpEB ?_
  refine LexE_nil ?_
  refine zn ?_
  refine W_cond_f (b := _) rfl (by exact hc28) ?_
  refine zk ?_
  refine zs ?_
  refine zR ?_
  refine zLG [.int _ _, .int _ _, .int _ _, .int _ _, .int _ _, .int _ _, .int _ _, .int _ _, .int _ _, .int _ _, .int _ _, .int _ _, _, _, .int _ _, .int _ _, .int _ _, .int _ _, .int _ _, .int _ _, .int _ _, .int _ _, .int _ _, .int _ _, .int _ _, .int _ _, .int _ _, .int _ _] ?_
  refine zLI ?_
  refine zLP ?_
  refine zLI ?_
  refine zLP ?_
  refine zLO ?_
  refine zLc (hSu) ?_
  refine zLI ?_
  refine zLB ?_
  refine zLB ?_
  refine zn ?_
  refine zt ?_
  refine ends (l := [.bool _]) (q := .bool _) (.inr rfl) rfl ⟨trivial, trivial⟩ rfl rfl ?_
  simp
theorem rc_site {m : Model} {op ch : Int} {s : Span} {M : Nat} (H : AskH m op ch s M) : rcS m op ch = findS m op := ((rc_ok H.f0).1 H.hch).2
theorem wit_reach {m : Model} {op ch : Int} {s : Span} {up : Bool} {w : Wit} (hz : askE m op ch s = 0) (h : WitOk m op ch s up w) : Ok Try.prog 19 [.agg (rsiteC (rcS m op ch)), .int .i64 ch, .agg (spanC s), .agg (witC w), .int .i64 (endQ m op ch s up)] (.bool true) := by
  obtain ⟨M, k, H, hk, e, hv⟩ := h.2 hz
  rw [rc_site H, e]
  rw [e] at hv
  exact ref23_Reaches H hk _ (rowT_len _ _ _ _ _) (rowT_in H.hs.2.1 _ _) hv
theorem r13w {m : Model} (hm : m.Wf) {op ch : Int} {s : Span} (h : askE m op ch s = 0) : Ok Try.prog 18 [.agg (rsiteC (rcS m op ch)), .int .i64 ch, .agg (spanC s)] (.agg (spanC (totS m op ch s))) := by
  obtain ⟨z, hs, f0⟩ := askE_zero h
  obtain ⟨_, fb, _⟩ := ofE_op z
  obtain ⟨hS, _⟩ := site_ok f0
  obtain ⟨hch, _⟩ := (ofBad_iff hS).1 fb
  obtain ⟨e1, e2⟩ := (rc_ok f0).1 hch
  rw [e2]
  have hR := ref13_Rows hm z hs
  have hB := ref10_Bias (findS m op) ch (bias_ix hS hch)
  rw [← bias_eq f0 fb] at hB
  have hG := ref13_begin _ _ _ hB
  have hlen := fun k hk => @rowsF_len512 m op ch s k hk
  have hLL := rowsF_len h
  rw [totS, if_pos h]; exact ref13_Total _ _ _ _ _ hR hG hlen hLL
theorem witnessEnds (a : Ask23) (ha : a.Wf) : Ok Try.prog 3 [.agg (ask23C a)] (.bool true) := by
  obtain ⟨l, hl, hLo⟩ := witness_Low a.M ha.1 a.Op a.Ch a.S
  obtain ⟨u, hu, hHi⟩ := witness_High a.M ha.1 a.Op a.Ch a.S
  have hc57 : (bif (bif (!true) then true else (askE a.M a.Op a.Ch a.S != askE a.M a.Op a.Ch a.S)) then true else (askE a.M a.Op a.Ch a.S != askE a.M a.Op a.Ch a.S)) = false := by simp
  --@@3
  skip
  refine fn_ok Tb_ok (fn := Try.f3) Try.func3 rfl rfl (e := [(0, _)]) rfl (by decide) rfl ?_
  refine zs ?_
  refine zR ?_
  refine zbx [.int _ _, .int _ _, .int _ _, .int _ _, .int _ _, _, .int _ _, .int _ _, .int _ _, .int _ _, .int _ _, .int _ _] 12 ?_
  refine zLB ?_
  refine zn ?_
  refine zs ?_
  refine zR ?_
  refine zLP ?_
  refine zLG [.int _ _, .int _ _, .int _ _, .int _ _, .int _ _, _, .int _ _] ?_
  refine zLP ?_
  refine zLI ?_
  refine zLP ?_
  refine zLI ?_
  refine zLP ?_
  refine zLG [.int _ _, .int _ _] ?_
  refine zLc (hLo) ?_
  refine zLT [_, _] ?_
  refine zLG [.int _ _, _] ?_
  refine zLI ?_
  refine zal [.int .i64 0, .nils] 2 ?_
  refine zst (.agg [.int _ _, _]) [_, _] [[_, _]] ?_
  refine zLI ?_
  refine zn ?_
  refine zs ?_
  refine zR ?_
  refine zLP ?_
  refine zLG [.int _ _, .int _ _, .int _ _, .int _ _, .int _ _, _, .int _ _] ?_
  refine zLP ?_
  refine zLI ?_
  refine zLP ?_
  refine zLI ?_
  refine zLP ?_
  refine zLG [.int _ _, .int _ _] ?_
  refine zLc (hHi) ?_
  refine zLT [_, _] ?_
  refine zLG [.int _ _, _] ?_
  refine zLI ?_
  refine zal [.int .i64 0, .nils] 2 ?_
  refine zst (.agg [.int _ _, _]) [_, _] [[_, _]] ?_
  refine zLI ?_
  refine zn ?_
  refine zs ?_
  refine zR ?_
  refine zLP ?_
  refine zLG [.int _ _, .int _ _, .int _ _, .int _ _, .int _ _, _, .int _ _] ?_
  refine zLP ?_
  refine zLI ?_
  refine zLP ?_
  refine zLI ?_
  refine zLP ?_
  refine zLG [.int _ _, .int _ _] ?_
  refine zLc (ref13_Find a.M ha.1 a.Op a.Ch a.S) ?_
  refine zLT [_, _] ?_
  refine zLG [.int _ _, .int _ _, .int _ _, .int _ _, .int _ _, .int _ _, .int _ _, .int _ _, .int _ _, .int _ _, .int _ _, .int _ _, _, _, .int _ _, .int _ _, .int _ _, .int _ _, .int _ _, .int _ _, .int _ _, .int _ _, .int _ _, .int _ _, .int _ _, .int _ _, .int _ _, .int _ _] ?_
  refine zLI ?_
  refine zal [.int .i64 0, .int .i64 0, .int .i64 0, .int .i64 0, .int .i64 0, .int .i64 0, .int .i64 0, .int .i64 0, .int .i64 0, .int .i64 0, .int .i64 0, .int .i64 0, .nils, .nils, .int .i64 0, .int .i64 0, .int .i64 0, .int .i64 0, .int .i64 0, .int .i64 0, .int .i64 0, .int .i64 0, .int .i64 0, .int .i64 0, .int .i64 0, .int .i64 0, .int .i64 0, .int .i64 0] 28 ?_
  refine zst (.agg [.int _ _, .int _ _, .int _ _, .int _ _, .int _ _, .int _ _, .int _ _, .int _ _, .int _ _, .int _ _, .int _ _, .int _ _, _, _, .int _ _, .int _ _, .int _ _, .int _ _, .int _ _, .int _ _, .int _ _, .int _ _, .int _ _, .int _ _, .int _ _, .int _ _, .int _ _, .int _ _]) [_, _, _, _, _, _, _, _, _, _, _, _, _, _, _, _, _, _, _, _, _, _, _, _, _, _, _, _] [[_, _, _, _, _, _, _, _, _, _, _, _, _, _, _, _, _, _, _, _, _, _, _, _, _, _, _, _]] ?_
  refine zLI ?_
  refine zn ?_
  refine zs ?_
  refine zs ?_
  refine zR ?_
  refine zLc (law23_fixed) ?_
  refine zLB ?_
  refine zLB ?_
  refine zgLI ?_
  refine zgLI ?_
  refine zgLB ?_
  refine zpLB ?_
  refine zLB ?_
  refine zgLI ?_
  refine zgLI ?_
  refine zgLB ?_
  refine zpLB ?_
  refine zn ?_
  refine W_cond_f (b := _) rfl (by exact hc57) ?_
  refine zk ?_
  refine zs ?_
  refine zs ?_
  refine zR ?_
  refine zLI ?_
  refine zLB ?_
  refine zn ?_
  refine W_cond (b := _) rfl (fun h59 => ?_) (fun h59 => ?_)
  · have hz : ¬ askE a.M a.Op a.Ch a.S = 0 := by simpa using h59
    have el := hl.1 hz
    have eu := hu.1 hz
    refine zs ?_
    refine zR ?_
    refine zLP ?_
    refine zLI ?_
    refine zLB ?_
    refine zLB ?_
    refine zgLP ?_
    refine zgLO ?_
    refine zgLI ?_
    refine zgLB ?_
    refine zpLB ?_
    refine zLB ?_
    refine zgLP ?_
    refine zgLI ?_
    refine zgLB ?_
    refine zpLB ?_
    refine zLB ?_
    refine zgLP ?_
    refine zgLO ?_
    refine zgLI ?_
    refine zgLB ?_
    refine zpLB ?_
    refine zLB ?_
    refine zn ?_
    refine zt ?_
    refine ends (l := [.bool _]) (q := .bool _) (.inr rfl) rfl ⟨trivial, trivial⟩ rfl rfl ?_
    rw [el, eu]; rfl
  · have hz : askE a.M a.Op a.Ch a.S = 0 := by simpa using h59
    have r1 := r13w ha.1 hz
    refine zk ?_
    refine zs ?_
    refine zR ?_
    refine zLG [.int _ _, .int _ _, .int _ _, .int _ _, .int _ _, .int _ _, .int _ _, .int _ _, .int _ _, .int _ _, .int _ _, .int _ _, _, _, .int _ _, .int _ _, .int _ _, .int _ _, .int _ _, .int _ _, .int _ _, .int _ _, .int _ _, .int _ _, .int _ _, .int _ _, .int _ _, .int _ _] ?_
    refine zLP ?_
    refine zLI ?_
    refine zLP ?_
    refine zLG [.int _ _, .int _ _] ?_
    refine zLc (r1) ?_
    refine zal [.int .i64 0, .int .i64 0] 2 ?_
    refine zst (.agg [.int _ _, .int _ _]) [_, _] [[_, _]] ?_
    refine zn ?_
    refine zs ?_
    refine zR ?_
    refine zLG [.int _ _, .int _ _, .int _ _, .int _ _, .int _ _, .int _ _, .int _ _, .int _ _, .int _ _, .int _ _, .int _ _, .int _ _, _, _, .int _ _, .int _ _, .int _ _, .int _ _, .int _ _, .int _ _, .int _ _, .int _ _, .int _ _, .int _ _, .int _ _, .int _ _, .int _ _, .int _ _] ?_
    refine zLP ?_
    refine zLI ?_
    refine zLP ?_
    refine zLG [.int _ _, .int _ _] ?_
    refine zLG [.int _ _, _] ?_
    refine zLP ?_
    refine zLI ?_
    refine zLc (wit_reach hz hl) ?_
    refine zLB ?_
    refine zgLG [.int _ _, .int _ _, .int _ _, .int _ _, .int _ _, .int _ _, .int _ _, .int _ _, .int _ _, .int _ _, .int _ _, .int _ _, _, _, .int _ _, .int _ _, .int _ _, .int _ _, .int _ _, .int _ _, .int _ _, .int _ _, .int _ _, .int _ _, .int _ _, .int _ _, .int _ _, .int _ _] ?_
    refine zgLP ?_
    refine zgLI ?_
    refine zgLP ?_
    refine zgLG [.int _ _, .int _ _] ?_
    refine zgLG [.int _ _, _] ?_
    refine zgLP ?_
    refine zgLI ?_
    refine L_callg (hr := fun hg => wit_reach hz hu) rfl rfl rfl rfl rfl (fun hg => ⟨⟨(by exact hg), True.intro⟩, ⟨⟨(by exact hg), True.intro⟩, ⟨⟨(by exact hg), True.intro⟩, ⟨⟨(by exact hg), True.intro⟩, ⟨⟨(by exact hg), True.intro⟩, True.intro⟩⟩⟩⟩⟩) rfl rfl ?_
    refine zpLB ?_
    refine zLB ?_
    refine zn ?_
    refine zt ?_
    refine ends (l := [.bool _]) (q := .bool _) (.inr rfl) rfl ⟨trivial, trivial⟩ rfl rfl ?_
    rfl
end Go.AM
end
section
open Go Go.AM Go.Proofs
set_option maxRecDepth 10000
set_option linter.unusedVariables false
set_option linter.unusedSimpArgs false
namespace Go.AM
/-- what layer 11 makes of a witness -/
structure WitT (m : Model) (op ch : Int) (s : Span) (up : Bool) (w : Wit) (L : List Int) (q : Nat) : Prop where
  at0 : 0 ≤ w.At ∧ w.At ≤ 1048576
  tot : Ok Try.prog 36 [.agg (modelC m), .int .i64 op, .ro (w.X.map i8C)] (.tup [.ro (L.map intC), .int .i64 0])
  ix : IntKind.i64.wrap (IntKind.i64.wrap (IntKind.i64.wrap (w.At * (findS m op).Out.C) + ch) - 1) = (q : Int)
  lt : q < L.length
  get : L.getD q default = endQ m op ch s up
theorem wit_tot {m : Model} {op ch : Int} {s : Span} {up : Bool} {w : Wit} (hz : askE m op ch s = 0) (h : WitOk m op ch s up w) : ∃ L q, WitT m op ch s up w L q := by
  obtain ⟨M, k, H, hk, e, hv⟩ := h.2 hz
  obtain ⟨hS, ⟨o1, o2⟩, hop, _⟩ := site_ok H.f0
  have hpn := H.pn
  have hch := H.hch
  have hpos := H.pos
  have O := shapeB_iff.1 hS.outB
  have hXl : w.X.length = M := by rw [e]; exact rowT_len _ _ _ _ _
  have hC : ((findS m op).Out.C.toNat : Int) = (findS m op).Out.C := by omega
  have hP3 : k * (findS m op).Out.C.toNat + (ch - 1).toNat < posN m op * (findS m op).Out.C.toNat := mul_lt_two' hk (by omega)
  have hPC : posN m op * (findS m op).Out.C.toNat = ((findS m op).Out.H * (findS m op).Out.W * (findS m op).Out.C).toNat := by unfold posN; exact (Int.toNat_mul (show 0 ≤ (findS m op).Out.H * (findS m op).Out.W by omega) (show 0 ≤ (findS m op).Out.C by omega)).symm
  have hlen : (sumsF m op w.X).length = posN m op * (findS m op).Out.C.toNat := by rw [hPC]; simp [sumsF]
  refine ⟨sumsF m op w.X, k * (findS m op).Out.C.toNat + (ch - 1).toNat, by rw [e]; dsimp only; omega, ?_, ?_, by rw [hlen]; exact hP3, ?_⟩
  · have h := plain_Totals m op w.X
    have e : totE m op w.X = 0 := by unfold totE elemsI; rw [if_pos H.f0, if_pos (by rw [hXl]; exact H.eM)]
    rw [totL, if_pos e, e] at h
    exact h
  · have h2 : ((k * (findS m op).Out.C.toNat : Nat) : Int) = (k : Int) * (findS m op).Out.C := by rw [Int.natCast_mul, hC]
    have h3 : ((k * (findS m op).Out.C.toNat : Nat) : Int) ≤ 16384 := by omega
    show w64 (w64 (w64 (w.At * (findS m op).Out.C) + ch) - 1) = _
    rw [show w.At = (k : Int) by rw [e], ← h2, show w64 ((k * (findS m op).Out.C.toNat : Nat) : Int) = _ from w64_id (by omega), show w64 (_ + ch) = _ from w64_id (by omega), show w64 _ = _ from w64_id (by omega)]
    omega
  · have h1 := hP3
    rw [hPC] at h1
    have e1 : (k * (findS m op).Out.C.toNat + (ch - 1).toNat) / (findS m op).Out.C.toNat = k := by rw [Nat.mul_comm, Nat.mul_add_div (by omega), Nat.div_eq_of_lt (by omega), Nat.add_zero]
    have e2 : (k * (findS m op).Out.C.toNat + (ch - 1).toNat) % (findS m op).Out.C.toNat = (ch - 1).toNat := by rw [Nat.mul_comm, Nat.mul_add_mod, Nat.mod_eq_of_lt (by omega)]
    have e3 : (((ch - 1).toNat : Nat) : Int) + 1 = ch := by omega
    have : (sumsF m op w.X).getD (k * (findS m op).Out.C.toNat + (ch - 1).toNat) default = oneSum m op w.X k (ch - 1).toNat := by
      unfold sumsF
      rw [List.getD_eq_getElem?_getD, List.getElem?_map, List.getElem?_range h1]
      simp only [Option.map_some, Option.getD_some, e1, e2]
    rw [this, oneSum, e3, H.biasE k hk, ← hop]
    exact hv
theorem witnessTotals (a : Ask23) (ha : a.Wf) : Ok Try.prog 11 [.agg (ask23C a)] (.bool true) := by
  obtain ⟨l, hl, hLo⟩ := witness_Low a.M ha.1 a.Op a.Ch a.S
  obtain ⟨u, hu, hHi⟩ := witness_High a.M ha.1 a.Op a.Ch a.S
  have hTo := bound_Total a.M ha.1 a.Op a.Ch a.S
  have hCh := terms_Channels a.M a.Op
  by_cases hz : askE a.M a.Op a.Ch a.S = 0
  · obtain ⟨L, p, W1⟩ := wit_tot hz hl
    obtain ⟨U, q, W2⟩ := wit_tot hz hu
    obtain ⟨_, _, f0⟩ := askE_zero hz
    rw [hz] at hLo hHi hTo
    rw [f0] at hCh
    obtain ⟨g1, g2⟩ := W1.at0
    obtain ⟨g3, g4⟩ := W2.at0
    have x1 := W1.ix
    have x2 := W2.ix
    have y1 := W1.lt
    have y2 := W2.lt
    have z1 := W1.get
    have z2 := W2.get
    --@@1
    skip
    refine fn_ok Tb_ok (fn := Try.f11) Try.func11 rfl rfl (e := [(0, _)]) rfl (by decide) rfl ?_
    refine zs ?_
    refine zR ?_
    refine zbx [.int _ _, .int _ _, .int _ _, .int _ _, .int _ _, _, .int _ _, .int _ _, .int _ _, .int _ _, .int _ _, .int _ _] 12 ?_
    refine zLB ?_
    refine zn ?_
    refine zs ?_
    refine zs ?_
    refine zR ?_
    refine zLc (law23_fixed) ?_
    refine zLB ?_
    refine zn ?_
    refine W_cond_f (b := _) rfl (by rfl) ?_
    refine zk ?_
    refine zs ?_
    refine zR ?_
    refine zLP ?_
    refine zLG [.int _ _, .int _ _, .int _ _, .int _ _, .int _ _, _, .int _ _] ?_
    refine zLP ?_
    refine zLI ?_
    refine zLP ?_
    refine zLI ?_
    refine zLP ?_
    refine zLG [.int _ _, .int _ _] ?_
    refine zLc (hLo) ?_
    refine zLT [_, _] ?_
    refine zLG [.int _ _, _] ?_
    refine zLI ?_
    refine zal [.int .i64 0, .nils] 2 ?_
    refine zst (.agg [.int _ _, _]) [_, _] [[_, _]] ?_
    refine zLI ?_
    refine zn ?_
    refine zs ?_
    refine zR ?_
    refine zLP ?_
    refine zLG [.int _ _, .int _ _, .int _ _, .int _ _, .int _ _, _, .int _ _] ?_
    refine zLP ?_
    refine zLI ?_
    refine zLP ?_
    refine zLI ?_
    refine zLP ?_
    refine zLG [.int _ _, .int _ _] ?_
    refine zLc (hHi) ?_
    refine zLT [_, _] ?_
    refine zLG [.int _ _, _] ?_
    refine zLI ?_
    refine zal [.int .i64 0, .nils] 2 ?_
    refine zst (.agg [.int _ _, _]) [_, _] [[_, _]] ?_
    refine zLI ?_
    refine zn ?_
    refine zs ?_
    refine zR ?_
    refine zLP ?_
    refine zLG [.int _ _, .int _ _, .int _ _, .int _ _, .int _ _, _, .int _ _] ?_
    refine zLP ?_
    refine zLI ?_
    refine zLP ?_
    refine zLI ?_
    refine zLP ?_
    refine zLG [.int _ _, .int _ _] ?_
    refine zLc (hTo) ?_
    refine zLT [_, _] ?_
    refine zLG [.int _ _, .int _ _] ?_
    refine zLI ?_
    refine zal [.int .i64 0, .int .i64 0] 2 ?_
    refine zst (.agg [.int _ _, .int _ _]) [_, _] [[_, _]] ?_
    refine zLI ?_
    refine zn ?_
    refine zs ?_
    refine zs ?_
    refine zR ?_
    refine zLI ?_
    refine zLB ?_
    refine zn ?_
    refine W_cond_f (b := _) rfl (by rfl) ?_
    refine zk ?_
    refine zs ?_
    refine zR ?_
    refine zLP ?_
    refine zLG [.int _ _, .int _ _, .int _ _, .int _ _, .int _ _, _, .int _ _] ?_
    refine zLP ?_
    refine zLI ?_
    refine zLP ?_
    refine zLO ?_
    refine zLc (W1.tot) ?_
    refine zLT [_, _] ?_
    refine zLO ?_
    refine zLI ?_
    refine zLO ?_
    refine zLI ?_
    refine zn ?_
    refine zs ?_
    refine zR ?_
    refine zLP ?_
    refine zLG [.int _ _, .int _ _, .int _ _, .int _ _, .int _ _, _, .int _ _] ?_
    refine zLP ?_
    refine zLI ?_
    refine zLP ?_
    refine zLO ?_
    refine zLc (W2.tot) ?_
    refine zLT [_, _] ?_
    refine zLO ?_
    refine zLI ?_
    refine zLO ?_
    refine zLI ?_
    refine zn ?_
    refine zs ?_
    refine zR ?_
    refine zLP ?_
    refine zLG [.int _ _, .int _ _, .int _ _, .int _ _, .int _ _, _, .int _ _] ?_
    refine zLP ?_
    refine zLI ?_
    refine zLc (hCh) ?_
    refine zLT [_, _] ?_
    refine zLI ?_
    refine zLI ?_
    refine zLI ?_
    refine zLI ?_
    refine zn ?_
    refine zs ?_
    refine zs ?_
    refine zR ?_
    refine zLI ?_
    refine zLB ?_
    refine zLB ?_
    refine zgLI ?_
    refine zgLB ?_
    refine zpLB ?_
    refine zLB ?_
    refine zgLI ?_
    refine zgLB ?_
    refine zpLB ?_
    refine zLB ?_
    refine zgLI ?_
    refine zgLB ?_
    refine zpLB ?_
    refine zLB ?_
    refine zgLI ?_
    refine zgLB ?_
    refine zpLB ?_
    refine zLB ?_
    refine zgLP ?_
    refine zgLI ?_
    refine zgLB ?_
    refine zpLB ?_
    refine zLB ?_
    refine zgLP ?_
    refine zgLI ?_
    refine zgLB ?_
    refine zpLB ?_
    refine zLB ?_
    refine zgLP ?_
    refine zgLI ?_
    refine zgLB ?_
    refine zpLB ?_
    refine zLB ?_
    refine zgLP ?_
    refine zgLI ?_
    refine zgLB ?_
    refine zpLB ?_
    refine zn ?_
    refine W_cond (b := _) rfl (fun h130 => ?_) (fun h130 => ?_)
    · exfalso
      have h' := h130
      simp at h'; omega
    · refine zk ?_
      refine zs ?_
      refine W_draw 18 Tb_mixed rfl (by decide) (by kernel_rfl) (by kernel_rfl) ?_
      refine zEP ?_
      refine zEI ?_
      refine zEI ?_
      refine zEI ?_
      refine zEP ?_
      refine zEI ?_
      refine zEI ?_
      refine zEI ?_
      refine zEP ?_
      refine zEI ?_
      refine zEI ?_
      refine zEI ?_
      refine zEP ?_
      refine zEI ?_
      refine zEI ?_
      refine zEI ?_
      simp only [x1, x2]
      refine zEI ?_
      refine zEI ?_
      refine LexE_nil ?_
      refine zn ?_
      refine zs ?_
      refine W_draw 37 Tb_mixed rfl (by decide) (by kernel_rfl) (by kernel_rfl) ?_
      refine zEI ?_
      refine zEO ?_
      refine zEI ?_
      refine zEB ?_
      refine zEB ?_
      refine zgEI ?_
      refine zgEO ?_
      refine zgEI ?_
      refine zgEB ?_
      refine zpEB ?_
      refine zEB ?_
      refine zgEI ?_
      refine zgEB ?_
      refine zpEB ?_
      refine zEB ?_
      refine zgEI ?_
      refine zgEB ?_
      refine zpEB ?_
      refine zEB ?_
      refine zgEO ?_
      refine zgEI ?_
      (refine E_g Tb_ok (v := _) rfl rfl ((fun hg => (ave_index_ro rfl rfl rfl (fun _ => rfl) rfl (by first | omega | assumption | decide | (simp_all; done) | (simp_all; omega)) (by first | omega | assumption | decide | (simp_all; done) | (simp_all; omega)) ⟨⟨(by first | exact hg | (simp_all; done) | (simp at hg ⊢; simp [hg])), True.intro⟩, ⟨⟨(by first | exact hg | (simp_all; done) | (simp at hg ⊢; simp [hg])), True.intro⟩, True.intro⟩⟩))) rfl rfl ?_)
      refine zgEI ?_
      refine zgEP ?_
      refine zgEI ?_
      refine zgEB ?_
      refine zpEB ?_
      refine zEB ?_
      refine zgEO ?_
      refine zgEI ?_
      (refine E_g Tb_ok (v := _) rfl rfl ((fun hg => (ave_index_ro rfl rfl rfl (fun _ => rfl) rfl (by first | omega | assumption | decide | (simp_all; done) | (simp_all; omega)) (by first | omega | assumption | decide | (simp_all; done) | (simp_all; omega)) ⟨⟨(by first | exact hg | (simp_all; done) | (simp at hg ⊢; simp [hg])), True.intro⟩, ⟨⟨(by first | exact hg | (simp_all; done) | (simp at hg ⊢; simp [hg])), True.intro⟩, True.intro⟩⟩))) rfl rfl ?_)
      refine zgEI ?_
      refine zgEP ?_
      refine zgEI ?_
      refine zgEB ?_
      refine zpEB ?_
      refine zEB ?_
      refine LexE_nil ?_
      refine zn ?_
      refine zt ?_
      refine ends (l := [.bool _]) (q := .bool _) (.inr rfl) rfl ⟨trivial, trivial⟩ rfl rfl ?_
      rw [Int.toNat_natCast, Int.toNat_natCast, z1, z2, decide_eq_true (show (p : Int) < ((L.map intC).length : Int) by rw [List.length_map]; omega), decide_eq_true (show (q : Int) < ((U.map intC).length : Int) by rw [List.length_map]; omega), decide_eq_true (show (p : Int) ≥ 0 by omega), decide_eq_true (show (q : Int) ≥ 0 by omega)]
      simp [endQ]
  · have hc56 : (askE a.M a.Op a.Ch a.S != 0) = true := by simp [hz]
    --@@2
    skip
    refine fn_ok Tb_ok (fn := Try.f11) Try.func11 rfl rfl (e := [(0, _)]) rfl (by decide) rfl ?_
    refine zs ?_
    refine zR ?_
    refine zbx [.int _ _, .int _ _, .int _ _, .int _ _, .int _ _, _, .int _ _, .int _ _, .int _ _, .int _ _, .int _ _, .int _ _] 12 ?_
    refine zLB ?_
    refine zn ?_
    refine zs ?_
    refine zs ?_
    refine zR ?_
    refine zLc (law23_fixed) ?_
    refine zLB ?_
    refine zn ?_
    refine W_cond_f (b := _) rfl (by rfl) ?_
    refine zk ?_
    refine zs ?_
    refine zR ?_
    refine zLP ?_
    refine zLG [.int _ _, .int _ _, .int _ _, .int _ _, .int _ _, _, .int _ _] ?_
    refine zLP ?_
    refine zLI ?_
    refine zLP ?_
    refine zLI ?_
    refine zLP ?_
    refine zLG [.int _ _, .int _ _] ?_
    refine zLc (hLo) ?_
    refine zLT [_, _] ?_
    refine zLG [.int _ _, _] ?_
    refine zLI ?_
    refine zal [.int .i64 0, .nils] 2 ?_
    refine zst (.agg [.int _ _, _]) [_, _] [[_, _]] ?_
    refine zLI ?_
    refine zn ?_
    refine zs ?_
    refine zR ?_
    refine zLP ?_
    refine zLG [.int _ _, .int _ _, .int _ _, .int _ _, .int _ _, _, .int _ _] ?_
    refine zLP ?_
    refine zLI ?_
    refine zLP ?_
    refine zLI ?_
    refine zLP ?_
    refine zLG [.int _ _, .int _ _] ?_
    refine zLc (hHi) ?_
    refine zLT [_, _] ?_
    refine zLG [.int _ _, _] ?_
    refine zLI ?_
    refine zal [.int .i64 0, .nils] 2 ?_
    refine zst (.agg [.int _ _, _]) [_, _] [[_, _]] ?_
    refine zLI ?_
    refine zn ?_
    refine zs ?_
    refine zR ?_
    refine zLP ?_
    refine zLG [.int _ _, .int _ _, .int _ _, .int _ _, .int _ _, _, .int _ _] ?_
    refine zLP ?_
    refine zLI ?_
    refine zLP ?_
    refine zLI ?_
    refine zLP ?_
    refine zLG [.int _ _, .int _ _] ?_
    refine zLc (hTo) ?_
    refine zLT [_, _] ?_
    refine zLG [.int _ _, .int _ _] ?_
    refine zLI ?_
    refine zal [.int .i64 0, .int .i64 0] 2 ?_
    refine zst (.agg [.int _ _, .int _ _]) [_, _] [[_, _]] ?_
    refine zLI ?_
    refine zn ?_
    refine zs ?_
    refine zs ?_
    refine zR ?_
    refine zLI ?_
    refine zLB ?_
    refine zn ?_
    refine W_cond_t (b := _) rfl (by exact hc56) ?_
    refine zs ?_
    refine zR ?_
    refine zLI ?_
    refine zLI ?_
    refine zLB ?_
    refine zLB ?_
    refine zgLI ?_
    refine zgLI ?_
    refine zgLB ?_
    refine zpLB ?_
    refine zLB ?_
    refine zn ?_
    refine zt ?_
    refine ends (l := [.bool _]) (q := .bool _) (.inr rfl) rfl ⟨trivial, trivial⟩ rfl rfl ?_
    simp
end Go.AM
end
section
namespace Go.Proofs.Ytkcigpfdlplbdaa.witnessTotals
open Go.ChangeShapes Go.WideShapes Go.ChangeAt Go.RowKit
open Go.ChangeMaps (open_string shut_string)
set_option linter.unusedVariables false
theorem own : ownKnob Try.prog.godebug = none := by kernel_rfl
theorem laidOut : laidOutB Try.prog = true := by kernel_rfl
set_option maxRecDepth 100000 in
theorem lifted (os : Os) (started : os.Started) (H : Type) (enc : TypeId × Value → H) :
    ReturnsInHanded {} Try.checked os 11 .any (Rows.witnessTotalsSpec.pre6 enc Try.prog Try.f11 Rows.witnessTotalsRow.domain false) (Rows.witnessTotalsSpec.post enc Try.prog Try.f11 false true false false) := by
  refine returnsInHanded_of_change_sized (C := Try.checked) own started (by kernel_rfl) Try.func11
    (ChangeSpec.witness6 (enc := enc) (C := Try.checked) false ⟨#[], #[.agg #[.int .i64 0, .int .i64 0, .int .i64 0, .int .i64 0, .int .i64 0, .slice none 0 0, .int .i64 0, .int .i64 0, .int .i64 0, .int .i64 0, .int .i64 0, .int .i64 0]], []⟩ 8 (by kernel_rfl) (by kernel_rfl) (by kernel_rfl) (by kernel_rfl)) ?_
  intro W base args ds gs before hval0 hW hcnd hsz0 _
  have hsz : (DataW.weightsEach Try.prog (Try.f11.params.toList ++ Rows.witnessTotalsSpec.plain.varTypes Try.prog) (ds ++ gs)).all (· ≤ reachBytes) = true := hsz0
  have hval : ∀ (j : Nat) t v, Try.f11.params[j]? = some t → args[j]? = some v → Value.okWide Try.prog W .any base t v := hval0
  have hW' := hW
  obtain ⟨p, q, hA0, hV, rfl, hfz, hnd⟩ := hW
  have hA : DataW.TrodAll enc Try.prog W 0 (fun _ => true) true Try.f11.params.toList args.toList ds p := hA0
  rw [Try.params11] at hA hval hsz
  obtain ⟨v0, vs0, d0, ds0, p0, q0, hargs, rfl, rfl, h0, r0⟩ := trodAll_cons hA
  obtain ⟨rfl, rfl, rfl⟩ := trodAll_nil r0
  obtain rfl : args = #[v0] := by cases args; simp_all
  obtain ⟨rfl, rfl⟩ := trodVars_none hV
  have k0 := h0
  have lt0 : ∀ x ∈ p0, x.block < W.heap.size := by obtain ⟨m, hm⟩ := k0; exact DataW.trod_lt m _ _ _ hm
  obtain ⟨y0, K0, w0⟩ := Go.AM.Opn.arg Go.AM.arg0 h0 (j := 0) (t := 30) hsz rfl rfl
  have R0 := Go.AM.arg_agg Try.underlying30 (hval 0 30 v0 rfl rfl) K0
  clear hA0 hval0 hsz0 hsz
  refine (Go.AM.Ok.law (Go.AM.witnessTotals y0 w0) (Go.AM.rel1 R0)).mono fun e W' ⟨he, bel⟩ => ?_
  subst he
  exact ⟨_, rfl, _, _, _, [], _, [], hW', trodAll_mk1 (shut_bool Try.underlying4 _), (trodAll_cons_mk (Below.trod laidOut (by kernel_rfl) (of_decide_eq_true (by kernel_rfl)) k0 bel lt0) trodAll_mk0), rfl, bel.frame _, fun h => by cases h⟩
theorem over : Rows.witnessTotalsRow.holds Try.pinned (OpenSpec.ofChange Rows.witnessTotalsSpec) :=
  OpenClaim.holds_of_wide 11 Try.f11 rfl rfl rfl rfl rfl rfl rfl ⟨rfl, rfl, rfl, rfl, rfl⟩ rfl rfl rfl rfl rfl (by kernel_rfl) Try.func11 (by kernel_rfl)
    (of_decide_eq_true (by kernel_rfl)) (by unfold Func.isWrapper; first | (rw [if_pos (by decide +kernel)]; kernel_rfl) | (rw [if_neg (by decide +kernel)]; exact ⟨rfl, rfl⟩))
    (fun os started H enc _ => lifted os started H enc)
theorem proved : Rows.WitnessTotalsSaid := over
end Go.Proofs.Ytkcigpfdlplbdaa.witnessTotals
namespace Go.Proofs.Ytkcigpfdlplbdaa
/-- The row, under a short name, for the claim. -/
theorem witnessTotals_holds : Rows.WitnessTotalsSaid := witnessTotals.proved
end Go.Proofs.Ytkcigpfdlplbdaa
end
