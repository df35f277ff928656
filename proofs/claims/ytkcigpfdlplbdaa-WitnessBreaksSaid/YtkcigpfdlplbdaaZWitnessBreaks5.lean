/- The law WitnessBreaks answers true, whatever its arguments: part 6 of 6 of its proof. -/
import Derived.Test.YtkcigpfdlplbdaaRows
import Derived.WalkKit
import Derived.Test.YtkcigpfdlplbdaaZWitnessBreaks4
section
namespace Go.AM
open Go.RowKit
set_option linter.unusedVariables false
set_option linter.unusedSimpArgs false
section
variable {P : Program} {T : Tab} {nt lo : Nat} {ops : Array Oper} {O : Objs} {K : Toks} {nx : Nat} {Q : Exit → St → Prop} {e : Env} {rest : List Oper} {ty : TypeId} {pos : String} {after : Array Edge} {v : AV} {d : Nat}
theorem L_load_at (hT : Tab.Ok P T) {α : Type} [Inhabited α] {f : α → List AV} {xs : List α} (q : Nat) {t : Nat} {x : Operand} {id i j : Nat} (hx : strip (ev e x) = .ptr id i j) {oty osz ofz : Nat} (hob : lk O id = some ⟨oty, osz, ofz, xs.map f⟩) (hq : i = q) (hi : q < xs.length)
    (hkn : (T.at t).kind.known = true) (hc : loadc (T.at t) (osz - j) = true) (hs : sgs [ev e x]) (hv : loadv (T.at t) ((f (xs.getD q default)).drop j) = v) (hd : Nat.blt d nt = true) (hn : WL P nt lo ops rest ⟨(d, v) :: e, O, K, nx⟩ Q) : WL P nt lo ops (⟨some d, .load t x, ty, pos, after, none⟩ :: rest) ⟨e, O, K, nx⟩ Q := by
  subst hq; subst hv
  exact L_v hT (ave_load_row hx hob hkn hc hi hs) hd hn
theorem L_store_at (hT : Tab.Ok P T) {α : Type} [Inhabited α] {f : α → List AV} {xs : List α} (q : Nat) (v' : α) {t : Nat} {x y : Operand} {id i j : Nat} (hx : strip (ev e x) = .ptr id i j) {oty osz ofz : Nat} (hob : lk O id = some ⟨oty, osz, ofz, xs.map f⟩) (hq : i = q) (hi : q < xs.length) (hv : strip (ev e y) = v) {cs : List AV} (hcs : v.cells = cs) (hp : v.plain = true) (hone : cs.all AV.one = true)
    (hes : (f (xs.getD q default)).take j ++ cs ++ (f (xs.getD q default)).drop (j + cs.length) = f v') (hk : (Nat.beq (T.at t).size cs.length && !(Nat.beq cs.length 0) && Nat.ble (j + cs.length) osz) = true) (hf : Nat.ble ofz i = true) (hs : sg (ev e x) ∧ sg (ev e y))
    (hn : WL P nt lo ops rest ⟨e, (id, some ⟨oty, osz, ofz, (xs.set q v').map f⟩) :: O, K, nx⟩ Q) : WL P nt lo ops (⟨none, .store t x y, ty, pos, after, none⟩ :: rest) ⟨e, O, K, nx⟩ Q := by
  subst hq
  exact L_store_row hT hx hob hv hcs hp hone hes hk hi hf hs hn
theorem map_dem {α : Type} {f : α → List AV} (hf : ∀ x, (f x).map demC = f x) (xs : List α) : (xs.map f).map (·.map demC) = xs.map f := by
  rw [List.map_map]; exact List.map_congr_left (fun x _ => hf x)
theorem map_gr {α : Type} {f : α → List AV} (hg : ∀ x, (f x).all grC = true) (xs : List α) : (xs.map f).all (fun c => c.all grC) = true := by
  rw [List.all_eq_true]; intro c hc; obtain ⟨x, _, rfl⟩ := List.mem_map.1 hc; exact hg x
theorem L_give {α : Type} {f : α → List AV} {xs : List α} {l0 : List Oper} (t : Nat) {id n oty osz ofz : Nat} (hg : get e t = .row id 0 n) (hob : lk O id = some ⟨oty, osz, ofz, xs.map f⟩) (hn : n = xs.length) (hfz : Nat.ble ofz n = true) (hsz : Nat.blt 0 osz = true) (hf : ∀ x, (f x).map demC = f x) (hgr : ∀ x, (f x).all grC = true)
    (h : WL P nt lo ops l0 ⟨(t, .ro (xs.map f)) :: e, (id, none) :: O, K, nx + 1⟩ Q) : WL P nt lo ops l0 ⟨e, O, K, nx⟩ Q :=
  L_freeze hg hob (by rw [hn]; simp) hfz hsz (map_dem hf xs) (map_gr hgr xs) h
theorem W_give {α : Type} {f : α → List AV} {xs : List α} {c : Code} (t : Nat) {id n oty osz ofz : Nat} (hg : get e t = .row id 0 n) (hob : lk O id = some ⟨oty, osz, ofz, xs.map f⟩) (hn : n = xs.length) (hfz : Nat.ble ofz n = true) (hsz : Nat.blt 0 osz = true) (hf : ∀ x, (f x).map demC = f x) (hgr : ∀ x, (f x).all grC = true)
    (h : W P nt lo c ⟨(t, .ro (xs.map f)) :: e, (id, none) :: O, K, nx + 1⟩ Q) : W P nt lo c ⟨e, O, K, nx⟩ Q :=
  W.of_le (le_freeze hg hob (by rw [hn]; simp) hfz hsz (map_dem hf xs) (map_gr hgr xs)) h
theorem L_slice_map (hT : Tab.Ok P T) {α : Type} {f : α → List AV} {xs : List α} (a c : Nat) {t el sz : Nat} {x y z : Operand} {ky kz : IntKind} {p q : Int} (hx : strip (ev e x) = .ro (xs.map f)) (hy : strip (ev e y) = .int ky p) (hz : strip (ev e z) = .int kz q)
    (hk : (T.at t).kind = .slice el) (hsz : (T.at el).size = sz) (hpos : Nat.blt 0 sz = true) (hl : ∀ x, (f x).length = sz) (ha : p = (a : Int)) (hc : q = (c : Int)) (h1 : a ≤ c) (h2 : c ≤ xs.length) (hs : sg (ev e x) ∧ sg (ev e y) ∧ sg (ev e z)) (hd : Nat.blt d nt = true)
    (hn : WL P nt lo ops rest ⟨(d, .ro (((xs.drop a).take (c - a)).map f)) :: e, O, K, nx⟩ Q) : WL P nt lo ops (⟨some d, .slice t x (some y) (some z) none, ty, pos, after, none⟩ :: rest) ⟨e, O, K, nx⟩ Q := by
  subst ha hc
  refine L_slice hT hx hy hz hk hsz hpos (fun c hc => by obtain ⟨x, _, rfl⟩ := List.mem_map.1 hc; exact hl x) (by omega) (by omega) (by rw [List.length_map]; omega) hs hd ?_
  rw [Int.toNat_natCast, Int.toNat_natCast, ← List.map_drop, ← List.map_take]
  exact hn
theorem L_slice_mapto (hT : Tab.Ok P T) {α : Type} {f : α → List AV} {xs : List α} (c : Nat) {t el sz : Nat} {x z : Operand} {kz : IntKind} {q : Int} (hx : strip (ev e x) = .ro (xs.map f)) (hz : strip (ev e z) = .int kz q)
    (hk : (T.at t).kind = .slice el) (hsz : (T.at el).size = sz) (hpos : Nat.blt 0 sz = true) (hl : ∀ x, (f x).length = sz) (hc : q = (c : Int)) (h2 : c ≤ xs.length) (hs : sg (ev e x) ∧ sg (ev e z)) (hd : Nat.blt d nt = true)
    (hn : WL P nt lo ops rest ⟨(d, .ro ((xs.take c).map f)) :: e, O, K, nx⟩ Q) : WL P nt lo ops (⟨some d, .slice t x none (some z) none, ty, pos, after, none⟩ :: rest) ⟨e, O, K, nx⟩ Q := by
  subst hc
  refine L_slice_to hT hx hz hk hsz hpos (fun c hc => by obtain ⟨x, _, rfl⟩ := List.mem_map.1 hc; exact hl x) (by omega) (by rw [List.length_map]; omega) hs hd ?_
  rw [Int.toNat_natCast, ← List.map_take]
  exact hn
theorem L_slice_mapfrom (hT : Tab.Ok P T) {α : Type} {f : α → List AV} {xs : List α} (a : Nat) {t el sz : Nat} {x y : Operand} {ky : IntKind} {p : Int} (hx : strip (ev e x) = .ro (xs.map f)) (hy : strip (ev e y) = .int ky p)
    (hk : (T.at t).kind = .slice el) (hsz : (T.at el).size = sz) (hpos : Nat.blt 0 sz = true) (hl : ∀ x, (f x).length = sz) (ha : p = (a : Int)) (h2 : a ≤ xs.length) (hs : sg (ev e x) ∧ sg (ev e y)) (hd : Nat.blt d nt = true)
    (hn : WL P nt lo ops rest ⟨(d, .ro ((xs.drop a).map f)) :: e, O, K, nx⟩ Q) : WL P nt lo ops (⟨some d, .slice t x (some y) none none, ty, pos, after, none⟩ :: rest) ⟨e, O, K, nx⟩ Q := by
  subst ha
  refine L_slice_from hT hx hy hk hsz hpos (fun c hc => by obtain ⟨x, _, rfl⟩ := List.mem_map.1 hc; exact hl x) (by omega) (by rw [List.length_map]; omega) hs hd ?_
  rw [Int.toNat_natCast, ← List.map_drop]
  exact hn
end
end Go.AM
end
section
open Go Go.AM Go.Proofs
set_option maxRecDepth 10000
set_option linter.unusedVariables false
set_option linter.unusedSimpArgs false
namespace Go.AM
def upC (up : Bool) (w : Int) : Bool := decide (w > 0) == up
theorem i8w {x : Int} (h : -128 ≤ x ∧ x ≤ 127) : IntKind.i8.wrap x = x := by simp [IntKind.wrap, IntKind.bits, IntKind.signed]; split <;> omega
def elemsW (s : Shape) : Int := s.H * s.W * s.C
theorem elems_inW {s : Shape} (h : shapeB s = true) : w64 (w64 (s.H * s.W) * s.C) = elemsW s ∧ 0 ≤ elemsW s ∧ elemsW s ≤ 16384 := by
  have B := shapeB_iff.1 h
  have c0 : 0 ≤ s.H * s.W := Int.mul_nonneg (by omega) (by omega)
  have c1 : s.H * s.W ≤ 1024 * 1024 := Int.mul_le_mul B.1.2 B.2.1.2 (by omega) (by omega)
  have c2 : 0 ≤ s.H * s.W * s.C := Int.mul_nonneg c0 (by omega)
  unfold elemsW
  rw [show w64 (s.H * s.W) = _ from w64_id (by omega)]
  exact ⟨w64_id (by omega), c2, by omega⟩
theorem witness_numbers (T : List Term) (s : Span) (M : Nat) (up : Bool) (hs : -128 ≤ s.Lo ∧ s.Lo ≤ s.Hi ∧ s.Hi ≤ 127) (hM : M ≤ 16384) (hT : T.length ≤ 512) (hat : ∀ t ∈ T, t.At < (M : Int)) :
    Ok Try.prog 53 [.ro (T.map termC), .agg (spanC s), .int .i64 (M : Int), .bool up] (.ro ((rowT (upC up) s.Lo s.Hi M T).map i8C)) := by
  have mk1 : (0 : Int) ≤ (M : Int) := by omega
  have mk3 : ((Tb.at 60).bytes : Int) * (M : Int) ≤ 281474976710656 := by rw [show (Tb.at 60).bytes = 1 from rfl]; omega
  have wl : IntKind.i8.wrap s.Lo = s.Lo := i8w (by omega)
  have wh : IntKind.i8.wrap s.Hi = s.Hi := i8w (by omega)
  have hR := rowT_len (upC up) s.Lo s.Hi M
  --@@1
  skip
  refine fn_ok Tb_ok (fn := Try.f53) Try.func53 rfl rfl (e := [(0, _), (1, _), (2, _), (3, _)]) rfl (by decide) rfl ?_
  refine zs ?_
  refine zR ?_
  refine zbx [.int _ _, .int _ _] 2 ?_
  refine zLN ?_
  refine zn ?_
  refine zs ?_
  refine zR ?_
  refine zLI ?_
  refine L_make Tb_ok (el := 60) (sz := 1) (z := [.int .i8 0]) rfl rfl rfl rfl rfl rfl rfl rfl ⟨trivial, trivial⟩ (by omega) (by omega) rfl ?_
  refine zLW ?_
  refine zn ?_
  refine zs ?_
  refine zs ?_
  refine zR ?_
  refine zLW ?_
  refine zLI ?_
  refine zLI ?_
  refine zn ?_
  refine W_block ?_
  refine W_forE (M) [(0, .ro _), (3, .bool _), (5, .ptr 0 0 0), (9, .row 1 0 _), (16, .int _ _)] (fun (i : Nat) => [(17, .int .i64 (i : Int))]) [(0, some ⟨_, _, _, _⟩)] (fun (i : Nat) => [(1, some ⟨60, 1, 0, (fillL s.Lo M i).map i8C⟩)]) [] (fun (i : Nat) => []) 2 (le_fit (sub_cat ⟨rfl, trivial⟩ ⟨rfl, rfl, rfl, rfl, rfl, trivial⟩) (subO_cat ⟨.inr (by show some (Ob.mk 60 1 0 (List.replicate (((M : Nat) : Int)).toNat [AV.int .i8 0])) = _; rw [Int.toNat_natCast]; simp [fillL, i8C]), trivial⟩ ⟨.inr rfl, trivial⟩) (subK_cat trivial trivial) rfl rfl rfl (by simp [ltOB, i8C, AV.lt, spanC]) rfl) ?_
  intro i hi
  refine W.of_le (s' := ⟨[(17, .int .i64 (i : Int)), (0, .ro _), (3, .bool _), (5, .ptr 0 0 0), (9, .row 1 0 _), (16, .int _ _)], [(1, some ⟨60, 1, 0, (fillL s.Lo M i).map i8C⟩), (0, some ⟨_, _, _, _⟩)], [], 2⟩) (le_fit ⟨rfl, rfl, rfl, rfl, rfl, rfl, trivial⟩ ⟨.inr rfl, .inr rfl, trivial⟩ trivial rfl rfl rfl (by simp [ltOB, i8C, AV.lt, spanC]) rfl) ?_
  refine zs ?_
  refine zR ?_
  refine zLB ?_
  refine zn ?_
  refine zs ?_
  refine W_cond (b := _) rfl (fun h18 => ?_) (fun h18 => ?_)
  · have hit : i < M := by (have := of_decide_eq_true h18; omega)
    refine zk ?_
    refine zs ?_
    refine W_block ?_
    refine zs ?_
    refine zR ?_
    refine zLI ?_
    refine zLI ?_
    refine zn ?_
    refine zR ?_
    refine zLW ?_
    refine zLI ?_
    refine zLP ?_
    refine zLI ?_
    refine zLI ?_
    (refine L_v Tb_ok (v := _) (ave_index_row rfl rfl rfl rfl rfl rfl (by first | omega | assumption | decide | (simp_all; done) | (simp_all; omega)) (by first | omega | assumption | decide | (simp_all; done) | (simp_all; omega)) trivial) rfl ?_)
    refine L_store_at Tb_ok (f := i8C) (xs := fillL s.Lo M i) (i) (s.Lo) rfl rfl (by simp) (by rw [fillL_len (by omega)]; omega) rfl rfl rfl rfl (by show [AV.int .i8 _] = [AV.int .i8 _]; rw [wl]) rfl rfl ⟨trivial, trivial⟩ ?_
    refine zn ?_
    refine zR ?_
    refine zLI ?_
    refine zLI ?_
    refine zn ?_
    refine for_end hit (le_fit (sub_cat ⟨congrArg _ (w_succ hit (by omega)), trivial⟩ ⟨rfl, rfl, rfl, rfl, rfl, trivial⟩) (subO_cat ⟨.inr (by rw [← fillL_set hit]; rfl), trivial⟩ ⟨.inr rfl, trivial⟩) (subK_cat trivial trivial) rfl rfl rfl (by simp [ltOB, i8C, AV.lt, spanC]) rfl)
  · have hie : i = M := by (have := of_decide_eq_false h18; omega)
    refine W_exit ?_
    repeat (first | refine pass_then ?_ | refine pass_for ?_)
    refine blockQ_hit ?_
    refine zs ?_
    refine zs ?_
    refine zR ?_
    refine zLO ?_
    refine zLI ?_
    refine zLI ?_
    refine zn ?_
    refine W_block ?_
    -- slot 37 changes in the loop: hint wanted
    -- slot 38 changes in the loop: hint wanted
    -- slot 39 changes in the loop: hint wanted
    -- slot 40 changes in the loop: hint wanted
    -- slot 41 changes in the loop: hint wanted
    refine W_forE (T.length) [(3, .bool _), (5, .ptr 0 0 0), (9, .row 1 0 _), (27, .ro _), (28, .int _ _)] (fun (j : Nat) => [(29, .int .i64 (j : Int))]) [(0, some ⟨_, _, _, _⟩)] (fun (j : Nat) => [(1, some ⟨60, 1, 0, (rowT (upC up) s.Lo s.Hi M (T.take j)).map i8C⟩)]) [] (fun (j : Nat) => []) 2 (le_fit (sub_cat ⟨rfl, trivial⟩ ⟨rfl, rfl, rfl, rfl, rfl, trivial⟩) (subO_cat ⟨.inr (by show some (Ob.mk 60 1 0 ((fillL s.Lo M i).map i8C)) = _; rw [hie]; simp [fillL, rowT]), trivial⟩ ⟨.inr rfl, trivial⟩) (subK_cat trivial trivial) rfl rfl rfl (by simp [ltOB, i8C, AV.lt, spanC]) rfl) ?_
    intro j hj
    refine W.of_le (s' := ⟨[(29, .int .i64 (j : Int)), (3, .bool _), (5, .ptr 0 0 0), (9, .row 1 0 _), (27, .ro _), (28, .int _ _)], [(1, some ⟨60, 1, 0, (rowT (upC up) s.Lo s.Hi M (T.take j)).map i8C⟩), (0, some ⟨_, _, _, _⟩)], [], 2⟩) (le_fit ⟨rfl, rfl, rfl, rfl, rfl, rfl, trivial⟩ ⟨.inr rfl, .inr rfl, trivial⟩ trivial rfl rfl rfl (by simp [ltOB, i8C, AV.lt, spanC]) rfl) ?_
    refine zs ?_
    refine zR ?_
    refine zLB ?_
    refine zn ?_
    refine zs ?_
    refine W_cond (b := _) rfl (fun h30 => ?_) (fun h30 => ?_)
    · have hjt : j < T.length := by (have := of_decide_eq_true h30; simp only [List.length_map, List.length_take, List.length_drop] at this; omega)
      have hm := hat (T.getD j default) (by rw [List.getD_eq_getElem?_getD, List.getElem?_eq_getElem hjt]; exact List.getElem_mem hjt)
      have hsu := rowT_succ (upC up) s.Lo s.Hi M hjt
      have hl := hR (T.take j)
      refine zk ?_
      refine zs ?_
      refine W_block ?_
      refine zs ?_
      refine zR ?_
      (refine L_v Tb_ok (v := _) (ave_index_ro rfl rfl rfl (fun _ => rfl) rfl (by first | omega | assumption | decide | (simp_all; done) | (simp_all; omega)) (by first | omega | assumption | decide | (simp_all; done) | (simp_all; omega)) trivial) rfl ?_)
      refine zLG [.int _ _, .int _ _] ?_
      refine zal [.int .i64 0, .int .i64 0] 2 ?_
      refine zst (.agg [.int _ _, .int _ _]) [_, _] [[_, _]] ?_
      refine zn ?_
      refine zs ?_
      refine zR ?_
      refine zLP ?_
      refine zLI ?_
      refine zLB ?_
      refine zLB ?_
      refine zgLP ?_
      refine zgLI ?_
      refine zgLB ?_
      refine zgLB ?_
      refine zgLB ?_
      refine zpLB ?_
      refine zn ?_
      refine W_cond (b := _) rfl (fun h42 => ?_) (fun h42 => ?_)
      · have hp : (0 ≤ (T.getD j default).At ∧ (T.getD j default).At < ((rowT (upC up) s.Lo s.Hi M (T.take j)).length : Int)) ∧ upC up (T.getD j default).W = true := by
          rw [hl]
          have h' : (bif decide ((T.getD j default).At ≥ 0) then decide ((T.getD j default).W > 0) == up else false) = true := h42
          by_cases c : (T.getD j default).At ≥ 0
          · refine ⟨⟨c, hm⟩, ?_⟩
            rw [decide_eq_true c] at h'; exact h'
          · rw [decide_eq_false c] at h'; cases h'
        have hp1 := hp.1.1
        refine zR ?_
        refine zLW ?_
        refine zLP ?_
        refine zLI ?_
        refine zLP ?_
        refine zLI ?_
        refine zLI ?_
        simp only [Int.toNat_natCast]
        (refine L_v Tb_ok (v := _) (ave_index_row rfl rfl rfl rfl rfl rfl (by first | exact hp.1.1 | omega) (by first | exact hp.1.1 | omega) trivial) rfl ?_)
        refine L_store_at Tb_ok (f := i8C) (xs := rowT (upC up) s.Lo s.Hi M (T.take j)) ((T.getD j default).At.toNat) (s.Hi) rfl rfl (by simp) (by rw [hl]; omega) rfl rfl rfl rfl (by show [AV.int .i8 _] = [AV.int .i8 _]; rw [wh]) rfl rfl ⟨trivial, trivial⟩ ?_
        refine zn ?_
        refine zR ?_
        refine zLI ?_
        refine zLI ?_
        refine zn ?_
        refine for_end hjt (le_fit (sub_cat ⟨congrArg _ (w_succ hjt (by omega)), trivial⟩ ⟨rfl, rfl, rfl, rfl, rfl, trivial⟩) (subO_cat ⟨.inr (by rw [hsu]; unfold setT; (rw [if_pos hp]; rfl)), trivial⟩ ⟨.inr rfl, trivial⟩) (subK_cat trivial trivial) rfl rfl rfl (by simp [ltOB, i8C, AV.lt, spanC]) rfl)
      · have hp : ¬ ((0 ≤ (T.getD j default).At ∧ (T.getD j default).At < ((rowT (upC up) s.Lo s.Hi M (T.take j)).length : Int)) ∧ upC up (T.getD j default).W = true) := fun q => by
          have h' : (bif decide ((T.getD j default).At ≥ 0) then decide ((T.getD j default).W > 0) == up else false) = false := h42
          rw [decide_eq_true (show (T.getD j default).At ≥ 0 from q.1.1)] at h'
          have h2 : upC up (T.getD j default).W = false := h'
          rw [q.2] at h2; cases h2
        refine zk ?_
        refine zR ?_
        refine zLI ?_
        refine zLI ?_
        refine zn ?_
        refine for_end hjt (le_fit (sub_cat ⟨congrArg _ (w_succ hjt (by omega)), trivial⟩ ⟨rfl, rfl, rfl, rfl, rfl, trivial⟩) (subO_cat ⟨.inr (by rw [hsu]; unfold setT; (rw [if_neg hp]; rfl)), trivial⟩ ⟨.inr rfl, trivial⟩) (subK_cat trivial trivial) rfl rfl rfl (by simp [ltOB, i8C, AV.lt, spanC]) rfl)
    · have hje : j = T.length := by (have := of_decide_eq_false h30; simp only [List.length_map, List.length_take, List.length_drop] at this; omega)
      refine W_exit ?_
      repeat (first | refine pass_then ?_ | refine pass_for ?_)
      refine blockQ_hit ?_
      refine zs ?_
      refine zR ?_
      refine L_give (f := i8C) (xs := rowT (upC up) s.Lo s.Hi M (T.take j)) 9 rfl rfl (by rw [hR]; exact Int.toNat_natCast M) rfl rfl (fun _ => rfl) (fun _ => rfl) ?_
      refine zLO ?_
      refine zLO ?_
      refine zn ?_
      refine zt ?_
      (refine ends (l := [.ro _]) (q := .ro _) (.inr rfl) rfl ⟨trivial, trivial⟩ rfl rfl ?_)
      rw [hje, List.take_length]
/-- what the terms make of numbers -/
theorem witness_sum (T : List Term) (x : List Int) (pad : Int) (hT : T.length ≤ 512) (hat : ∀ t ∈ T, t.At < (x.length : Int)) :
    Ok Try.prog 54 [.ro (T.map termC), .ro (x.map i8C), .int .i64 pad] (.int .i64 (sumT 0 T x pad)) := by
  --@@2
  skip
  refine fn_ok Tb_ok (fn := Try.f54) Try.func54 rfl rfl (e := [(0, _), (1, _), (2, _)]) rfl (by decide) rfl ?_
  refine zs ?_
  refine zR ?_
  refine zLI ?_
  refine zn ?_
  refine zs ?_
  refine zR ?_
  refine zLI ?_
  refine zn ?_
  refine zs ?_
  refine zs ?_
  refine zR ?_
  refine zLO ?_
  refine zLI ?_
  refine zLI ?_
  refine zn ?_
  refine W_block ?_
  refine W_forE (T.length) [(1, .ro _), (2, .int _ _), (10, .ro _), (11, .int _ _)] (fun (j : Nat) => [(12, .int .i64 (j : Int)), (7, .int .i64 (sumT 0 (T.take j) x pad))]) [] (fun (j : Nat) => []) [] (fun (j : Nat) => []) 0 (le_fit (sub_cat ⟨rfl, rfl, trivial⟩ ⟨rfl, rfl, rfl, rfl, trivial⟩) (subO_cat trivial trivial) (subK_cat trivial trivial) rfl rfl rfl (by rfl) rfl) ?_
  intro j hj
  refine W.of_le (s' := ⟨[(12, .int .i64 (j : Int)), (7, .int .i64 (sumT 0 (T.take j) x pad)), (1, .ro _), (2, .int _ _), (10, .ro _), (11, .int _ _)], [], [], 0⟩) (le_fit ⟨rfl, rfl, rfl, rfl, rfl, rfl, trivial⟩ trivial trivial rfl rfl rfl (by rfl) rfl) ?_
  refine zs ?_
  refine zR ?_
  refine zLB ?_
  refine zn ?_
  refine zs ?_
  refine W_cond (b := _) rfl (fun h13 => ?_) (fun h13 => ?_)
  · have hjt : j < T.length := by (have := of_decide_eq_true h13; simp only [List.length_map, List.length_take, List.length_drop] at this; omega)
    have hm := hat (T.getD j default) (by rw [List.getD_eq_getElem?_getD, List.getElem?_eq_getElem hjt]; exact List.getElem_mem hjt)
    refine zk ?_
    refine zs ?_
    refine W_block ?_
    refine zs ?_
    refine zR ?_
    (refine L_v Tb_ok (v := _) (ave_index_ro rfl rfl rfl (fun _ => rfl) rfl (by first | omega | assumption | decide | (simp_all; done) | (simp_all; omega)) (by first | omega | assumption | decide | (simp_all; done) | (simp_all; omega)) trivial) rfl ?_)
    refine zLG [.int _ _, .int _ _] ?_
    refine zal [.int .i64 0, .int .i64 0] 2 ?_
    refine zst (.agg [.int _ _, .int _ _]) [_, _] [[_, _]] ?_
    refine zn ?_
    refine zs ?_
    refine zR ?_
    refine zLP ?_
    refine zLI ?_
    refine zLB ?_
    refine zn ?_
    refine W_cond (b := _) rfl (fun h18 => ?_) (fun h18 => ?_)
    · have hp : ¬ (T.getD j default).At ≥ 0 := by have : (T.getD j default).At < 0 := of_decide_eq_true h18; omega
      refine zR ?_
      refine zLI ?_
      refine zLP ?_
      refine zLI ?_
      refine zLI ?_
      refine zLI ?_
      refine zLI ?_
      refine zLI ?_
      refine zn ?_
      refine zR ?_
      refine zLI ?_
      refine zLI ?_
      refine zn ?_
      refine for_end hjt (le_fit (sub_cat ⟨congrArg _ (w_succ hjt (by omega)), congrArg (AV.int .i64) (by unfold sumT; rw [foldl_take' _ _ _ _ hjt, vT]; (rw [if_neg hp]; rfl)), trivial⟩ ⟨rfl, rfl, rfl, rfl, trivial⟩) (subO_cat trivial trivial) (subK_cat trivial trivial) rfl rfl rfl (by rfl) rfl)
    · have hp : (T.getD j default).At ≥ 0 := by have : ¬ (T.getD j default).At < 0 := of_decide_eq_false h18; omega
      refine W_draw 12 Tb_mixed rfl (by decide) (by kernel_rfl) (by kernel_rfl) ?_
      refine zEI ?_
      refine zEP ?_
      refine zEI ?_
      refine zEO ?_
      refine zEP ?_
      refine zEI ?_
      (refine E_v Tb_ok (v := _) (ave_index_ro rfl rfl rfl (fun _ => rfl) rfl (by first | exact hp | exact hm | omega) (by first | exact hp | exact hm | omega) trivial) rfl ?_)
      refine zEI ?_
      refine zEI ?_
      refine zEI ?_
      refine zEI ?_
      refine zEI ?_
      refine LexE_nil ?_
      refine zn ?_
      refine zR ?_
      refine zLI ?_
      refine zLI ?_
      refine zn ?_
      refine for_end hjt (le_fit (sub_cat ⟨congrArg _ (w_succ hjt (by omega)), congrArg (AV.int .i64) (by unfold sumT; rw [foldl_take' _ _ _ _ hjt, vT]; (rw [if_pos hp]; rfl)), trivial⟩ ⟨rfl, rfl, rfl, rfl, trivial⟩) (subO_cat trivial trivial) (subK_cat trivial trivial) rfl rfl rfl (by rfl) rfl)
  · have hje : j = T.length := by (have := of_decide_eq_false h13; simp only [List.length_map, List.length_take, List.length_drop] at this; omega)
    refine W_exit ?_
    repeat (first | refine pass_then ?_ | refine pass_for ?_)
    refine blockQ_hit ?_
    refine zs ?_
    refine zR ?_
    refine zLI ?_
    refine zLI ?_
    refine zn ?_
    refine zt ?_
    refine ends (l := [.int _ _]) (q := .int _ _) (.inr rfl) rfl ⟨trivial, trivial⟩ rfl rfl ?_
    rw [hje, List.take_length]
theorem witness_size {m : Model} {op : Int} (h0 : findE m op = 0) {M : Nat} (hM : (M : Int) = elemsW (findS m op).In) : Ok Try.prog 50 [.agg (modelC m), .int .i64 op] (.int .i64 (M : Int)) := by
  obtain ⟨hS, ⟨o1, o2⟩, hop, he, e⟩ := site_ok h0
  have hn := whole_ok he
  have ow : IntKind.i64.wrap (op - 1) = op - 1 := w64_id (by omega)
  have el := (elems_inW hS.inB).1
  have i0 : 0 ≤ IntKind.i64.wrap (op - 1) := by rw [ow]; omega
  have i1 : IntKind.i64.wrap (op - 1) < (m.Ops.length : Int) := by rw [ow]; omega
  have hA := whole_A he (i := (IntKind.i64.wrap (op - 1)).toNat) (by omega)
  have hA2 : (m.Ops.getD (IntKind.i64.wrap (op - 1)).toNat default).A < ((wholeF m).1.length : Int) := by rw [hn.2.2.2.1]; omega
  have hin : (findS m op).In = (wholeF m).1.getD (m.Ops.getD (IntKind.i64.wrap (op - 1)).toNat default).A.toNat default := by
    rw [e, ow]; rfl
  --@@3
  skip
  refine fn_ok Tb_ok (fn := Try.f50) Try.func50 rfl rfl (e := [(0, _), (1, _)]) rfl (by decide) rfl ?_
  refine zs ?_
  refine zR ?_
  refine zbx [.int _ _, .int _ _, .int _ _, .int _ _, .int _ _, _, .int _ _] 7 ?_
  refine zLI ?_
  refine zn ?_
  refine zs ?_
  refine zR ?_
  refine zLG [.int _ _, .int _ _, .int _ _, .int _ _, .int _ _, _, .int _ _] ?_
  refine zLc (model_Shapes m) ?_
  refine zLT [_, _] ?_
  refine zLO ?_
  refine zLG [.int _ _, .int _ _, .int _ _] ?_
  refine zal [.int .i64 0, .int .i64 0, .int .i64 0] 3 ?_
  refine zLO ?_
  refine zst (.agg [.int _ _, .int _ _, .int _ _]) [_, _, _] [[_, _, _]] ?_
  refine zn ?_
  refine zs ?_
  refine zR ?_
  refine zLO ?_
  refine zLP ?_
  refine zLO ?_
  refine zLI ?_
  refine zLI ?_
  (refine L_v Tb_ok (v := _) (ave_index_ro rfl rfl rfl (fun _ => rfl) rfl (by first | exact i0 | exact i1 | (rw [List.length_map]; exact i1)) (by first | exact i0 | exact i1 | (rw [List.length_map]; exact i1)) trivial) rfl ?_)
  refine zLQ ?_
  refine zLI ?_
  (refine L_v Tb_ok (v := _) (ave_index_ro rfl rfl rfl (fun _ => rfl) rfl (by first | exact hA.1 | exact hA2 | (rw [List.length_map]; exact hA2)) (by first | exact hA.1 | exact hA2 | (rw [List.length_map]; exact hA2)) trivial) rfl ?_)
  refine zLG [.int _ _, .int _ _, .int _ _] ?_
  refine zal [.int .i64 0, .int .i64 0, .int .i64 0] 3 ?_
  refine zst (.agg [.int _ _, .int _ _, .int _ _]) [_, _, _] [[_, _, _]] ?_
  refine zn ?_
  refine zs ?_
  refine zR ?_
  refine zLP ?_
  refine zLI ?_
  refine zLP ?_
  refine zLI ?_
  refine zLI ?_
  refine zLP ?_
  refine zLI ?_
  refine zLI ?_
  refine zLI ?_
  refine zn ?_
  refine zt ?_
  refine ends (l := [.int _ _]) (q := .int _ _) (.inr rfl) rfl ⟨trivial, trivial⟩ rfl rfl ?_
  congr 1
  rw [hM, ← el, hin]; rfl
end Go.AM
end
section
open Go Go.AM Go.Proofs
set_option maxRecDepth 10000
set_option linter.unusedVariables false
set_option linter.unusedSimpArgs false
namespace Go.AM
structure Wit where
  (At : Int) (X : List Int)
def witC (w : Wit) : List AV := [.int .i64 w.At, .ro (w.X.map i8C)]
theorem sumT_shift (b : Int) (T : List Term) (a : List Int) (pad : Int) (hb : I64 b) : w64 (b + sumT 0 T a pad) = sumT b T a pad := by
  have k : ∀ (T : List Term) (c : Int), T.foldl (fun s t => w64 (s + w64 (t.W * vT a pad t))) (w64 (b + c)) = w64 (b + T.foldl (fun s t => w64 (s + w64 (t.W * vT a pad t))) c) := by
    intro T
    induction T with
    | nil => intro c; rfl
    | cons t T ih =>
      intro c
      simp only [List.foldl_cons]
      rw [← ih]
      congr 1
      simp only [w64, IntKind.wrap_i64]; omega
  unfold sumT
  rw [← k T 0, show w64 (b + 0) = b by rw [Int.add_zero]; exact w64_id (by have := I64.iff.1 hb; omega)]
theorem exists_first {P : Nat → Prop} : ∀ n, P n → ∃ N, N ≤ n ∧ P N ∧ ∀ k, k < N → ¬ P k := by
  intro n
  induction n using Nat.strongRecOn with
  | _ n ih =>
    intro h
    by_cases c : ∃ k, k < n ∧ P k
    · obtain ⟨k, hk, hp⟩ := c
      obtain ⟨N, h1, h2, h3⟩ := ih k hk hp
      exact ⟨N, by omega, h2, h3⟩
    · exact ⟨n, Nat.le_refl n, h, fun k hk hp => c ⟨k, hk, hp⟩⟩
/-- what is known where the model, the op, the channel and the span are asked of rightly -/
structure AskH (m : Model) (op ch : Int) (s : Span) (M : Nat) : Prop where
  f0 : findE m op = 0
  hs : -128 ≤ s.Lo ∧ s.Lo ≤ s.Hi ∧ s.Hi ≤ 127
  hch : 1 ≤ ch ∧ ch ≤ (findS m op).Out.C
  eM : (M : Int) = elemsW (findS m op).In
  M1 : M ≤ 16384
  Of : ∀ k : Nat, k < posN m op → Ok Try.prog 52 [.agg (modelC m), .int .i64 op, .int .i64 ch, .int .i64 (k : Int)] (.tup [.ro ((termsF m op ch k).map termC), .int .i64 (biasF m op ch 0), .int .i64 0])
  tl : ∀ k : Nat, (termsF m op ch k).length ≤ 512
  tat : ∀ k : Nat, ∀ t ∈ termsF m op ch k, t.At < (M : Int)
  ends : ∀ k : Nat, k < posN m op → sumT (biasF m op ch 0) (termsF m op ch k) (rowT (upC false) s.Lo s.Hi M (termsF m op ch k)) (findS m op).Op.Pad = (sumS (biasF m op ch 0) ((rowsF m op ch s).getD k default)).Lo ∧
    sumT (biasF m op ch 0) (termsF m op ch k) (rowT (upC true) s.Lo s.Hi M (termsF m op ch k)) (findS m op).Op.Pad = (sumS (biasF m op ch 0) ((rowsF m op ch s).getD k default)).Hi
  lo : ∃ k : Nat, k < posN m op ∧ (sumS (biasF m op ch 0) ((rowsF m op ch s).getD k default)).Lo = (totS m op ch s).Lo
  hi : ∃ k : Nat, k < posN m op ∧ (sumS (biasF m op ch 0) ((rowsF m op ch s).getD k default)).Hi = (totS m op ch s).Hi
  pn : posN m op ≤ 1048576
  pos : (posN m op : Int) = (findS m op).Out.H * (findS m op).Out.W
  bias : I64 (biasF m op ch 0)
  biasE : ∀ k : Nat, k < posN m op → biasF m op ch k = biasF m op ch 0
  bad : ∀ k : Nat, k < posN m op → ofBad (findS m op) ch k = false
theorem ask_h {m : Model} (hm : m.Wf) {op ch : Int} {s : Span} (hz : askE m op ch s = 0) : ∃ M, AskH m op ch s M := by
  obtain ⟨z, hs, f0⟩ := askE_zero hz
  obtain ⟨_, fb, _⟩ := ofE_op z
  obtain ⟨hS, ⟨o1, o2⟩, hop, _⟩ := site_ok f0
  obtain ⟨hch, hat0⟩ := (ofBad_iff hS).1 fb
  obtain ⟨p1, p2, p3⟩ := out_pos hS
  have el := (elems_inW hS.inB).2
  obtain ⟨M, hM⟩ : ∃ M : Nat, (M : Int) = elemsW (findS m op).In := ⟨_, Int.toNat_of_nonneg el.1⟩
  have hM' : (M : Int) = (findS m op).In.H * (findS m op).In.W * (findS m op).In.C := hM
  have hk2 : ∀ k : Nat, k < posN m op → 0 ≤ (k : Int) ∧ (k : Int) < (findS m op).Out.H * (findS m op).Out.W := fun k hk => ⟨by omega, by unfold posN at hk; omega⟩
  have hbk : ∀ k : Nat, k < posN m op → ofBad (findS m op) ch k = false := fun k hk => (ofBad_iff hS).2 ⟨hch, hk2 k hk⟩
  have heq : ∀ k : Nat, k < posN m op → biasF m op ch k = biasF m op ch 0 := fun k hk => by
    have h1 := hbk k hk
    have hb0 : ofBad (findS m op) ch 0 = false := fb
    simp [biasF, f0, h1, hb0]
  have hOf : ∀ k : Nat, k < posN m op → Ok Try.prog 52 [.agg (modelC m), .int .i64 op, .int .i64 ch, .int .i64 (k : Int)] (.tup [.ro ((termsF m op ch k).map termC), .int .i64 (biasF m op ch 0), .int .i64 0]) := fun k hk => by
    have h := terms_Of m op ch k
    rw [heq k hk, show ofE m op ch k = 0 by unfold ofE; rw [if_pos f0, if_neg (by rw [hbk k hk]; simp)]] at h
    exact h
  have hve := fun (k : Nat) (hk : k < posN m op) => val_ends hS hch (hk2 k hk) hs hM' (by have h := termsF_W hm op ch k; rw [termsF_eq f0 (hbk k hk)] at h; exact h)
  have hrow : ∀ k : Nat, k < posN m op → (rowsF m op ch s).getD k default = (termsF m op ch k).map (endF (findS m op).Op.Pad s) := fun k hk => by simp [rowsF, rowF, List.getD_eq_getElem?_getD, hk]
  have hrl : (rowsF m op ch s).length = posN m op := by simp [rowsF]
  have hp1 := posN_pos f0
  have hnb := rowsF_len hz
  rw [hrl] at hnb
  obtain ⟨⟨k1, hk1, e1⟩, k2, hk2', e2⟩ := tot_ends (biasF m op ch 0) (l := rowsF m op ch s) (fun h => by rw [h] at hrl; simp at hrl; omega)
  rw [hrl] at hk1 hk2'
  have hts : totS m op ch s = hullS (totH (biasF m op ch 0) (rowsF m op ch s)) := by rw [totS, if_pos hz]
  have u0 : upC false = fun w => !decide (w > 0) := by funext w; unfold upC; cases decide (w > 0) <;> rfl
  have u1 : upC true = fun w => decide (w > 0) := by funext w; unfold upC; cases decide (w > 0) <;> rfl
  refine ⟨M, f0, hs, hch, hM, by omega, hOf, fun k => termsF_len _ _ _ _, fun k t ht => ?_, fun k hk => ⟨?_, ?_⟩, ⟨k1, hk1, by rw [hts]; simp [hullS, e1]⟩, ⟨k2, hk2', by rw [hts]; simp [hullS, e2]⟩, hnb, by unfold posN; omega, ?_, heq, hbk⟩
  · rcases terms_in f0 ch k t ht with h | h
    · omega
    · rw [hM']; exact h
  · rw [u0, hrow k hk]
    refine sumT_lo _ _ _ ?_
    rw [termsF_eq f0 (hbk k hk)]; exact (hve k hk).1
  · rw [u1, hrow k hk]
    refine sumT_hi _ _ _ ?_
    rw [termsF_eq f0 (hbk k hk)]; exact (hve k hk).2
  · have hB := bb hm op ch; unfold bS at hB; dsimp only at hB
    exact I64.iff.2 (by omega)
end Go.AM
end
section
open Go Go.AM Go.Proofs
set_option maxRecDepth 10000
set_option linter.unusedVariables false
set_option linter.unusedSimpArgs false
namespace Go.AM
def endQ (m : Model) (op ch : Int) (s : Span) (up : Bool) : Int := bif up then (totS m op ch s).Hi else (totS m op ch s).Lo
/-- a witness of an end -/
def WitOk (m : Model) (op ch : Int) (s : Span) (up : Bool) (w : Wit) : Prop :=
  (askE m op ch s ≠ 0 → w = ⟨0, []⟩) ∧ (askE m op ch s = 0 → ∃ M k : Nat, AskH m op ch s M ∧ k < posN m op ∧ w = ⟨(k : Int), rowT (upC up) s.Lo s.Hi M (termsF m op ch k)⟩ ∧ sumT (biasF m op ch 0) (termsF m op ch k) w.X (findS m op).Op.Pad = endQ m op ch s up)
theorem witness_end (m : Model) (hm : m.Wf) (op ch : Int) (s : Span) (up : Bool) : ∃ w, WitOk m op ch s up w ∧ Ok Try.prog 39 [.agg (modelC m), .int .i64 op, .int .i64 ch, .agg (spanC s), .bool up] (.tup [.agg (witC w), .int .i64 (askE m op ch s)]) := by
  have hTo := bound_Total m hm op ch s
  by_cases hz : askE m op ch s = 0
  · obtain ⟨M, H⟩ := ask_h hm hz
    have hM1 := H.M1
    have hpn := H.pn
    obtain ⟨hS, ⟨o1, o2⟩, hop, he, _⟩ := site_ok H.f0
    have hn := (whole_ok he).1
    have ow : IntKind.i64.wrap (op - 1) = op - 1 := w64_id (by omega)
    have i0 : 0 ≤ IntKind.i64.wrap (op - 1) := by rw [ow]; omega
    have i1 : IntKind.i64.wrap (op - 1) < (m.Ops.length : Int) := by rw [ow]; omega
    have hpad : (m.Ops.getD (IntKind.i64.wrap (op - 1)).toNat default).Pad = (findS m op).Op.Pad := by rw [ow, hop]
    obtain ⟨X, hX⟩ : ∃ X : Nat → List Int, X = fun k : Nat => rowT (upC up) s.Lo s.Hi M (termsF m op ch k) := ⟨_, rfl⟩
    have hXl : ∀ k : Nat, (X k).length = M := fun k => by rw [hX]; exact rowT_len _ _ _ _ _
    have hex : ∃ n, n < posN m op ∧ sumT (biasF m op ch 0) (termsF m op ch n) (X n) (findS m op).Op.Pad = endQ m op ch s up := by
      cases up with
      | false => obtain ⟨k, h1, h2⟩ := H.lo; exact ⟨k, h1, by rw [hX]; exact (H.ends k h1).1.trans h2⟩
      | true => obtain ⟨k, h1, h2⟩ := H.hi; exact ⟨k, h1, by rw [hX]; exact (H.ends k h1).2.trans h2⟩
    obtain ⟨n, hn1, hn2⟩ := hex
    obtain ⟨N, hN1, hN2, hN3⟩ := exists_first (P := fun k => sumT (biasF m op ch 0) (termsF m op ch k) (X k) (findS m op).Op.Pad = endQ m op ch s up) n hn2
    refine ⟨⟨(N : Int), X N⟩, ⟨fun h => absurd hz h, fun _ => ⟨M, N, H, by omega, by rw [hX], hN2⟩⟩, ?_⟩
    have hsz := witness_size H.f0 H.eM
    have hnum : ∀ k : Nat, Ok Try.prog 53 [.ro ((termsF m op ch k).map termC), .agg (spanC s), .int .i64 (M : Int), .bool up] (.ro ((X k).map i8C)) := fun k => by
      rw [hX]; exact witness_numbers _ s M up H.hs H.M1 (H.tl k) (H.tat k)
    have hsum : ∀ k : Nat, Ok Try.prog 54 [.ro ((termsF m op ch k).map termC), .ro ((X k).map i8C), .int .i64 (findS m op).Op.Pad] (.int .i64 (sumT 0 (termsF m op ch k) (X k) (findS m op).Op.Pad)) := fun k =>
      witness_sum _ _ _ (H.tl k) (by rw [hXl]; exact H.tat k)
    have hsh := fun k : Nat => sumT_shift (biasF m op ch 0) (termsF m op ch k) (X k) (findS m op).Op.Pad H.bias
    rw [hz] at hTo
    --@@1
    skip
    refine fn_ok Tb_ok (fn := Try.f39) Try.func39 rfl rfl (e := [(0, _), (1, _), (2, _), (3, _), (4, _)]) rfl (by decide) rfl ?_
    refine zs ?_
    refine zR ?_
    refine zbx [.int _ _, .int _ _, .int _ _, .int _ _, .int _ _, _, .int _ _] 7 ?_
    refine zbx [.int _ _, .int _ _] 2 ?_
    refine zal [.int .i64 0, .nils] 2 ?_
    refine zLI ?_
    refine zn ?_
    refine zs ?_
    refine zR ?_
    refine zLG [.int _ _, .int _ _, .int _ _, .int _ _, .int _ _, _, .int _ _] ?_
    refine zLI ?_
    refine zLI ?_
    refine zLG [.int _ _, .int _ _] ?_
    refine zLc (hTo) ?_
    refine zLT [_, _] ?_
    refine zLG [.int _ _, .int _ _] ?_
    refine zLI ?_
    refine zal [.int .i64 0, .int .i64 0] 2 ?_
    refine zst (.agg [.int _ _, .int _ _]) [_, _] [[_, _]] ?_
    refine zLI ?_
    refine zn ?_
    refine zs ?_
    refine zs ?_
    refine zR ?_
    refine zLI ?_
    refine zLB ?_
    refine zn ?_
    refine W_cond_f (b := _) rfl (by rfl) ?_
    refine zk ?_
    refine zs ?_
    refine zR ?_
    refine zLP ?_
    refine zLI ?_
    refine zLI ?_
    refine zn ?_
    refine zs ?_
    refine zs ?_
    refine zR ?_
    refine zLB ?_
    refine zn ?_
    refine W_iftB (b := _) rfl [(1, .int _ _), (2, .int _ _), (4, .bool _), (5, .ptr 0 0 0), (8, .ptr 1 0 0), (10, .ptr 2 0 0)] (fun (z : Bool) => [(14, .int .i64 (bif z then (totS m op ch s).Hi else (totS m op ch s).Lo))]) [(0, some ⟨_, _, _, _⟩), (1, some ⟨_, _, _, _⟩), (2, some ⟨_, _, _, _⟩)] (fun (z : Bool) => []) [] (fun (z : Bool) => []) 3 ⟨rfl, rfl, rfl, rfl, rfl, rfl, trivial⟩ ⟨.inr rfl, .inr rfl, .inr rfl, trivial⟩ trivial (fun h36 => ?_) (fun h36 => ?_) ?_
    · refine zR ?_
      refine zLP ?_
      refine zLI ?_
      refine zLI ?_
      refine zn ?_
      exact ⟨trivial, (le_fit (sub_cat ⟨rfl, trivial⟩ ⟨rfl, rfl, rfl, rfl, rfl, rfl, trivial⟩) (subO_cat trivial ⟨.inr rfl, .inr rfl, .inr rfl, trivial⟩) (subK_cat trivial trivial) rfl rfl rfl (by rfl) rfl)⟩
    · refine zk ?_
      exact ⟨trivial, (le_fit (sub_cat ⟨rfl, trivial⟩ ⟨rfl, rfl, rfl, rfl, rfl, rfl, trivial⟩) (subO_cat trivial ⟨.inr rfl, .inr rfl, .inr rfl, trivial⟩) (subK_cat trivial trivial) rfl rfl rfl (by rfl) rfl)⟩
    refine W.of_le (s' := ⟨[(14, .int .i64 (bif _ then (totS m op ch s).Hi else (totS m op ch s).Lo)), (1, .int _ _), (2, .int _ _), (4, .bool _), (5, .ptr 0 0 0), (8, .ptr 1 0 0), (10, .ptr 2 0 0)], [(0, some ⟨_, _, _, _⟩), (1, some ⟨_, _, _, _⟩), (2, some ⟨_, _, _, _⟩)], [], 3⟩) (le_fit ⟨rfl, rfl, rfl, rfl, rfl, rfl, rfl, trivial⟩ ⟨.inr rfl, .inr rfl, .inr rfl, trivial⟩ trivial rfl rfl rfl (by rfl) rfl) ?_
    refine zs ?_
    refine W_draw 12 Tb_mixed rfl (by decide) (by kernel_rfl) (by kernel_rfl) ?_
    refine zEG [.int _ _, .int _ _, .int _ _, .int _ _, .int _ _, _, .int _ _] ?_
    refine zEI ?_
    refine zEc (hsz) ?_
    refine zEP ?_
    refine zEO ?_
    refine zEI ?_
    refine zEI ?_
    (refine E_v Tb_ok (v := _) (ave_index_ro rfl rfl rfl (fun _ => rfl) rfl (by first | exact i0 | exact i1 | (rw [List.length_map]; exact i1)) (by first | exact i0 | exact i1 | (rw [List.length_map]; exact i1)) trivial) rfl ?_)
    refine zEQ ?_
    refine zEI ?_
    refine zEI ?_
    simp only [hpad]
    refine zEI ?_
    refine LexE_nil ?_
    refine zn ?_
    refine zs ?_
    refine zR ?_
    refine zLI ?_
    refine zn ?_
    refine W_block ?_
    refine W_inv (ι := {k : Nat // k ≤ N}) (fun k => ⟨[(1, .int .i64 op), (2, .int .i64 ch), (4, .bool up), (5, .ptr 0 0 0), (8, .ptr 1 0 0), (10, .ptr 2 0 0), (14, .int .i64 (endQ m op ch s up)), (15, .int .i64 (M : Int)), (16, .int .i64 (findS m op).Op.Pad), (17, .int .i64 (k.1 : Int))], [(0, some ⟨26, 7, 0, [modelC m]⟩), (1, some ⟨28, 2, 0, [spanC s]⟩), (2, some ⟨33, 2, 0, [[.int .i64 0, .nils]]⟩)], [], 3⟩) (fun k => N - k.1) ⟨0, Nat.zero_le _⟩ (le_fit ⟨rfl, rfl, rfl, rfl, rfl, rfl, rfl, rfl, rfl, rfl, trivial⟩ ⟨.inr rfl, .inr rfl, .inr rfl, trivial⟩ trivial rfl rfl rfl rfl rfl) ?_
    rintro ⟨k, hk⟩
    dsimp only
    refine zs ?_
    refine W_block ?_
    refine zs ?_
    refine zR ?_
    refine zLG [.int _ _, .int _ _, .int _ _, .int _ _, .int _ _, _, .int _ _] ?_
    refine zLI ?_
    refine zLI ?_
    refine zLI ?_
    refine zLc (H.Of k (by omega)) ?_
    refine zLT [_, _, _] ?_
    refine zLO ?_
    refine zLI ?_
    refine zLI ?_
    refine zLO ?_
    refine zLI ?_
    refine zLI ?_
    refine zn ?_
    refine zs ?_
    refine zs ?_
    refine zR ?_
    refine zLI ?_
    refine zLB ?_
    refine zn ?_
    refine W_cond_f (b := _) rfl (by rfl) ?_
    refine zk ?_
    refine zs ?_
    refine zR ?_
    refine zLO ?_
    refine zLG [.int _ _, .int _ _] ?_
    refine zLI ?_
    refine zLB ?_
    refine zLc (hnum k) ?_
    refine zLO ?_
    refine zn ?_
    refine zs ?_
    refine zR ?_
    refine zLI ?_
    refine zLO ?_
    refine zLO ?_
    refine zLI ?_
    refine zLc (hsum k) ?_
    refine zLI ?_
    refine zLI ?_
    refine zLB ?_
    refine zn ?_
    refine W_cond (b := _) rfl (fun h76 => ?_) (fun h76 => ?_)
    · have hkN : k = N := by
        have h' : (IntKind.i64.wrap (biasF m op ch 0 + sumT 0 (termsF m op ch k) (X k) (findS m op).Op.Pad) == endQ m op ch s up) = true := h76
        by_cases c : k < N
        · exact absurd ((hsh k).symm.trans (eq_of_beq h')) (hN3 k c)
        · omega
      refine zs ?_
      refine zR ?_
      refine zLI ?_
      refine zLO ?_
      refine zLG [.int _ _, _] ?_
      refine zst (.agg [.int _ _, _]) [_, _] [[_, _]] ?_
      refine zLI ?_
      refine zn ?_
      refine zt ?_
      refine ends (l := [.agg [.int _ _, _], .int _ _]) (q := .tup [.agg [.int _ _, _], .int _ _]) (.inr rfl) rfl ⟨rfl, trivial, trivial⟩ rfl rfl ?_
      rw [hkN, hz]; rfl
    · have hkt : k < N := by
        have h' : (IntKind.i64.wrap (biasF m op ch 0 + sumT 0 (termsF m op ch k) (X k) (findS m op).Op.Pad) == endQ m op ch s up) = false := h76
        by_cases c : k < N
        · exact c
        · have e : k = N := by omega
          rw [show IntKind.i64.wrap (biasF m op ch 0 + sumT 0 (termsF m op ch k) (X k) (findS m op).Op.Pad) = endQ m op ch s up by rw [e]; exact (hsh N).trans hN2] at h'
          simp at h'
      refine zk ?_
      refine zR ?_
      refine zLI ?_
      refine zLI ?_
      refine zLI ?_
      refine zn ?_
      refine round_end (Q := fun _ _ => True) ⟨k + 1, hkt⟩ (by dsimp only; omega) (le_fit ⟨rfl, rfl, rfl, rfl, rfl, rfl, rfl, rfl, rfl, congrArg _ (w_succ hkt (by omega)), trivial⟩ ⟨.inr rfl, .inr rfl, .inr rfl, trivial⟩ trivial rfl rfl rfl rfl rfl)
  · refine ⟨⟨0, []⟩, ⟨fun _ => rfl, fun h => absurd h hz⟩, ?_⟩
    have hc31 : (askE m op ch s != 0) = true := by simp [hz]
    --@@2
    skip
    refine fn_ok Tb_ok (fn := Try.f39) Try.func39 rfl rfl (e := [(0, _), (1, _), (2, _), (3, _), (4, _)]) rfl (by decide) rfl ?_
    refine zs ?_
    refine zR ?_
    refine zbx [.int _ _, .int _ _, .int _ _, .int _ _, .int _ _, _, .int _ _] 7 ?_
    refine zbx [.int _ _, .int _ _] 2 ?_
    refine zal [.int .i64 0, .nils] 2 ?_
    refine zLI ?_
    refine zn ?_
    refine zs ?_
    refine zR ?_
    refine zLG [.int _ _, .int _ _, .int _ _, .int _ _, .int _ _, _, .int _ _] ?_
    refine zLI ?_
    refine zLI ?_
    refine zLG [.int _ _, .int _ _] ?_
    refine zLc (hTo) ?_
    refine zLT [_, _] ?_
    refine zLG [.int _ _, .int _ _] ?_
    refine zLI ?_
    refine zal [.int .i64 0, .int .i64 0] 2 ?_
    refine zst (.agg [.int _ _, .int _ _]) [_, _] [[_, _]] ?_
    refine zLI ?_
    refine zn ?_
    refine zs ?_
    refine zs ?_
    refine zR ?_
    refine zLI ?_
    refine zLB ?_
    refine zn ?_
    refine W_cond_t (b := _) rfl (by exact hc31) ?_
    refine zs ?_
    refine zR ?_
    refine zLG [.int _ _, _] ?_
    refine zLI ?_
    refine zst (.agg [.int _ _, _]) [_, _] [[_, _]] ?_
    refine zLI ?_
    refine zn ?_
    refine zt ?_
    refine ends (l := [.agg [.int _ _, _], .int _ _]) (q := .tup [.agg [.int _ _, _], .int _ _]) (.inr rfl) rfl ⟨rfl, trivial, trivial⟩ rfl rfl ?_
    rfl
theorem witness_Low (m : Model) (hm : m.Wf) (op ch : Int) (s : Span) : ∃ w, WitOk m op ch s false w ∧ Ok Try.prog 14 [.agg (modelC m), .int .i64 op, .int .i64 ch, .agg (spanC s)] (.tup [.agg (witC w), .int .i64 (askE m op ch s)]) := by
  obtain ⟨w, hw, hE⟩ := witness_end m hm op ch s false
  refine ⟨w, hw, ?_⟩
  --@@3
  skip
  refine fn_ok Tb_ok (fn := Try.f14) Try.func14 rfl rfl (e := [(0, _), (1, _), (2, _), (3, _)]) rfl (by decide) rfl ?_
  refine zs ?_
  refine zR ?_
  refine zbx [.int _ _, .int _ _, .int _ _, .int _ _, .int _ _, _, .int _ _] 7 ?_
  refine zbx [.int _ _, .int _ _] 2 ?_
  refine zal [.int .i64 0, .nils] 2 ?_
  refine zLI ?_
  refine zn ?_
  refine zs ?_
  refine zR ?_
  refine zLG [.int _ _, .int _ _, .int _ _, .int _ _, .int _ _, _, .int _ _] ?_
  refine zLI ?_
  refine zLI ?_
  refine zLG [.int _ _, .int _ _] ?_
  refine zLc (hE) ?_
  refine zLG [.int _ _, _] ?_
  refine zLI ?_
  refine zst (.agg [.int _ _, _]) [_, _] [[_, _]] ?_
  refine zLI ?_
  refine zn ?_
  refine zt ?_
  refine ends (l := [.agg [.int _ _, _], .int _ _]) (q := .tup [.agg [.int _ _, _], .int _ _]) (.inr rfl) rfl ⟨rfl, trivial, trivial⟩ rfl rfl ?_
  rfl
theorem witness_High (m : Model) (hm : m.Wf) (op ch : Int) (s : Span) : ∃ w, WitOk m op ch s true w ∧ Ok Try.prog 15 [.agg (modelC m), .int .i64 op, .int .i64 ch, .agg (spanC s)] (.tup [.agg (witC w), .int .i64 (askE m op ch s)]) := by
  obtain ⟨w, hw, hE⟩ := witness_end m hm op ch s true
  refine ⟨w, hw, ?_⟩
  --@@4
  skip
  refine fn_ok Tb_ok (fn := Try.f15) Try.func15 rfl rfl (e := [(0, _), (1, _), (2, _), (3, _)]) rfl (by decide) rfl ?_
  refine zs ?_
  refine zR ?_
  refine zbx [.int _ _, .int _ _, .int _ _, .int _ _, .int _ _, _, .int _ _] 7 ?_
  refine zbx [.int _ _, .int _ _] 2 ?_
  refine zal [.int .i64 0, .nils] 2 ?_
  refine zLI ?_
  refine zn ?_
  refine zs ?_
  refine zR ?_
  refine zLG [.int _ _, .int _ _, .int _ _, .int _ _, .int _ _, _, .int _ _] ?_
  refine zLI ?_
  refine zLI ?_
  refine zLG [.int _ _, .int _ _] ?_
  refine zLc (hE) ?_
  refine zLG [.int _ _, _] ?_
  refine zLI ?_
  refine zst (.agg [.int _ _, _]) [_, _] [[_, _]] ?_
  refine zLI ?_
  refine zn ?_
  refine zt ?_
  refine ends (l := [.agg [.int _ _, _], .int _ _]) (q := .tup [.agg [.int _ _, _], .int _ _]) (.inr rfl) rfl ⟨rfl, trivial, trivial⟩ rfl rfl ?_
  rfl
end Go.AM
end
section
open Go Go.AM Go.Proofs
set_option maxRecDepth 10000
set_option linter.unusedVariables false
set_option linter.unusedSimpArgs false
namespace Go.AM
theorem all_snocP {p : Nat → Prop} {k : Nat} (h : ∀ i, i < k → p i) (hk : p k) : ∀ i, i < k + 1 → p i := fun i hi => by
  by_cases e : i = k
  · rw [e]; exact hk
  · exact h i (by omega)
theorem ext_getD {α : Type} [Inhabited α] {a b : List α} (hl : a.length = b.length) (h : ∀ j, j < a.length → a.getD j default = b.getD j default) : a = b := by
  apply List.ext_getElem hl
  intro j h1 h2
  have := h j h1
  simpa [List.getD_eq_getElem?_getD, h1, h2] using this
theorem ref11_Same (a b : List Int) (ha : a.length ≤ 1048576) : Ok Try.prog 24 [.ro (a.map i8C), .ro (b.map i8C)] (.bool (decide (a = b))) := by
  --@@2
  skip
  refine fn_ok Tb_ok (fn := Try.f24) Try.func24 rfl rfl (e := [(0, _), (1, _)]) rfl (by decide) rfl ?_
  refine zs ?_
  refine zR ?_
  refine zLB ?_
  refine zn ?_
  refine zs ?_
  refine zs ?_
  refine zR ?_
  refine zLO ?_
  refine zLI ?_
  refine zLO ?_
  refine zLI ?_
  refine zLB ?_
  refine zn ?_
  refine W_cond (b := _) rfl (fun h10 => ?_) (fun h10 => ?_)
  · have hl : a.length ≠ b.length := fun e => by simp [e] at h10
    refine zs ?_
    refine zR ?_
    refine zLB ?_
    refine zn ?_
    refine zt ?_
    refine ends (l := [.bool _]) (q := .bool _) (.inr rfl) rfl ⟨trivial, trivial⟩ rfl rfl ?_
    rw [decide_eq_false (fun e => hl (by rw [e]))]
  · have hl : a.length = b.length := by simp at h10; omega
    refine zk ?_
    refine zs ?_
    refine zs ?_
    refine zR ?_
    refine zLO ?_
    refine zLI ?_
    refine zLI ?_
    refine zn ?_
    refine W_block ?_
    refine W_forEF (a.length) (fun (i : Nat) => ∀ j, j < i → a.getD j default = b.getD j default) (fun j hj => absurd hj (by omega)) [(0, .ro _), (1, .ro _), (12, .int _ _)] (fun (i : Nat) => [(13, .int .i64 (i : Int))]) [] (fun (i : Nat) => []) [] (fun (i : Nat) => []) 0 (le_fit (sub_cat ⟨rfl, trivial⟩ ⟨rfl, rfl, rfl, trivial⟩) (subO_cat trivial trivial) (subK_cat trivial trivial) rfl rfl rfl (by rfl) rfl) ?_
    intro i hi hfi
    refine W.of_le (s' := ⟨[(13, .int .i64 (i : Int)), (0, .ro _), (1, .ro _), (12, .int _ _)], [], [], 0⟩) (le_fit ⟨rfl, rfl, rfl, rfl, trivial⟩ trivial trivial rfl rfl rfl (by rfl) rfl) ?_
    refine zs ?_
    refine zR ?_
    refine zLB ?_
    refine zn ?_
    refine zs ?_
    refine W_cond (b := _) rfl (fun h14 => ?_) (fun h14 => ?_)
    · have hit : i < a.length := by (have := of_decide_eq_true h14; simp only [List.length_map, List.length_take, List.length_drop] at this; omega)
      refine zk ?_
      refine zs ?_
      refine W_block ?_
      refine zs ?_
      refine zR ?_
      refine zLI ?_
      refine zLI ?_
      refine zn ?_
      refine zs ?_
      refine W_draw 9 Tb_mixed rfl (by decide) (by kernel_rfl) (by kernel_rfl) ?_
      refine zEO ?_
      refine zEI ?_
      (refine E_v Tb_ok (v := _) (ave_index_ro rfl rfl rfl (fun _ => rfl) rfl (by first | omega | assumption | decide | (simp_all; done) | (simp_all; omega)) (by first | omega | assumption | decide | (simp_all; done) | (simp_all; omega)) trivial) rfl ?_)
      refine zEI ?_
      refine zEO ?_
      refine zEI ?_
      (refine E_v Tb_ok (v := _) (ave_index_ro rfl rfl rfl (fun _ => rfl) rfl (by first | omega | assumption | decide | (simp_all; done) | (simp_all; omega)) (by first | omega | assumption | decide | (simp_all; done) | (simp_all; omega)) trivial) rfl ?_)
      refine zEI ?_
      refine zEB ?_
      refine LexE_nil ?_
      refine zn ?_
      refine W_cond (b := _) rfl (fun h24 => ?_) (fun h24 => ?_)
      · have hn : a.getD i default ≠ b.getD i default := by simpa [i8C] using h24
        refine zs ?_
        refine zR ?_
        refine zLB ?_
        refine zn ?_
        refine zt ?_
        refine ends (l := [.bool _]) (q := .bool _) (.inr rfl) rfl ⟨trivial, trivial⟩ rfl rfl ?_
        rw [decide_eq_false (fun e => hn (by rw [e]))]
      · have hn : a.getD i default = b.getD i default := by simpa [i8C] using h24
        refine zk ?_
        refine zR ?_
        refine zLI ?_
        refine zLI ?_
        refine zn ?_
        refine forF_end hit (all_snocP (p := fun j => a.getD j default = b.getD j default) hfi hn) (le_fit (sub_cat ⟨congrArg _ (w_succ hit (by omega)), trivial⟩ ⟨rfl, rfl, rfl, trivial⟩) (subO_cat trivial trivial) (subK_cat trivial trivial) rfl rfl rfl (by rfl) rfl)
    · have hie : i = a.length := by (have := of_decide_eq_false h14; simp only [List.length_map, List.length_take, List.length_drop] at this; omega)
      refine W_exit ?_
      repeat (first | refine pass_then ?_ | refine pass_forF ?_)
      refine blockQ_hit ?_
      refine zs ?_
      refine zR ?_
      refine zLB ?_
      refine zn ?_
      refine zt ?_
      refine ends (l := [.bool _]) (q := .bool _) (.inr rfl) rfl ⟨trivial, trivial⟩ rfl rfl ?_
      rw [decide_eq_true (ext_getD hl (hie ▸ hfi))]
theorem ref10_Value (s : Site) (t : Term) (a : List Int) (h : t.At < a.length) : Ok Try.prog 58 [.agg (rsiteC s), .agg (termC t), .ro (a.map i8C)] (.int .i64 (w64 (t.W * vT a s.Op.Pad t))) := by
  --@@3
  skip
  refine fn_ok Tb_ok (fn := Try.f58) Try.func58 rfl rfl (e := [(0, _), (1, _), (2, _)]) rfl (by decide) rfl ?_
  refine zs ?_
  refine zR ?_
  refine zbx [.int _ _, .int _ _, .int _ _, .int _ _, .int _ _, .int _ _, .int _ _, .int _ _, .int _ _, .int _ _, .int _ _, .int _ _, _, _, .int _ _, .int _ _, .int _ _, .int _ _, .int _ _, .int _ _, .int _ _, .int _ _, .int _ _, .int _ _, .int _ _, .int _ _, .int _ _, .int _ _] 28 ?_
  refine zbx [.int _ _, .int _ _] 2 ?_
  refine zLI ?_
  refine zn ?_
  refine zs ?_
  refine zs ?_
  refine zR ?_
  refine zLP ?_
  refine zLI ?_
  refine zLB ?_
  refine zn ?_
  refine W_cond (b := _) rfl (fun h9 => ?_) (fun h9 => ?_)
  · have hn : ¬ t.At ≥ 0 := by simp at h9; omega
    refine zs ?_
    refine zR ?_
    refine zLP ?_
    refine zLI ?_
    refine zLP ?_
    refine zLP ?_
    refine zLI ?_
    refine zLI ?_
    refine zLI ?_
    refine zn ?_
    refine zt ?_
    refine ends (l := [.int _ _]) (q := .int _ _) (.inr rfl) rfl ⟨trivial, trivial⟩ rfl rfl ?_
    rw [vT, if_neg hn]; rfl
  · have hn : t.At ≥ 0 := by simp at h9; omega
    have hb : t.At < ((a.map i8C).length : Int) := by rw [List.length_map]; exact h
    refine zk ?_
    refine zs ?_
    refine W_draw 10 Tb_mixed rfl (by decide) (by kernel_rfl) (by kernel_rfl) ?_
    refine zEP ?_
    refine zEI ?_
    refine zEO ?_
    refine zEP ?_
    refine zEI ?_
    (refine E_v Tb_ok (v := _) (ave_index_ro rfl rfl rfl (fun _ => rfl) rfl (by first | exact hn | exact hb | exact h) (by first | exact hn | exact hb | exact h) trivial) rfl ?_)
    refine zEI ?_
    refine zEI ?_
    refine zEI ?_
    refine zEI ?_
    refine LexE_nil ?_
    refine zn ?_
    refine zt ?_
    refine ends (l := [.int _ _]) (q := .int _ _) (.inr rfl) rfl ⟨trivial, trivial⟩ rfl rfl ?_
    rw [vT, if_pos hn]; rfl
theorem ref11_Sum {S : Site} (hS : SiteOk S) (hln : lenF S.Op S.In = S.Len) {ch at_ : Int} (hch : 1 ≤ ch ∧ ch ≤ S.Out.C) (hat : 0 ≤ at_ ∧ at_ < S.Out.H * S.Out.W) (a : List Int) (ha : (a.length : Int) = S.In.H * S.In.W * S.In.C) (hl : (tlF S ch at_).length ≤ 512) : Ok Try.prog 49 [.agg (rsiteC S), .int .i64 ch, .int .i64 at_, .ro (a.map i8C)] (.int .i64 (sumT (if S.Op.Kind = 4 then 0 else w64 (S.Op.Bias.getD (w64 (ch - 1)).toNat default)) (tlF S ch at_) a S.Op.Pad)) := by
  have hlt : ∀ t ∈ tlF S ch at_, t.At < (a.length : Int) := fun t ht => by
    have e0 : 0 ≤ (a.length : Int) := by omega
    rcases tlF_at hS hch at_ t ht with h | h <;> omega
  obtain ⟨b, hb⟩ : ∃ b, b = (if S.Op.Kind = 4 then 0 else w64 (S.Op.Bias.getD (w64 (ch - 1)).toNat default)) := ⟨_, rfl⟩
  have hB := ref10_Bias S ch (bias_ix hS hch)
  rw [← hb] at hB ⊢
  have hT := ref10_Terms hS hln hch hat
  generalize tlF S ch at_ = l at *
  --@@4
  skip
  refine fn_ok Tb_ok (fn := Try.f49) Try.func49 rfl rfl (e := [(0, _), (1, _), (2, _), (3, _)]) rfl (by decide) rfl ?_
  refine zs ?_
  refine zR ?_
  refine zbx [.int _ _, .int _ _, .int _ _, .int _ _, .int _ _, .int _ _, .int _ _, .int _ _, .int _ _, .int _ _, .int _ _, .int _ _, _, _, .int _ _, .int _ _, .int _ _, .int _ _, .int _ _, .int _ _, .int _ _, .int _ _, .int _ _, .int _ _, .int _ _, .int _ _, .int _ _, .int _ _] 28 ?_
  refine zLI ?_
  refine zn ?_
  refine zs ?_
  refine zR ?_
  refine zLG [.int _ _, .int _ _, .int _ _, .int _ _, .int _ _, .int _ _, .int _ _, .int _ _, .int _ _, .int _ _, .int _ _, .int _ _, _, _, .int _ _, .int _ _, .int _ _, .int _ _, .int _ _, .int _ _, .int _ _, .int _ _, .int _ _, .int _ _, .int _ _, .int _ _, .int _ _, .int _ _] ?_
  refine zLI ?_
  refine zLc (hB) ?_
  refine zLI ?_
  refine zn ?_
  refine zs ?_
  refine zs ?_
  refine zR ?_
  refine zLG [.int _ _, .int _ _, .int _ _, .int _ _, .int _ _, .int _ _, .int _ _, .int _ _, .int _ _, .int _ _, .int _ _, .int _ _, _, _, .int _ _, .int _ _, .int _ _, .int _ _, .int _ _, .int _ _, .int _ _, .int _ _, .int _ _, .int _ _, .int _ _, .int _ _, .int _ _, .int _ _] ?_
  refine zLI ?_
  refine zLI ?_
  refine zLc (hT) ?_
  refine zLI ?_
  refine zLI ?_
  refine zn ?_
  refine W_block ?_
  refine W_forE (l.length) [(3, .ro _), (4, .ptr 0 0 0), (18, .ro _), (19, .int _ _)] (fun (i : Nat) => [(20, .int .i64 (i : Int)), (9, .int .i64 (sumT b (l.take i) a S.Op.Pad))]) [(0, some ⟨_, _, _, _⟩)] (fun (i : Nat) => []) [] (fun (i : Nat) => []) 1 (le_fit (sub_cat ⟨rfl, rfl, trivial⟩ ⟨rfl, rfl, rfl, rfl, trivial⟩) (subO_cat trivial ⟨.inr rfl, trivial⟩) (subK_cat trivial trivial) rfl rfl rfl (by rfl) rfl) ?_
  intro i hi
  refine W.of_le (s' := ⟨[(20, .int .i64 (i : Int)), (9, .int .i64 (sumT b (l.take i) a S.Op.Pad)), (3, .ro _), (4, .ptr 0 0 0), (18, .ro _), (19, .int _ _)], [(0, some ⟨_, _, _, _⟩)], [], 1⟩) (le_fit ⟨rfl, rfl, rfl, rfl, rfl, rfl, trivial⟩ ⟨.inr rfl, trivial⟩ trivial rfl rfl rfl (by rfl) rfl) ?_
  refine zs ?_
  refine zR ?_
  refine zLB ?_
  refine zn ?_
  refine zs ?_
  refine W_cond (b := _) rfl (fun h21 => ?_) (fun h21 => ?_)
  · have hit : i < l.length := by (have := of_decide_eq_true h21; simp only [List.length_map, List.length_take, List.length_drop] at this; omega)
    have hi := hlt (l.getD i default) (by rw [List.getD_eq_getElem?_getD, List.getElem?_eq_getElem hit]; exact List.getElem_mem hit)
    refine zk ?_
    refine zs ?_
    refine W_block ?_
    refine zs ?_
    refine zR ?_
    (refine L_v Tb_ok (v := _) (ave_index_ro rfl rfl rfl (fun _ => rfl) rfl (by first | omega | assumption | decide | (simp_all; done) | (simp_all; omega)) (by first | omega | assumption | decide | (simp_all; done) | (simp_all; omega)) trivial) rfl ?_)
    refine zLG [.int _ _, .int _ _] ?_
    refine zal [.int .i64 0, .int .i64 0] 2 ?_
    refine zst (.agg [.int _ _, .int _ _]) [_, _] [[_, _]] ?_
    refine zn ?_
    refine zR ?_
    refine zLI ?_
    refine zLG [.int _ _, .int _ _, .int _ _, .int _ _, .int _ _, .int _ _, .int _ _, .int _ _, .int _ _, .int _ _, .int _ _, .int _ _, _, _, .int _ _, .int _ _, .int _ _, .int _ _, .int _ _, .int _ _, .int _ _, .int _ _, .int _ _, .int _ _, .int _ _, .int _ _, .int _ _, .int _ _] ?_
    refine zLG [.int _ _, .int _ _] ?_
    refine zLO ?_
    refine zLc (ref10_Value S (l.getD i default) a hi) ?_
    refine zLI ?_
    refine zLI ?_
    refine zn ?_
    refine zR ?_
    refine zLI ?_
    refine zLI ?_
    refine zn ?_
    refine for_end hit (le_fit (sub_cat ⟨congrArg _ (w_succ hit (by omega)), congrArg (AV.int .i64) (by unfold sumT; rw [foldl_take' _ _ _ _ hit]; rfl), trivial⟩ ⟨rfl, rfl, rfl, rfl, trivial⟩) (subO_cat trivial ⟨.inr rfl, trivial⟩) (subK_cat trivial trivial) rfl rfl rfl (by rfl) rfl)
  · have hie : i = l.length := by (have := of_decide_eq_false h21; simp only [List.length_map, List.length_take, List.length_drop] at this; omega)
    refine W_exit ?_
    repeat (first | refine pass_then ?_ | refine pass_for ?_)
    refine blockQ_hit ?_
    refine zs ?_
    refine zR ?_
    refine zLI ?_
    refine zLI ?_
    refine zn ?_
    refine zt ?_
    refine ends (l := [.int _ _]) (q := .int _ _) (.inr rfl) rfl ⟨trivial, trivial⟩ rfl rfl ?_
    rw [hie, List.take_length]
theorem witness_Break_no (m : Model) (hm : m.Wf) (op ch : Int) (s : Span) (k : Int) (h : partE m op ch s k ≠ 0 ∨ safeB m op ch s k = true) : Ok Try.prog 20 [.agg (modelC m), .int .i64 op, .int .i64 ch, .agg (spanC s), .int .i64 k] (.tup [.agg [.int .i64 0, .int .i64 0, .int .i64 0, .ro []], .bool false, .int .i64 (partE m op ch s k)]) := by
  have hc43 : (bif (partE m op ch s k != 0) then true else safeB m op ch s k) = true := by
    rcases h with h | h
    · simp [h]
    · rw [h]; simp
  --@@5
  skip
  refine fn_ok Tb_ok (fn := Try.f20) Try.func20 rfl rfl (e := [(0, _), (1, _), (2, _), (3, _), (4, _)]) rfl (by decide) rfl ?_
  refine zs ?_
  refine zR ?_
  refine zbx [.int _ _, .int _ _, .int _ _, .int _ _, .int _ _, _, .int _ _] 7 ?_
  refine zbx [.int _ _, .int _ _] 2 ?_
  refine zal [.int .i64 0, .int .i64 0, .int .i64 0, .nils] 4 ?_
  refine zLB ?_
  refine zLI ?_
  refine zn ?_
  refine zs ?_
  refine zR ?_
  refine zLG [.int _ _, .int _ _, .int _ _, .int _ _, .int _ _, _, .int _ _] ?_
  refine zLI ?_
  refine zLI ?_
  refine zLG [.int _ _, .int _ _] ?_
  refine zLI ?_
  refine zLc (depth_Safe m hm op ch s k) ?_
  refine zLT [_, _] ?_
  refine zLB ?_
  refine zLI ?_
  refine zLB ?_
  refine zLI ?_
  refine zn ?_
  refine zs ?_
  refine zs ?_
  refine zR ?_
  refine zLI ?_
  refine zLB ?_
  refine zLB ?_
  refine zgLB ?_
  refine zpLB ?_
  refine zn ?_
  refine W_cond_t (b := _) rfl (by exact hc43) ?_
  refine zs ?_
  refine zR ?_
  refine zLG [.int _ _, .int _ _, .int _ _, _] ?_
  refine zLI ?_
  refine zst (.agg [.int _ _, .int _ _, .int _ _, _]) [_, _, _, _] [[_, _, _, _]] ?_
  refine zLB ?_
  refine zLI ?_
  refine zn ?_
  refine zt ?_
  refine ends (l := [.agg [.int _ _, .int _ _, .int _ _, _], .bool _, .int _ _]) (q := .tup [.agg [.int _ _, .int _ _, .int _ _, _], .bool _, .int _ _]) (.inr rfl) rfl ⟨rfl, trivial, trivial, trivial⟩ rfl rfl ?_
  rfl
def mOneW : Model := ⟨⟨1, 1, 2⟩, -128, 127, [⟨1, 0, 0, 1, ⟨0, 0, 0, 0, 0, 0, 0, 0⟩, [3, -2], [1], ⟨1, 0⟩, ⟨0, 0⟩, 0, 0, -128, 127⟩], 1⟩
theorem law23_one : Ok Try.prog 42 [] (.agg (modelC mOneW)) := by
  refine fn_ok Tb_ok (fn := Try.f42) Try.func42 rfl rfl (e := []) rfl (by decide) rfl ?_
  refine zs ?_
  refine zR ?_
  refine zal [.int .i64 0, .int .i64 0, .int .i64 0, .int .i64 0, .int .i64 0, .nils, .int .i64 0] 7 ?_
  refine zn ?_
  refine zs ?_
  refine zR ?_
  refine zLG [.int _ _, .int _ _, .int _ _] ?_
  refine L_build Tb_ok (t := 39) (len := 2) (el := 107) (sz := 1) (es := [[_], [_]]) (z := [.int .i16 0]) rfl rfl rfl rfl rfl (by decide) trivial rfl rfl rfl rfl rfl ?_
  refine L_build Tb_ok (t := 40) (len := 1) (el := 21) (sz := 1) (es := [[_]]) (z := [.int .i32 0]) rfl rfl rfl rfl rfl (by decide) trivial rfl rfl rfl rfl rfl ?_
  refine zLG [.int _ _, .int _ _] ?_
  refine L_freeze (t := 2) (l := _) rfl rfl rfl rfl rfl rfl rfl ?_
  refine L_freeze (t := 3) (l := _) rfl rfl rfl rfl rfl rfl rfl ?_
  refine zLG [.int _ _, .int _ _, .int _ _, .int _ _, .int _ _, .int _ _, .int _ _, .int _ _, .int _ _, .int _ _, .int _ _, .int _ _, _, _, .int _ _, .int _ _, .int _ _, .int _ _, .int _ _, .int _ _, .int _ _, .int _ _] ?_
  refine L_build Tb_ok (t := 24) (len := 1) (el := 44) (sz := 22) (es := [[_, _, _, _, _, _, _, _, _, _, _, _, _, _, _, _, _, _, _, _, _, _]]) (z := [.int .i64 0, .int .i64 0, .int .i64 0, .int .i64 0, .int .i64 0, .int .i64 0, .int .i64 0, .int .i64 0, .int .i64 0, .int .i64 0, .int .i64 0, .int .i64 0, .nils, .nils, .int .i64 0, .int .i64 0, .int .i64 0, .int .i64 0, .int .i64 0, .int .i64 0, .int .i64 0, .int .i64 0]) rfl rfl rfl rfl rfl (by decide) trivial rfl rfl rfl rfl rfl ?_
  refine L_freeze (t := 6) (l := _) rfl rfl rfl rfl rfl rfl rfl ?_
  refine zLG [.int _ _, .int _ _, .int _ _, .int _ _, .int _ _, _, .int _ _] ?_
  refine zst (.agg [.int _ _, .int _ _, .int _ _, .int _ _, .int _ _, _, .int _ _]) [_, _, _, _, _, _, _] [[_, _, _, _, _, _, _]] ?_
  refine zn ?_
  refine zt ?_
  refine ends (l := [.agg [.int _ _, .int _ _, .int _ _, .int _ _, .int _ _, _, .int _ _]]) (q := .agg [.int _ _, .int _ _, .int _ _, .int _ _, .int _ _, _, .int _ _]) (.inr rfl) rfl ⟨rfl, trivial⟩ rfl rfl ?_
  rfl
theorem mOneW_Wf : mOneW.Wf := by
  simp [mOneW, Model.Wf, Shape.Wf, ListWf, MOp.Wf, Window.Wf, Scale.Wf, I64.iff, I32.iff, I16.iff, reachBytes]
theorem one_wit {up : Bool} {w : Wit} (h : WitOk mOneW 1 1 ⟨0, 10⟩ up w) : w = ⟨0, rowT (upC up) 0 10 2 (termsF mOneW 1 1 0)⟩ := by
  obtain ⟨M, k, H, hk, e, _⟩ := h.2 (by decide +kernel)
  have hM := H.eM
  rw [show elemsW (findS mOneW 1).In = 2 by decide +kernel] at hM
  have hp : posN mOneW 1 = 1 := by decide +kernel
  obtain rfl : k = 0 := by omega
  obtain rfl : M = 2 := by omega
  exact e
theorem law23_fixed : Ok Try.prog 17 [] (.bool true) := by
  obtain ⟨a, ha, h1⟩ := witness_Low mOneW mOneW_Wf 1 1 ⟨0, 10⟩
  obtain ⟨b, hb, h2⟩ := witness_High mOneW mOneW_Wf 1 1 ⟨0, 10⟩
  have h3 := witness_Break_no mOneW mOneW_Wf 1 1 ⟨0, 10⟩ 2 (.inr (by decide +kernel))
  have h4 := witness_Break_no mOneW mOneW_Wf 1 1 ⟨0, 10⟩ 3 (.inl (by decide +kernel))
  rw [one_wit ha, show rowT (upC false) 0 10 2 (termsF mOneW 1 1 0) = [0, 10] by decide +kernel, show askE mOneW 1 1 ⟨0, 10⟩ = 0 by decide +kernel] at h1
  rw [one_wit hb, show rowT (upC true) 0 10 2 (termsF mOneW 1 1 0) = [10, 0] by decide +kernel, show askE mOneW 1 1 ⟨0, 10⟩ = 0 by decide +kernel] at h2
  rw [show partE mOneW 1 1 ⟨0, 10⟩ 2 = 0 by decide +kernel] at h3
  rw [show partE mOneW 1 1 ⟨0, 10⟩ 3 = 151 by decide +kernel] at h4
  --@@6
  skip
  refine fn_ok Tb_ok (fn := Try.f17) Try.func17 rfl rfl (e := []) rfl (by decide) rfl ?_
  refine zs ?_
  refine zR ?_
  refine zLB ?_
  refine zn ?_
  refine zs ?_
  refine zR ?_
  refine zLc (law23_one) ?_
  refine zLG [.int _ _, .int _ _] ?_
  refine zLc (h1) ?_
  refine zLT [_, _] ?_
  refine zLG [.int _ _, _] ?_
  refine zLI ?_
  refine zal [.int .i64 0, .nils] 2 ?_
  refine zst (.agg [.int _ _, _]) [_, _] [[_, _]] ?_
  refine zLI ?_
  refine zn ?_
  refine zs ?_
  refine zR ?_
  refine zLc (law23_one) ?_
  refine zLG [.int _ _, .int _ _] ?_
  refine zLc (h2) ?_
  refine zLT [_, _] ?_
  refine zLG [.int _ _, _] ?_
  refine zLI ?_
  refine zal [.int .i64 0, .nils] 2 ?_
  refine zst (.agg [.int _ _, _]) [_, _] [[_, _]] ?_
  refine zLI ?_
  refine zn ?_
  refine zs ?_
  refine zR ?_
  refine zLc (law23_one) ?_
  refine zLG [.int _ _, .int _ _] ?_
  refine zLc (h3) ?_
  refine zLT [_, _, _] ?_
  refine zLG [.int _ _, .int _ _, .int _ _, _] ?_
  refine zLB ?_
  refine zLI ?_
  refine zal [.int .i64 0, .int .i64 0, .int .i64 0, .nils] 4 ?_
  refine zst (.agg [.int _ _, .int _ _, .int _ _, _]) [_, _, _, _] [[_, _, _, _]] ?_
  refine zLB ?_
  refine zLI ?_
  refine zn ?_
  refine zs ?_
  refine zR ?_
  refine zLc (law23_one) ?_
  refine zLG [.int _ _, .int _ _] ?_
  refine zLc (h4) ?_
  refine zLT [_, _, _] ?_
  refine zLG [.int _ _, .int _ _, .int _ _, _] ?_
  refine zLB ?_
  refine zLI ?_
  refine zal [.int .i64 0, .int .i64 0, .int .i64 0, .nils] 4 ?_
  refine zst (.agg [.int _ _, .int _ _, .int _ _, _]) [_, _, _, _] [[_, _, _, _]] ?_
  refine zLB ?_
  refine zLI ?_
  refine zn ?_
  refine zs ?_
  refine zR ?_
  refine zLP ?_
  refine zLI ?_
  refine zLB ?_
  refine zLB ?_
  refine zgLP ?_
  refine zgLO ?_
  refine WL_split (d := 40) (want := true) (g := true) rfl rfl rfl rfl (fun _ => ?_) (fun h => by cases h)
  refine L_build Tb_ok (t := 31) (len := 2) (el := 60) (sz := 1) (es := [[_], [_]]) (z := [.int .i8 0]) rfl rfl rfl rfl rfl (by decide) trivial rfl rfl rfl rfl rfl ?_
  refine L_freeze (t := 43) (l := _) rfl rfl rfl rfl rfl rfl rfl ?_
  refine L_callg (hr := fun hg => ref11_Same [0, 10] [0, 10] (by decide)) rfl rfl rfl rfl rfl (fun hg => ⟨⟨(by exact hg), True.intro⟩, True.intro⟩) rfl rfl ?_
  refine zpLB ?_
  refine zLB ?_
  refine zgLI ?_
  refine zgLB ?_
  refine zpLB ?_
  refine zLB ?_
  refine zgLP ?_
  refine zgLI ?_
  refine zgLB ?_
  refine zpLB ?_
  refine zLB ?_
  refine zgLP ?_
  refine zgLO ?_
  refine WL_split (d := 55) (want := true) (g := true) rfl rfl rfl rfl (fun _ => ?_) (fun h => by cases h)
  refine L_build Tb_ok (t := 31) (len := 2) (el := 60) (sz := 1) (es := [[_], [_]]) (z := [.int .i8 0]) rfl rfl rfl rfl rfl (by decide) trivial rfl rfl rfl rfl rfl ?_
  refine L_freeze (t := 58) (l := _) rfl rfl rfl rfl rfl rfl rfl ?_
  refine L_callg (hr := fun hg => ref11_Same [10, 0] [10, 0] (by decide)) rfl rfl rfl rfl rfl (fun hg => ⟨⟨(by exact hg), True.intro⟩, True.intro⟩) rfl rfl ?_
  refine zpLB ?_
  refine zLB ?_
  refine zgLI ?_
  refine zgLB ?_
  refine zpLB ?_
  refine zLB ?_
  refine zgLB ?_
  refine zgLB ?_
  refine zpLB ?_
  refine zLB ?_
  refine zgLP ?_
  refine zgLO ?_
  refine zgLI ?_
  refine zgLB ?_
  refine zpLB ?_
  refine zLB ?_
  refine zgLI ?_
  refine zgLB ?_
  refine zpLB ?_
  refine zLB ?_
  refine zgLI ?_
  refine zgLB ?_
  refine zpLB ?_
  refine zLB ?_
  refine zn ?_
  refine zt ?_
  refine ends (l := [.bool _]) (q := .bool _) (.inr rfl) rfl ⟨trivial, trivial⟩ rfl rfl ?_
  rfl
end Go.AM
end
section
open Go Go.AM Go.Proofs
set_option maxRecDepth 10000
set_option linter.unusedVariables false
set_option linter.unusedSimpArgs false
namespace Go.AM
theorem mem_getD {l : List Int} {j : Nat} (h : j < l.length) : l.getD j default ∈ l := by
  rw [List.getD_eq_getElem?_getD, List.getElem?_eq_getElem h]; exact List.getElem_mem h
theorem ref23_Numbers (S : Site) (s : Span) (a : List Int) (hl : (a.length : Int) = w64 (w64 (S.In.H * S.In.W) * S.In.C)) (hal : a.length ≤ 16384) (hs : -128 ≤ s.Lo ∧ s.Lo ≤ s.Hi ∧ s.Hi ≤ 127) (ha : ∀ v ∈ a, s.Lo ≤ v ∧ v ≤ s.Hi) :
    Ok Try.prog 48 [.agg (rsiteC S), .agg (spanC s), .ro (a.map i8C)] (.bool true) := by
  have hc22 : (((a.map i8C).length : Int) != IntKind.i64.wrap (IntKind.i64.wrap (S.In.H * S.In.W) * S.In.C)) = false := by
    rw [List.length_map, hl]; simp [w64]
  --@@1
  skip
  refine fn_ok Tb_ok (fn := Try.f48) Try.func48 rfl rfl (e := [(0, _), (1, _), (2, _)]) rfl (by decide) rfl ?_
  refine W_seq ?_
  refine W_region rfl ?_
  refine L_box Tb_ok (cs := [.int _ _, .int _ _, .int _ _, .int _ _, .int _ _, .int _ _, .int _ _, .int _ _, .int _ _, .int _ _, .int _ _, .int _ _, _, _, .int _ _, .int _ _, .int _ _, .int _ _, .int _ _, .int _ _, .int _ _, .int _ _, .int _ _, .int _ _, .int _ _, .int _ _, .int _ _, .int _ _]) (n := 28) rfl rfl rfl rfl trivial ?_
  refine L_box Tb_ok (cs := [.int _ _, .int _ _]) (n := 2) rfl rfl rfl rfl trivial ?_
  refine L_v Tb_ok (v := .bool _) (av rfl ⟨trivial, trivial⟩) rfl ?_
  refine WL_nil ?_
  refine W_seq ?_
  refine W_seq ?_
  refine W_region rfl ?_
  (refine L_v Tb_ok (v := .ro _) (av rfl ⟨trivial, trivial⟩) rfl ?_)
  refine L_v Tb_ok (v := .int _ _) (av rfl ⟨trivial, trivial⟩) rfl ?_
  refine L_v Tb_ok (v := .ptr _ _ _) (av rfl ⟨trivial, trivial⟩) rfl ?_
  refine L_v Tb_ok (v := .ptr _ _ _) (av rfl ⟨trivial, trivial⟩) rfl ?_
  refine L_v Tb_ok (v := .int _ _) (av rfl ⟨trivial, rfl⟩) rfl ?_
  refine L_v Tb_ok (v := .ptr _ _ _) (av rfl ⟨trivial, trivial⟩) rfl ?_
  refine L_v Tb_ok (v := .ptr _ _ _) (av rfl ⟨trivial, trivial⟩) rfl ?_
  refine L_v Tb_ok (v := .int _ _) (av rfl ⟨trivial, rfl⟩) rfl ?_
  refine L_v Tb_ok (v := .int _ _) (av rfl ⟨trivial, trivial⟩) rfl ?_
  refine L_v Tb_ok (v := .ptr _ _ _) (av rfl ⟨trivial, trivial⟩) rfl ?_
  refine L_v Tb_ok (v := .ptr _ _ _) (av rfl ⟨trivial, trivial⟩) rfl ?_
  refine L_v Tb_ok (v := .int _ _) (av rfl ⟨trivial, rfl⟩) rfl ?_
  refine L_v Tb_ok (v := .int _ _) (av rfl ⟨trivial, trivial⟩) rfl ?_
  refine L_v Tb_ok (v := .bool _) (av rfl ⟨trivial, trivial⟩) rfl ?_
  refine WL_nil ?_
  refine W_cond_f (b := _) rfl (by exact hc22) ?_
  refine W_skip ?_
  refine W_seq ?_
  refine W_seq ?_
  refine W_region rfl ?_
  (refine L_v Tb_ok (v := .ro _) (av rfl ⟨trivial, trivial⟩) rfl ?_)
  refine L_v Tb_ok (v := .int _ _) (av rfl ⟨trivial, trivial⟩) rfl ?_
  refine L_v Tb_ok (v := .int _ _) (av rfl ⟨trivial, trivial⟩) rfl ?_
  refine WL_nil ?_
  refine W_block ?_
  -- slot 35 changes in the loop: hint wanted
  -- slot 36 changes in the loop: hint wanted
  -- slot 37 changes in the loop: hint wanted
  -- slot 38 changes in the loop: hint wanted
  -- slot 39 changes in the loop: hint wanted
  refine W_forE (a.length) [(4, .ptr 1 0 0), (23, .ro _), (24, .int _ _)] (fun (i : Nat) => [(25, .int .i64 (i : Int))]) [(1, some ⟨_, _, _, _⟩)] (fun (i : Nat) => []) [] (fun (i : Nat) => []) 2 (le_fit (sub_cat ⟨rfl, trivial⟩ ⟨rfl, rfl, rfl, trivial⟩) (subO_cat trivial ⟨.inr rfl, trivial⟩) (subK_cat trivial trivial) rfl rfl rfl (by rfl) rfl) ?_
  intro i hi
  refine W.of_le (s' := ⟨[(25, .int .i64 (i : Int)), (4, .ptr 1 0 0), (23, .ro _), (24, .int _ _)], [(1, some ⟨_, _, _, _⟩)], [], 2⟩) (le_fit ⟨rfl, rfl, rfl, rfl, trivial⟩ ⟨.inr rfl, trivial⟩ trivial rfl rfl rfl (by rfl) rfl) ?_
  refine W_seq ?_
  refine W_region rfl ?_
  refine L_v Tb_ok (v := .bool _) (av rfl ⟨trivial, trivial⟩) rfl ?_
  refine WL_nil ?_
  refine W_seq ?_
  refine W_cond (b := _) rfl (fun h26 => ?_) (fun h26 => ?_)
  · have hit : i < a.length := by (have := of_decide_eq_true h26; simp only [List.length_map, List.length_take, List.length_drop] at this; omega)
    have hv := ha (a.getD i default) (mem_getD hit)
    have hw : IntKind.i64.wrap (a.getD i default) = a.getD i default := w64_id (by omega)
    have hc40 : (bif decide (IntKind.i64.wrap (a.getD i default) < s.Lo) then true else decide (IntKind.i64.wrap (a.getD i default) > s.Hi)) = false := by rw [hw, decide_eq_false (by omega), decide_eq_false (by omega)]; rfl
    refine W_skip ?_
    refine W_seq ?_
    refine W_block ?_
    refine W_seq ?_
    refine W_region rfl ?_
    (refine L_v Tb_ok (v := _) (ave_index_ro rfl rfl rfl (fun _ => rfl) rfl (by first | omega | assumption | decide | (simp_all; done) | (simp_all; omega)) (by first | omega | assumption | decide | (simp_all; done) | (simp_all; omega)) trivial) rfl ?_)
    refine L_v Tb_ok (v := .int _ _) (av rfl ⟨trivial, rfl⟩) rfl ?_
    refine L_v Tb_ok (v := .int _ _) (av rfl ⟨trivial, trivial⟩) rfl ?_
    refine WL_nil ?_
    refine W_seq ?_
    refine W_region rfl ?_
    refine L_v Tb_ok (v := .int _ _) (av rfl ⟨trivial, trivial⟩) rfl ?_
    refine L_v Tb_ok (v := .int _ _) (av rfl ⟨trivial, trivial⟩) rfl ?_
    refine L_v Tb_ok (v := .ptr _ _ _) (av rfl ⟨trivial, trivial⟩) rfl ?_
    refine L_v Tb_ok (v := .int _ _) (av rfl ⟨trivial, rfl⟩) rfl ?_
    refine L_v Tb_ok (v := .bool _) (av rfl ⟨trivial, trivial⟩) rfl ?_
    refine L_v Tb_ok (v := .bool _) (av rfl ⟨trivial, trivial⟩) rfl ?_
    refine L_g Tb_ok (v := .int _ _) rfl rfl ((fun hg => (av rfl ⟨trivial, trivial⟩))) rfl rfl ?_
    refine L_g Tb_ok (v := .int _ _) rfl rfl ((fun hg => (av rfl ⟨⟨⟨(by exact hg), True.intro⟩, True.intro⟩, trivial⟩))) rfl rfl ?_
    refine L_g Tb_ok (v := .ptr _ _ _) rfl rfl ((fun hg => (av rfl ⟨trivial, trivial⟩))) rfl rfl ?_
    refine L_g Tb_ok (v := .int _ _) rfl rfl ((fun hg => (av rfl ⟨⟨⟨(by exact hg), True.intro⟩, True.intro⟩, rfl⟩))) rfl rfl ?_
    refine L_g Tb_ok (v := .bool _) rfl rfl ((fun hg => (av rfl ⟨⟨⟨(by exact hg), True.intro⟩, ⟨⟨(by exact hg), True.intro⟩, True.intro⟩⟩, trivial⟩))) rfl rfl ?_
    refine L_v Tb_ok (v := .bool _) (av rfl (by refine ⟨?_, fun h => ?_, fun h => ?_⟩ <;> first | exact True.intro | (refine ⟨?_, True.intro⟩; first | (rw [h]; done) | (rw [h]; rfl) | (simp [h]; done) | (simp at h hg ⊢; simp [h, hg]; done) | (simp_all; done) | (simp_all; omega)))) rfl ?_
    refine WL_nil ?_
    refine W_cond_f (b := _) rfl (by exact hc40) ?_
    refine W_skip ?_
    refine W_region rfl ?_
    refine L_v Tb_ok (v := .int _ _) (av rfl ⟨trivial, trivial⟩) rfl ?_
    refine L_v Tb_ok (v := .int _ _) (av rfl ⟨trivial, trivial⟩) rfl ?_
    refine WL_nil ?_
    refine for_end hit (le_fit (sub_cat ⟨congrArg _ (w_succ hit (by omega)), trivial⟩ ⟨rfl, rfl, rfl, trivial⟩) (subO_cat trivial ⟨.inr rfl, trivial⟩) (subK_cat trivial trivial) rfl rfl rfl (by rfl) rfl)
  · have hie : i = a.length := by (have := of_decide_eq_false h26; simp only [List.length_map, List.length_take, List.length_drop] at this; omega)
    refine W_exit ?_
    repeat (first | refine pass_then ?_ | refine pass_for ?_)
    refine blockQ_hit ?_
    refine W_seq ?_
    refine W_region rfl ?_
    refine L_v Tb_ok (v := .bool _) (av rfl ⟨trivial, trivial⟩) rfl ?_
    refine WL_nil ?_
    refine W_ret ?_
    refine ends (l := [.bool _]) (q := .bool _) (.inr rfl) rfl ⟨trivial, trivial⟩ rfl rfl ?_
    rfl
theorem rowT_in {c : Int → Bool} {lo hi : Int} (h : lo ≤ hi) (M : Nat) (T : List Term) : ∀ v ∈ rowT c lo hi M T, lo ≤ v ∧ v ≤ hi := by
  have k : ∀ (T : List Term) (l : List Int), (∀ v ∈ l, lo ≤ v ∧ v ≤ hi) → ∀ v ∈ T.foldl (setT c hi) l, lo ≤ v ∧ v ≤ hi := by
    intro T
    induction T with
    | nil => intro l hl; exact hl
    | cons t T ih =>
      intro l hl
      simp only [List.foldl_cons]
      refine ih _ fun v hv => ?_
      unfold setT at hv
      split at hv
      · rcases List.mem_or_eq_of_mem_set hv with h1 | h1
        · exact hl v h1
        · rw [h1]; omega
      · exact hl v hv
  refine k T _ fun v hv => ?_
  rw [(List.mem_replicate.1 hv).2]; omega
theorem rc_site {m : Model} {op ch : Int} {s : Span} {M : Nat} (H : AskH m op ch s M) : rcS m op ch = findS m op := ((rc_ok H.f0).1 H.hch).2
end Go.AM
end
section
open Go Go.AM Go.Proofs
set_option maxRecDepth 10000
set_option linter.unusedVariables false
set_option linter.unusedSimpArgs false
namespace Go.AM
theorem pre_map (f : Term → Span) (T : List Term) (i k : Nat) : pre (T.map f) i k = (((T.drop i).take k).map f).foldl plusS ⟨0, 0⟩ := by
  unfold pre; rw [List.map_take, List.map_drop]
theorem okF.sub {T U : List Term} {f : Term → Span} (h : okF T f) (hs : ∀ t ∈ U, t ∈ T) : okF U f := fun t ht => h t (hs t ht)
theorem pre_val {f : Term → Span} {T : List Term} (h : okF T f) (hl : T.length ≤ 1024) (i k : Nat) : (pre (T.map f) i k).Lo ≤ (pre (T.map f) i k).Hi := by
  rw [pre_map]
  refine sum_valid _ (h.sub fun t ht => List.mem_of_mem_drop (List.mem_of_mem_take ht)) 0 _ (bS0 (by omega)) ?_ (Int.le_refl _)
  have : ((T.drop i).take k).length ≤ 1024 := by rw [List.length_take, List.length_drop]; omega
  omega
theorem pre_bS {f : Term → Span} {T : List Term} (h : okF T f) (hl : T.length ≤ 1024) (i : Nat) : ∀ k, i + k ≤ T.length → bS (4194304 * k) (pre (T.map f) i k)
  | 0, _ => bS0 (by omega)
  | k + 1, hk => by
    have ih := pre_bS h hl i k (by omega)
    have hin : T.getD (i + k) default ∈ T := getD_in (by omega)
    rw [pre_succ (by rw [List.length_map]; omega), show (T.map f).getD (i + k) default = f (T.getD (i + k) default) by simp [List.getD_eq_getElem?_getD, show i + k < T.length by omega]]
    have := (plus_eq ih (h _ hin).1 (by omega)).2
    rwa [show (4194304 : Int) * k + 4194304 = 4194304 * ((k + 1 : Nat) : Int) by omega] at this
theorem pre_one {f : Term → Span} {T : List Term} (h : okF T f) {i : Nat} (hi : i < T.length) : pre (T.map f) i 1 = f (T.getD i default) := by
  rw [pre_succ (by rw [List.length_map]; omega), pre_zero, Nat.add_zero, show (T.map f).getD i default = f (T.getD i default) by simp [List.getD_eq_getElem?_getD, hi], (plus_eq (A := 0) (bS0 (by omega)) (h _ (getD_in hi)).1 (by omega)).1]
  simp only [Int.zero_add]
theorem terms_len {m : Model} (hm : m.Wf) {op ch : Int} {s : Span} (hs : askE m op ch s = 0) {k : Nat} (hk : k < posN m op) : (termsF m op ch k).length = (findS m op).Len.toNat := by
  obtain ⟨z, hs', f0⟩ := askE_zero hs
  obtain ⟨_, fb, _⟩ := ofE_op z
  obtain ⟨hS, _⟩ := site_ok f0
  obtain ⟨hch, _⟩ := (ofBad_iff hS).1 fb
  have hb : ofBad (findS m op) ch k = false := (ofBad_iff hS).2 ⟨hch, by omega, by unfold posN at hk; omega⟩
  rw [termsF_eq f0 hb]; exact tlF_len hS ch k
theorem partE_ok {m : Model} (hm : m.Wf) {op ch : Int} {s : Span} (hs : askE m op ch s = 0) {d : Int} : partE m op ch s d = 0 ↔ 1 ≤ d ∧ d ≤ (findS m op).Len := by
  unfold partE; rw [if_pos hs]
  by_cases c : d < 1 ∨ d > (findS m op).Len
  · rw [if_pos c]; constructor
    · intro h; omega
    · intro h; omega
  · rw [if_neg c]; constructor
    · intro h; omega
    · intro h; rfl
section
variable {m : Model} (hm : m.Wf) {op ch : Int} {s : Span} (hs : askE m op ch s = 0)
include hm hs
theorem rows_ok : RowsOk (findS m op).Len.toNat (rowsF m op ch s) := by
  have key : ∀ r ∈ rowsF m op ch s, ∃ k : Nat, k < posN m op ∧ r = (termsF m op ch k).map (endF (findS m op).Op.Pad s) := by
    intro r hr
    obtain ⟨k, hk, rfl⟩ := List.mem_map.1 hr
    exact ⟨k, List.mem_range.1 hk, rfl⟩
  refine ⟨fun r hr => ?_, fun r hr i k _ => ?_, fun r hr i hi => ?_⟩
  · obtain ⟨k, hk, rfl⟩ := key r hr
    rw [List.length_map]; exact terms_len hm hs hk
  · obtain ⟨q, hq, rfl⟩ := key r hr
    exact pre_val (end_ok hm hs _) (row_len hm hs _) i k
  · obtain ⟨k, hk, rfl⟩ := key r hr
    have hi' : i < (termsF m op ch k).length := by rw [terms_len hm hs hk]; exact hi
    have ho := end_ok hm hs (k : Int)
    rw [show ((termsF m op ch k).map (endF (findS m op).Op.Pad s)).getD i default = endF (findS m op).Op.Pad s ((termsF m op ch k).getD i default) by simp [List.getD_eq_getElem?_getD, hi']]
    exact ⟨(ho _ (getD_in hi')).2, pre_one ho hi'⟩
/-- a depth's parts lie within 16 bits -/
theorem okW_in {d : Int} (hd : partE m op ch s d = 0) : okW (partS m op ch s d) = true ↔ inW (partH d.toNat (rowsF m op ch s)) := by
  obtain ⟨q, q1, q2, q3, q4⟩ := part_first (d := d) hm hs
  rw [partS, if_pos hd]
  generalize partH d.toNat (rowsF m op ch s) = H at *
  unfold okW holdsF wordS hullS inW
  rw [decide_eq_true_eq]
  dsimp only
  exact ⟨fun h _ => by omega, fun h => by have := h q2; omega⟩
theorem safe_iff {d : Int} (hd : partE m op ch s d = 0) : okW (partS m op ch s d) = true ↔ ∀ k, k < (rowsF m op ch s).length → ∀ i, i < ((rowsF m op ch s).getD k default).length → blkOk d.toNat ((rowsF m op ch s).getD k default) i := by
  rw [okW_in hm hs hd, partH_W]
  constructor
  · intro h k hk i hi
    have := h _ (by rw [List.getD_eq_getElem?_getD, List.getElem?_eq_getElem hk]; exact List.getElem_mem hk) i hi
    unfold blkOk
    rw [narB_iff, narB_iff, part_pre _ _ _ _ hi]; exact this
  · intro h r hr i hi
    obtain ⟨k, hk, rfl⟩ := List.getElem_of_mem hr
    have e : (rowsF m op ch s).getD k default = (rowsF m op ch s)[k] := by simp [List.getD_eq_getElem?_getD, hk]
    have := h k hk i (by rw [e]; exact hi)
    rw [e] at this
    unfold blkOk at this
    rw [narB_iff, narB_iff, part_pre _ _ _ _ hi] at this; exact this
def mostM (m : Model) (op ch : Int) (s : Span) : Nat := mostD (fun d => okW (partS m op ch s (d : Int))) (findS m op).Len.toNat
theorem ref18_Rows : Ok Try.prog 43 [.agg (rsiteC (rcS m op ch)), .int .i64 ch, .agg (spanC s)] (.ro ((rowsF m op ch s).map rowC)) ∧ rcS m op ch = findS m op := by
  obtain ⟨z, hs', f0⟩ := askE_zero hs
  obtain ⟨_, fb, _⟩ := ofE_op z
  obtain ⟨hS, _⟩ := site_ok f0
  obtain ⟨hch, _⟩ := (ofBad_iff hS).1 fb
  obtain ⟨e1, e2⟩ := (rc_ok f0).1 hch
  rw [e2]
  exact ⟨ref13_Rows hm z hs', rfl⟩
theorem ref18_safes {d : Int} (hd : partE m op ch s d = 0) : Ok Try.prog 56 [.ro ((rowsF m op ch s).map rowC), .int .i64 d] (.bool (okW (partS m op ch s d))) := by
  have := (partE_ok hm hs).1 hd
  exact ref18_safe _ d d.toNat (by omega) (by omega) (fun k hk => rowsF_len512 hk) (rowsF_len hs) _ (safe_iff hm hs hd)
theorem ref18_Safe {d : Int} (hd : partE m op ch s d = 0) : Ok Try.prog 22 [.agg (rsiteC (rcS m op ch)), .int .i64 ch, .agg (spanC s), .int .i64 d] (.bool (okW (partS m op ch s d))) := by
  have hR := (ref18_Rows hm hs).1
  have hS := ref18_safes hm hs hd
  --@@1
  skip
  refine fn_ok Tb_ok (fn := Try.f22) Try.func22 rfl rfl (e := [(0, _), (1, _), (2, _), (3, _)]) rfl (by decide) rfl ?_
  refine zs ?_
  refine zR ?_
  refine zbx [.int _ _, .int _ _, .int _ _, .int _ _, .int _ _, .int _ _, .int _ _, .int _ _, .int _ _, .int _ _, .int _ _, .int _ _, _, _, .int _ _, .int _ _, .int _ _, .int _ _, .int _ _, .int _ _, .int _ _, .int _ _, .int _ _, .int _ _, .int _ _, .int _ _, .int _ _, .int _ _] 28 ?_
  refine zbx [.int _ _, .int _ _] 2 ?_
  refine zLB ?_
  refine zn ?_
  refine zs ?_
  refine zR ?_
  refine zLG [.int _ _, .int _ _, .int _ _, .int _ _, .int _ _, .int _ _, .int _ _, .int _ _, .int _ _, .int _ _, .int _ _, .int _ _, _, _, .int _ _, .int _ _, .int _ _, .int _ _, .int _ _, .int _ _, .int _ _, .int _ _, .int _ _, .int _ _, .int _ _, .int _ _, .int _ _, .int _ _] ?_
  refine zLI ?_
  refine zLG [.int _ _, .int _ _] ?_
  refine zLc (hR) ?_
  refine zLI ?_
  refine zLc (hS) ?_
  refine zLB ?_
  refine zn ?_
  refine zt ?_
  refine ends (l := [.bool _]) (q := .bool _) (.inr rfl) rfl ⟨trivial, trivial⟩ rfl rfl ?_
  rfl
theorem ref18_Most : Ok Try.prog 28 [.agg (rsiteC (rcS m op ch)), .int .i64 ch, .agg (spanC s)] (.int .i64 (mostM m op ch s : Int)) := by
  obtain ⟨hR, e2⟩ := ref18_Rows hm hs
  have f0 := (askE_zero hs).2.2
  have hL := ref10_Length (rcS m op ch)
  rw [e2, lenF_site f0] at hL
  have hLb := (site_ok f0).1.len
  have hsafe : ∀ k : Nat, 0 < k → k ≤ (findS m op).Len.toNat → Ok Try.prog 56 [.ro ((rowsF m op ch s).map rowC), .int .i64 (k : Int)] (.bool (okW (partS m op ch s (k : Int)))) := fun k h1 h2 => ref18_safes hm hs ((partE_ok hm hs).2 ⟨by omega, by omega⟩)
  unfold mostM
  generalize hn : (findS m op).Len.toNat = n at *
  have hLn : (findS m op).Len = (n : Int) := by omega
  rw [hLn] at hL
  rw [e2] at hR ⊢
  generalize rowsF m op ch s = L at *
  --@@2
  skip
  refine fn_ok Tb_ok (fn := Try.f28) Try.func28 rfl rfl (e := [(0, _), (1, _), (2, _)]) rfl (by decide) rfl ?_
  refine zs ?_
  refine zR ?_
  refine zbx [.int _ _, .int _ _, .int _ _, .int _ _, .int _ _, .int _ _, .int _ _, .int _ _, .int _ _, .int _ _, .int _ _, .int _ _, _, _, .int _ _, .int _ _, .int _ _, .int _ _, .int _ _, .int _ _, .int _ _, .int _ _, .int _ _, .int _ _, .int _ _, .int _ _, .int _ _, .int _ _] 28 ?_
  refine zbx [.int _ _, .int _ _] 2 ?_
  refine zLI ?_
  refine zn ?_
  refine zs ?_
  refine zR ?_
  refine zLG [.int _ _, .int _ _, .int _ _, .int _ _, .int _ _, .int _ _, .int _ _, .int _ _, .int _ _, .int _ _, .int _ _, .int _ _, _, _, .int _ _, .int _ _, .int _ _, .int _ _, .int _ _, .int _ _, .int _ _, .int _ _, .int _ _, .int _ _, .int _ _, .int _ _, .int _ _, .int _ _] ?_
  refine zLI ?_
  refine zLG [.int _ _, .int _ _] ?_
  refine zLc (hR) ?_
  refine zLO ?_
  refine zn ?_
  refine zs ?_
  refine zs ?_
  refine zR ?_
  refine zLG [.int _ _, .int _ _, .int _ _, .int _ _, .int _ _, .int _ _, .int _ _, .int _ _, .int _ _, .int _ _, .int _ _, .int _ _, _, _, .int _ _, .int _ _, .int _ _, .int _ _, .int _ _, .int _ _, .int _ _, .int _ _, .int _ _, .int _ _, .int _ _, .int _ _, .int _ _, .int _ _] ?_
  refine zLc (hL) ?_
  refine zLI ?_
  refine zn ?_
  refine W_block ?_
  refine W_inv (ι := {k : Nat // k ≤ n ∧ ∀ j, k < j → j ≤ n → okW (partS m op ch s (j : Int)) = false}) (fun k => ⟨[(7, .ro (L.map rowC)), (8, .int .i64 (k.1 : Int))], [], [], 0⟩) (fun k => k.1) ⟨n, Nat.le_refl _, fun j h1 h2 => by omega⟩ (le_fit ⟨rfl, rfl, trivial⟩ trivial trivial rfl rfl rfl rfl rfl) ?_
  rintro ⟨k, hk, hf⟩
  dsimp only
  refine zs ?_
  refine zs ?_
  refine zR ?_
  refine zLI ?_
  refine zLB ?_
  refine zn ?_
  refine W_cond (b := _) rfl (fun h16 => ?_) (fun h16 => ?_)
  · have hk0 : 0 < k := by have := of_decide_eq_true h16; omega
    refine zk ?_
    refine zs ?_
    refine W_block ?_
    refine zs ?_
    refine zR ?_
    refine zLO ?_
    refine zLI ?_
    refine zLc (hsafe k hk0 hk) ?_
    refine zn ?_
    refine W_cond (b := _) rfl (fun h21 => ?_) (fun h21 => ?_)
    · refine zs ?_
      refine zR ?_
      refine zLI ?_
      refine zLI ?_
      refine zn ?_
      refine zt ?_
      refine ends (l := [.int _ _]) (q := .int _ _) (.inr rfl) rfl ⟨trivial, trivial⟩ rfl rfl ?_
      congr 1
      exact congrArg _ (mostD_eq (p := fun d : Nat => okW (partS m op ch s (d : Int))) hk (.inr h21) hf).symm
    · refine zk ?_
      refine zR ?_
      refine zLI ?_
      refine zLI ?_
      refine zLI ?_
      refine zn ?_
      refine round_end (Q := fun _ _ => True) ⟨k - 1, by omega, fun j h1 h2 => ?_⟩ (by dsimp only; omega) (le_fit ⟨rfl, congrArg (AV.int .i64) (show IntKind.i64.wrap ((k : Int) - 1) = ((k - 1 : Nat) : Int) from (w64_id (by omega)).trans (by omega)), trivial⟩ trivial trivial rfl rfl rfl rfl rfl)
      by_cases e : j = k
      · rw [e]; exact h21
      · exact hf j (by omega) h2
  · have hk0 : k = 0 := by have := of_decide_eq_false h16; omega
    refine W_exit ?_
    repeat (first | refine pass_then ?_ | refine pass_round ?_)
    refine blockQ_hit ?_
    refine zs ?_
    refine zR ?_
    refine zLI ?_
    refine zn ?_
    refine zt ?_
    refine ends (l := [.int _ _]) (q := .int _ _) (.inr rfl) rfl ⟨trivial, trivial⟩ rfl rfl ?_
    rw [mostD_eq (p := fun d : Nat => okW (partS m op ch s (d : Int))) (k := 0) (Nat.zero_le _) (.inl rfl) (fun j h1 h2 => hf j (by omega) h2)]; rfl
end
end Go.AM
end
section
open Go Go.AM Go.Proofs
set_option maxRecDepth 10000
set_option linter.unusedVariables false
set_option linter.unusedSimpArgs false
namespace Go.AM
def leakT (m : Model) (op ch : Int) (k f n : Nat) : List Term := ((termsF m op ch k).drop f).take n
def leakX (m : Model) (op ch : Int) (s : Span) (M k f n : Nat) (up : Bool) : List Int := rowT (upC up) s.Lo s.Hi M (leakT m op ch k f n)
def leakV (m : Model) (op ch : Int) (s : Span) (M k f n : Nat) (up : Bool) : Int := sumT 0 (leakT m op ch k f n) (leakX m op ch s M k f n up) (findS m op).Op.Pad
def badB (v : Int) : Bool := v != IntKind.i64.wrap (IntKind.i16.wrap v)
theorem badB_iff {v : Int} (hv : I64 v) : badB v = true ↔ v < -32768 ∨ v > 32767 := by
  have := I64.iff.1 hv
  unfold badB
  rw [bne_iff_ne]
  have e : IntKind.i64.wrap (IntKind.i16.wrap v) = IntKind.i16.wrap v := by
    have h : -32768 ≤ IntKind.i16.wrap v ∧ IntKind.i16.wrap v ≤ 32767 := by simp [IntKind.wrap, IntKind.bits, IntKind.signed]; split <;> omega
    exact w64_id (by omega)
  rw [e]
  constructor
  · intro h
    by_cases c : v < -32768 ∨ v > 32767
    · exact c
    · exact absurd (by simp [IntKind.wrap, IntKind.bits, IntKind.signed]; split <;> omega : v = IntKind.i16.wrap v) h
  · intro h q
    have h2 : -32768 ≤ IntKind.i16.wrap v ∧ IntKind.i16.wrap v ≤ 32767 := by simp [IntKind.wrap, IntKind.bits, IntKind.signed]; split <;> omega
    omega
theorem leakT_mem {m : Model} {op ch : Int} {k f n : Nat} {t : Term} (h : t ∈ leakT m op ch k f n) : t ∈ termsF m op ch k := List.mem_of_mem_drop (List.mem_of_mem_take h)
theorem sub_ends {S : Site} (hS : SiteOk S) {ch k : Int} (hch : 1 ≤ ch ∧ ch ≤ S.Out.C) (hk : 0 ≤ k ∧ k < S.Out.H * S.Out.W) {s : Span} (hs : -128 ≤ s.Lo ∧ s.Lo ≤ s.Hi ∧ s.Hi ≤ 127) {M : Nat} (hM : (M : Int) = S.In.H * S.In.W * S.In.C) (hW : ∀ t ∈ tlF S ch k, -32768 ≤ t.W ∧ t.W ≤ 32767) {T : List Term} (hT : ∀ t ∈ T, t ∈ tlF S ch k) :
    (∀ t ∈ T, w64 (t.W * vT (rowT (upC false) s.Lo s.Hi M T) S.Op.Pad t) = (endF S.Op.Pad s t).Lo) ∧ ∀ t ∈ T, w64 (t.W * vT (rowT (upC true) s.Lo s.Hi M T) S.Op.Pad t) = (endF S.Op.Pad s t).Hi := by
  have hp := (pad_bd hS).1
  have u0 : upC false = fun w => !decide (w > 0) := by funext w; unfold upC; cases decide (w > 0) <;> rfl
  have u1 : upC true = fun w => decide (w > 0) := by funext w; unfold upC; cases decide (w > 0) <;> rfl
  rw [u0, u1]
  have both : ∀ (c : Int → Bool), ∀ t ∈ T, vT (rowT c s.Lo s.Hi M T) S.Op.Pad t = if t.At < 0 then S.Op.Pad else if c t.W = true then s.Hi else s.Lo := by
    intro c t ht
    unfold vT
    rcases tlF_at hS hch k t (hT t ht) with h | ⟨h1, h2⟩
    · rw [if_neg (by omega), if_pos (by omega)]
    · rw [if_pos (by omega), if_neg (by omega), rowT_at (fun t ht u hu h0 he => by rw [term_same hS hch hk t (hT t ht) u (hT u hu) h0 he]) ht h1 (by omega)]
      split <;> exact w64_id (by omega)
  have m1 := fun t ht => mul_small (hW t ht) (show -128 ≤ s.Lo ∧ s.Lo ≤ 127 by omega)
  have m2 := fun t ht => mul_small (hW t ht) (show -128 ≤ s.Hi ∧ s.Hi ≤ 127 by omega)
  have m3 := fun t ht => mul_small (hW t ht) hp
  refine ⟨fun t ht => ?_, fun t ht => ?_⟩
  · rw [both _ t ht]
    have a1 := m1 t (hT t ht); have a2 := m2 t (hT t ht); have a3 := m3 t (hT t ht)
    unfold endF tmS
    by_cases c : t.At < 0
    · rw [if_pos c, if_pos c]; split <;> (dsimp only; rw [Int.mul_comm S.Op.Pad]; exact w64_id (by omega))
    · rw [if_neg c, if_neg c]
      by_cases d : t.W < 0
      · rw [if_pos d, if_pos (by simp; omega)]; dsimp only; rw [Int.mul_comm s.Hi]; exact w64_id (by omega)
      · rw [if_neg d]
        by_cases e : t.W > 0
        · rw [if_neg (by simp [e])]; dsimp only; rw [Int.mul_comm s.Lo]; exact w64_id (by omega)
        · rw [show t.W = 0 by omega]; simp [w64, IntKind.wrap_i64]
  · rw [both _ t ht]
    have a1 := m1 t (hT t ht); have a2 := m2 t (hT t ht); have a3 := m3 t (hT t ht)
    unfold endF tmS
    by_cases c : t.At < 0
    · rw [if_pos c, if_pos c]; split <;> (dsimp only; rw [Int.mul_comm S.Op.Pad]; exact w64_id (by omega))
    · rw [if_neg c, if_neg c]
      by_cases d : t.W < 0
      · rw [if_pos d, if_neg (by simp; omega)]; dsimp only; rw [Int.mul_comm s.Lo]; exact w64_id (by omega)
      · rw [if_neg d]
        by_cases e : t.W > 0
        · rw [if_pos (by simp [e])]; dsimp only; rw [Int.mul_comm s.Hi]; exact w64_id (by omega)
        · rw [show t.W = 0 by omega]; simp [w64, IntKind.wrap_i64]
theorem leak_val {m : Model} (hm : m.Wf) {op ch : Int} {s : Span} {M : Nat} (H : AskH m op ch s M) {k : Nat} (hk : k < posN m op) (f n : Nat) :
    leakV m op ch s M k f n false = (pre ((rowsF m op ch s).getD k default) f n).Lo ∧ leakV m op ch s M k f n true = (pre ((rowsF m op ch s).getD k default) f n).Hi := by
  obtain ⟨hS, _⟩ := site_ok H.f0
  have hp := H.pos
  have hb := H.bad k hk
  have e := termsF_eq H.f0 hb
  have hrow : (rowsF m op ch s).getD k default = (termsF m op ch k).map (endF (findS m op).Op.Pad s) := by simp [rowsF, rowF, List.getD_eq_getElem?_getD, hk]
  have E := sub_ends hS H.hch (k := (k : Int)) (by omega) H.hs (M := M) H.eM (by have h := termsF_W hm op ch k; rw [e] at h; exact h) (T := leakT m op ch k f n) (fun t ht => by rw [← e]; exact leakT_mem ht)
  unfold pre
  rw [hrow, ← List.map_drop, ← List.map_take]
  exact ⟨sumT_lo _ _ _ E.1, sumT_hi _ _ _ E.2⟩
theorem sumT_I64 (T : List Term) (x : List Int) (pad : Int) : I64 (sumT 0 T x pad) := by
  cases h : T.reverse with
  | nil => rw [List.reverse_eq_nil_iff.1 h]; exact I64.iff.2 (by show -9223372036854775808 ≤ (0 : Int) ∧ (0 : Int) ≤ 9223372036854775807; omega)
  | cons t l =>
    have e : T = l.reverse ++ [t] := by rw [← List.reverse_reverse T, h, List.reverse_cons]
    unfold sumT
    rw [e, List.foldl_append]
    exact I64.iff.2 (by simp only [List.foldl_cons, List.foldl_nil]; generalize l.reverse.foldl (fun s t => w64 (s + w64 (t.W * vT x pad t))) 0 + w64 (t.W * vT x pad t) = z; simp only [w64, IntKind.wrap_i64]; omega)
/-- the four that are tried at a term -/
def pickL (m : Model) (op ch : Int) (s : Span) (M D k i : Nat) : Option (Nat × Bool) :=
  bif badB (leakV m op ch s M k i (i + 1 - i) false) then some (i, false) else bif badB (leakV m op ch s M k i (i + 1 - i) true) then some (i, true) else
    bif badB (leakV m op ch s M k (i / D * D) (i + 1 - i / D * D) false) then some (i / D * D, false) else bif badB (leakV m op ch s M k (i / D * D) (i + 1 - i / D * D) true) then some (i / D * D, true) else none
theorem pickL_some {m : Model} {op ch : Int} {s : Span} {M D k i : Nat} {q : Nat × Bool} (h : pickL m op ch s M D k i = some q) : (q.1 = i ∨ q.1 = i / D * D) ∧ badB (leakV m op ch s M k q.1 (i + 1 - q.1) q.2) = true := by
  unfold pickL at h
  cases h1 : badB (leakV m op ch s M k i (i + 1 - i) false) <;> simp only [h1, cond_true, cond_false] at h
  · cases h2 : badB (leakV m op ch s M k i (i + 1 - i) true) <;> simp only [h2, cond_true, cond_false] at h
    · cases h3 : badB (leakV m op ch s M k (i / D * D) (i + 1 - i / D * D) false) <;> simp only [h3, cond_true, cond_false] at h
      · cases h4 : badB (leakV m op ch s M k (i / D * D) (i + 1 - i / D * D) true) <;> simp only [h4, cond_true, cond_false] at h
        · cases h
        · cases h; exact ⟨.inr rfl, h4⟩
      · cases h; exact ⟨.inr rfl, h3⟩
    · cases h; exact ⟨.inl rfl, h2⟩
  · cases h; exact ⟨.inl rfl, h1⟩
theorem opt4_none {α : Type} {a b c d : Bool} {x y z w : α} (h : (bif a then some x else bif b then some y else bif c then some z else bif d then some w else none) = none) : a = false ∧ b = false ∧ c = false ∧ d = false := by
  cases a <;> cases b <;> cases c <;> cases d <;> simp at h ⊢
/-- where a depth is not safe, one of these is bad -/
theorem leak_ex {m : Model} (hm : m.Wf) {op ch : Int} {s : Span} {M : Nat} (hz : askE m op ch s = 0) (H : AskH m op ch s M) {d : Int} {D : Nat} (hd : d = (D : Int)) (hD : 1 ≤ D) (hp : partE m op ch s d = 0) (hs : safeB m op ch s d = false) : ∃ k, k < posN m op ∧ ∃ i, i < (termsF m op ch k).length ∧ pickL m op ch s M D k i ≠ none := by
  have hn : ¬ okW (partS m op ch s d) = true := by
    intro q; unfold safeB at hs; rw [hp] at hs; simp at hs; rw [hs] at q; cases q
  rw [safe_iff hm hz hp] at hn
  have hrl : (rowsF m op ch s).length = posN m op := by simp [rowsF]
  refine Classical.byContradiction fun hc => hn fun k hk i hi => ?_
  rw [hrl] at hk
  have hrow : (rowsF m op ch s).getD k default = (termsF m op ch k).map (endF (findS m op).Op.Pad s) := by simp [rowsF, rowF, List.getD_eq_getElem?_getD, hk]
  have hi2 := hi
  rw [hrow, List.length_map] at hi2
  have hnone : pickL m op ch s M D k i = none := Classical.byContradiction fun q => hc ⟨k, hk, i, hi2, q⟩
  have V := leak_val hm H hk
  obtain ⟨b1, b2, b3, b4⟩ := opt4_none hnone
  have ok : ∀ f n up, badB (leakV m op ch s M k f n up) = false → -32768 ≤ leakV m op ch s M k f n up ∧ leakV m op ch s M k f n up ≤ 32767 := fun f n up q => by
    have := (badB_iff (v := leakV m op ch s M k f n up) (sumT_I64 _ _ _)).2
    refine ⟨?_, ?_⟩
    · by_cases c : leakV m op ch s M k f n up < -32768
      · rw [this (.inl c)] at q; cases q
      · omega
    · by_cases c : leakV m op ch s M k f n up > 32767
      · rw [this (.inr c)] at q; cases q
      · omega
  have v1 := ok _ _ _ b1; have v2 := ok _ _ _ b2; have v3 := ok _ _ _ b3; have v4 := ok _ _ _ b4
  rw [(V _ _).1] at v1 v3
  rw [(V _ _).2] at v2 v4
  have hmod : i - i % D = i / D * D := by have := Nat.div_add_mod i D; rw [Nat.mul_comm] at this; omega
  have hdn : d.toNat = D := by omega
  rw [hdn]
  unfold blkOk
  rw [narB_iff, narB_iff, part_pre _ _ _ _ hi, hmod]
  have hle : i / D * D ≤ i := by omega
  have e1 : i % D + 1 = i + 1 - i / D * D := by have := Nat.mod_le i D; omega
  rw [e1]
  have e2 : (pre ((rowsF m op ch s).getD k default) i 1) = ⟨w64 (0 + (((rowsF m op ch s).getD k default).getD i default).Lo), w64 (0 + (((rowsF m op ch s).getD k default).getD i default).Hi)⟩ := by
    rw [show (1 : Nat) = 0 + 1 from rfl, pre_succ (by omega), pre_zero]; rfl
  rw [show i + 1 - i = 1 by omega, e2] at v1 v2
  have hm2 : ((rowsF m op ch s).getD k default).getD i default = endF (findS m op).Op.Pad s ((termsF m op ch k).getD i default) := by rw [hrow]; simp [List.getD_eq_getElem?_getD, hi2]
  have hE := end_ok hm hz (k : Int) ((termsF m op ch k).getD i default) (by rw [List.getD_eq_getElem?_getD, List.getElem?_eq_getElem hi2]; exact List.getElem_mem hi2)
  rw [← hm2] at hE
  generalize ((rowsF m op ch s).getD k default).getD i default = z at *
  obtain ⟨⟨⟨g1, g2⟩, g3, g4⟩, _⟩ := hE
  unfold nar
  rw [show w64 (0 + z.Lo) = z.Lo from (w64_id (by omega)).trans (by omega)] at v1
  rw [show w64 (0 + z.Hi) = z.Hi from (w64_id (by omega)).trans (by omega)] at v2
  exact ⟨⟨v3.1, v4.2⟩, v1.1, v2.2⟩
end Go.AM
end
section
namespace Go.AM
open Go.RowKit
set_option linter.unusedVariables false
set_option linter.unusedSimpArgs false
section
variable {P : Program} {T : Tab} {nt lo : Nat}
theorem E_slice {G : Env → Prop} {ops : Array Oper} {rest : List Oper} {e : Env} {O : Objs} {K : Toks} {nx d : Nat} {ty : TypeId} {pos : String} {after : Array Edge} (hT : Tab.Ok P T) {t el sz : Nat} {x y z : Operand} {l : List (List AV)} {ky kz : IntKind} {p q : Int} (hx : strip (ev e x) = .ro l) (hy : strip (ev e y) = .int ky p) (hz : strip (ev e z) = .int kz q)
    (hk : (T.at t).kind = .slice el) (hsz : (T.at el).size = sz) (hpos : Nat.blt 0 sz = true) (hl : ∀ c ∈ l, c.length = sz) (h0 : 0 ≤ p) (h1 : p ≤ q) (h2 : q ≤ l.length) (hs : sg (ev e x) ∧ sg (ev e y) ∧ sg (ev e z)) (hd : Nat.blt d nt = true)
    (hn : LexE P nt lo ops O K nx rest ((d, .ro ((l.drop p.toNat).take (q.toNat - p.toNat))) :: e) G) : LexE P nt lo ops O K nx (⟨some d, .slice t x (some y) (some z) none, ty, pos, after, none⟩ :: rest) e G := by
  refine ⟨.ro ((l.drop p.toNat).take (q.toNat - p.toNat)), fun β a w e' he hr => .inl ⟨wanted_none rfl _, fun K' Q' hk' => ?_⟩, by dsimp only; rw [wr_some hd]; exact hn⟩
  obtain ⟨hdm, μ, F, hE, hX⟩ := hr
  have ex : ev e' x = ev e x := ev_on he x (by simp [Op.operands])
  have ey : ev e' y = ev e y := ev_on he y (by simp [Op.operands])
  have ez : ev e' z = ev e z := ev_on he z (by simp [Op.operands])
  have rx := (hE.ev x).strip (by dsimp only; rw [ex]; exact hs.1)
  have ry := (hE.ev y).strip (by dsimp only; rw [ey]; exact hs.2.1)
  have rz := (hE.ev z).strip (by dsimp only; rw [ez]; exact hs.2.2)
  dsimp only at rx ry rz
  rw [ex, hx] at rx
  rw [ey, hy] at ry
  rw [ez, hz] at rz
  obtain ⟨ti, hti, h3, _⟩ := hT.info (Tab.ne_none hk (by simp))
  rw [h3] at hk
  have hu := kind_slice hk
  have hpz : 0 < sz := by simpa [Nat.blt_eq] using hpos
  obtain ⟨ei, hei, _, hes, _⟩ := hT.info (t := el) (Tab.ne_none' (by omega))
  obtain ⟨ad, n, cap, hcv, hqc, hrel⟩ := ro_slice rx hl (p := p.toNat) (q := q.toNat) (by omega) (by omega)
  generalize hcx : a.eval x = cx at rx hcv
  generalize hcy : a.eval y = cy at ry
  generalize hcz : a.eval z = cz at rz
  cases ry; cases rz
  subst hcv
  have hrun : (execOp a.eval ⟨some d, .slice t x (some y) (some z) none, ty, pos, after, none⟩).run P w = .ok (.value (.slice (if cap = p.toNat then ad else ad.map (·.add (p.toNat * sz))) (q.toNat - p.toNat) (cap - p.toNat))) w := by
    have e1 : 0 ≤ q ∧ q ≤ (cap : Int) := by omega
    have e2 : 0 ≤ p ∧ p ≤ ((q.toNat : Nat) : Int) := by omega
    simp [execOp, hcx, hcy, hcz, Instr.sliceAt, Instr.slice, run_und hu, Instr.sliceBounds, Instr.sliceBound, asIntOf, e1, e2, run_size hei, ← hes, hsz]
    all_goals (intro hh; exact absurd hh (by omega))
  unfold Oper.wp
  rw [hrun]
  exact hk' _ w (Rel.put (s := ⟨e', O, K, nx⟩) (d := some d) hdm hE hrel hX)
theorem E_slice_map {G : Env → Prop} {ops : Array Oper} {rest : List Oper} {e : Env} {O : Objs} {K : Toks} {nx d : Nat} {ty : TypeId} {pos : String} {after : Array Edge} (hT : Tab.Ok P T) {α : Type} {f : α → List AV} {xs : List α} (a c : Nat) {t el sz : Nat} {x y z : Operand} {ky kz : IntKind} {p q : Int} (hx : strip (ev e x) = .ro (xs.map f)) (hy : strip (ev e y) = .int ky p) (hz : strip (ev e z) = .int kz q)
    (hk : (T.at t).kind = .slice el) (hsz : (T.at el).size = sz) (hpos : Nat.blt 0 sz = true) (hl : ∀ x, (f x).length = sz) (ha : p = (a : Int)) (hc : q = (c : Int)) (h1 : a ≤ c) (h2 : c ≤ xs.length) (hs : sg (ev e x) ∧ sg (ev e y) ∧ sg (ev e z)) (hd : Nat.blt d nt = true)
    (hn : LexE P nt lo ops O K nx rest ((d, .ro (((xs.drop a).take (c - a)).map f)) :: e) G) : LexE P nt lo ops O K nx (⟨some d, .slice t x (some y) (some z) none, ty, pos, after, none⟩ :: rest) e G := by
  subst ha hc
  refine E_slice hT hx hy hz hk hsz hpos (fun c hc => by obtain ⟨x, _, rfl⟩ := List.mem_map.1 hc; exact hl x) (by omega) (by omega) (by rw [List.length_map]; omega) hs hd ?_
  rw [Int.toNat_natCast, Int.toNat_natCast, ← List.map_drop, ← List.map_take]
  exact hn
end
end Go.AM
end
section
open Go Go.AM Go.Proofs
set_option maxRecDepth 10000
set_option linter.unusedVariables false
set_option linter.unusedSimpArgs false
namespace Go.AM
def leakC (k f n : Nat) (X : List Int) : List AV := [.int .i64 (k : Int), .int .i64 (f : Int), .int .i64 (n : Int), .ro (X.map i8C)]
/-- a leak -/
structure LeakH (m : Model) (op ch : Int) (s : Span) (D M k i f : Nat) (up : Bool) : Prop where
  H : AskH m op ch s M
  hk : k < posN m op
  hi : i < (termsF m op ch k).length
  hf : f = i ∨ f = i / D * D
  bad : badB (leakV m op ch s M k f (i + 1 - f) up) = true
theorem witness_Break {m : Model} (hm : m.Wf) {op ch : Int} {s : Span} {d : Int} (hp : partE m op ch s d = 0) (hs : safeB m op ch s d = false) :
    ∃ D M k i f up, d = ((D : Nat) : Int) ∧ 1 ≤ D ∧ LeakH m op ch s D M k i f up ∧ Ok Try.prog 20 [.agg (modelC m), .int .i64 op, .int .i64 ch, .agg (spanC s), .int .i64 d] (.tup [.agg (leakC k f (i + 1) (leakX m op ch s M k f (i + 1 - f) up)), .bool true, .int .i64 0]) := by
  have hz := partE_zero hp
  obtain ⟨M, H⟩ := ask_h hm hz
  have hM1 := H.M1
  have hpn := H.pn
  obtain ⟨hS, ⟨o1, o2⟩, hop, he, _⟩ := site_ok H.f0
  have hn := (whole_ok he).1
  have hL := hS.len
  have hdd : 1 ≤ d ∧ d ≤ (findS m op).Len := by
    have h := hp
    unfold partE at h
    rw [if_pos hz] at h
    split at h <;> omega
  obtain ⟨D, hD⟩ : ∃ D : Nat, d = (D : Int) := ⟨d.toNat, by omega⟩
  obtain ⟨n0, hn0⟩ := leak_ex hm hz H hD (by omega) hp hs
  obtain ⟨k0, hk0, ⟨hk1, i1, hi1⟩, hkm⟩ := exists_first (P := fun k => k < posN m op ∧ ∃ i, i < (termsF m op ch k).length ∧ pickL m op ch s M D k i ≠ none) n0 hn0
  obtain ⟨i0, hi0, ⟨hi2, hi3⟩, him⟩ := exists_first (P := fun i => i < (termsF m op ch k0).length ∧ pickL m op ch s M D k0 i ≠ none) i1 hi1
  obtain ⟨⟨f0, up0⟩, hq0⟩ : ∃ q, pickL m op ch s M D k0 i0 = some q := by
    cases h : pickL m op ch s M D k0 i0 with
    | none => exact absurd h hi3
    | some q => exact ⟨q, rfl⟩
  have hsm := pickL_some hq0
  refine ⟨D, M, k0, i0, f0, up0, hD, by omega, ⟨H, hk1, hi2, hsm.1, hsm.2⟩, ?_⟩
  have ow : IntKind.i64.wrap (op - 1) = op - 1 := w64_id (by omega)
  have x0 : 0 ≤ IntKind.i64.wrap (op - 1) := by rw [ow]; omega
  have x1 : IntKind.i64.wrap (op - 1) < (m.Ops.length : Int) := by rw [ow]; omega
  have hpad : (m.Ops.getD (IntKind.i64.wrap (op - 1)).toNat default).Pad = (findS m op).Op.Pad := by rw [ow, hop]
  have hsz := witness_size H.f0 H.eM
  have hnum : ∀ (k f n : Nat) (up : Bool), Ok Try.prog 53 [.ro ((((termsF m op ch k).drop f).take n).map termC), .agg (spanC s), .int .i64 (M : Int), .bool up] (.ro ((leakX m op ch s M k f n up).map i8C)) := fun k f n up =>
    witness_numbers _ s M up H.hs H.M1 (by have := H.tl k; rw [List.length_take, List.length_drop]; omega) (fun t ht => H.tat k t (List.mem_of_mem_drop (List.mem_of_mem_take ht)))
  have hsum : ∀ (k f n : Nat) (up : Bool), Ok Try.prog 54 [.ro ((((termsF m op ch k).drop f).take n).map termC), .ro ((leakX m op ch s M k f n up).map i8C), .int .i64 (findS m op).Op.Pad] (.int .i64 (leakV m op ch s M k f n up)) := fun k f n up =>
    witness_sum _ _ _ (by have := H.tl k; rw [List.length_take, List.length_drop]; omega) (fun t ht => by rw [leakX, rowT_len]; exact H.tat k t (List.mem_of_mem_drop (List.mem_of_mem_take ht)))
  have hPo := terms_Positions m op
  obtain ⟨p1, p2, p3⟩ := out_pos hS
  rw [H.f0, p1, ← H.pos] at hPo
  have hpD : ∀ i : Nat, i ≤ 512 → IntKind.i64.wrap (IntKind.i64.wrap ((i : Int).tdiv (D : Int)) * (D : Int)) = ((i / D * D : Nat) : Int) := fun i hi => by
    have h1 : i / D * D ≤ i := Nat.div_mul_le_self i D
    have h2 : i / D ≤ i := Nat.div_le_self i D
    rw [Int.tdiv_eq_ediv_of_nonneg (by omega), show (i : Int) / (D : Int) = ((i / D : Nat) : Int) from rfl]
    generalize i / D = q at *
    rw [show IntKind.i64.wrap (q : Int) = (q : Int) from w64_id (by omega), ← Int.natCast_mul]
    exact w64_id (by omega)
  have hDL : ∀ i : Nat, i / D * D ≤ i := fun i => Nat.div_mul_le_self i D
  have hSafe := depth_Safe m hm op ch s d
  rw [hp, hs] at hSafe
  subst hD
  have hP : ∀ k i, pickL m op ch s M D k i = (bif badB (leakV m op ch s M k i (i + 1 - i) false) then some (i, false) else bif badB (leakV m op ch s M k i (i + 1 - i) true) then some (i, true) else
    bif badB (leakV m op ch s M k (i / D * D) (i + 1 - i / D * D) false) then some (i / D * D, false) else bif badB (leakV m op ch s M k (i / D * D) (i + 1 - i / D * D) true) then some (i / D * D, true) else none) := fun k i => rfl
  have hTl := H.tl
  have hOf := H.Of
  generalize leakV m op ch s M = V at *
  generalize leakX m op ch s M = X at *
  generalize pickL m op ch s M D = PL at *
  have hfirst : ∀ (k i : Nat) (q : Nat × Bool), (∀ k' : Nat, k' < k → ∀ i' : Nat, i' < (termsF m op ch k').length → PL k' i' = none) → (∀ i', i' < i → PL k i' = none) → i < (termsF m op ch k).length → k < posN m op → PL k i = some q → k = k0 ∧ i = i0 ∧ q = (f0, up0) := fun k i q f1 f2 h1 h2 h3 => by
    have e : k = k0 := by
      by_cases c : k < k0
      · exact absurd ⟨h2, i, h1, by rw [h3]; simp⟩ (hkm k c)
      · by_cases c2 : k0 < k
        · exact absurd (f1 k0 c2 i0 hi2) hi3
        · omega
    subst e
    have e2 : i = i0 := by
      by_cases c : i < i0
      · exact absurd ⟨h1, by rw [h3]; simp⟩ (him i c)
      · by_cases c2 : i0 < i
        · exact absurd (f2 i0 c2) hi3
        · omega
    subst e2
    exact ⟨rfl, rfl, Option.some.inj (h3.symm.trans hq0)⟩
  --@@1
  skip
  refine fn_ok Tb_ok (fn := Try.f20) Try.func20 rfl rfl (e := [(0, _), (1, _), (2, _), (3, _), (4, _)]) rfl (by decide) rfl ?_
  refine W_seq ?_
  refine W_region rfl ?_
  refine L_box Tb_ok (cs := [.int _ _, .int _ _, .int _ _, .int _ _, .int _ _, _, .int _ _]) (n := 7) rfl rfl rfl rfl trivial ?_
  refine L_box Tb_ok (cs := [.int _ _, .int _ _]) (n := 2) rfl rfl rfl rfl trivial ?_
  refine L_alloc Tb_ok (z := [.int .i64 0, .int .i64 0, .int .i64 0, .nils]) (n := 4) rfl rfl rfl rfl rfl ?_
  refine L_v Tb_ok (v := .bool _) (av rfl ⟨trivial, trivial⟩) rfl ?_
  refine L_v Tb_ok (v := .int _ _) (av rfl ⟨trivial, trivial⟩) rfl ?_
  refine WL_nil ?_
  refine W_seq ?_
  refine W_region rfl ?_
  refine L_v Tb_ok (v := .agg [.int _ _, .int _ _, .int _ _, .int _ _, .int _ _, _, .int _ _]) (av rfl ⟨trivial, rfl⟩) rfl ?_
  refine L_v Tb_ok (v := .int _ _) (av rfl ⟨trivial, trivial⟩) rfl ?_
  refine L_v Tb_ok (v := .int _ _) (av rfl ⟨trivial, trivial⟩) rfl ?_
  refine L_v Tb_ok (v := .agg [.int _ _, .int _ _]) (av rfl ⟨trivial, rfl⟩) rfl ?_
  refine L_v Tb_ok (v := .int _ _) (av rfl ⟨trivial, trivial⟩) rfl ?_
  refine L_call (hr := hSafe) rfl rfl trivial rfl rfl ?_
  refine L_v Tb_ok (v := .tup [_, _]) (av rfl ⟨trivial, trivial⟩) rfl ?_
  refine L_v Tb_ok (v := .bool _) (av rfl ⟨trivial, trivial⟩) rfl ?_
  refine L_v Tb_ok (v := .int _ _) (av rfl ⟨trivial, trivial⟩) rfl ?_
  refine L_v Tb_ok (v := .bool _) (av rfl ⟨trivial, trivial⟩) rfl ?_
  refine L_v Tb_ok (v := .int _ _) (av rfl ⟨trivial, trivial⟩) rfl ?_
  refine WL_nil ?_
  refine W_seq ?_
  refine W_seq ?_
  refine W_region rfl ?_
  refine L_v Tb_ok (v := .int _ _) (av rfl ⟨trivial, trivial⟩) rfl ?_
  refine L_v Tb_ok (v := .bool _) (av rfl ⟨trivial, trivial⟩) rfl ?_
  refine L_v Tb_ok (v := .bool _) (av rfl ⟨trivial, trivial⟩) rfl ?_
  refine L_g Tb_ok (v := .bool _) rfl rfl ((fun hg => (av rfl ⟨trivial, trivial⟩))) rfl rfl ?_
  refine L_v Tb_ok (v := .bool _) (av rfl (by refine ⟨?_, fun h => ?_, fun h => ?_⟩ <;> first | exact True.intro | exact ⟨h, True.intro⟩ | (refine ⟨?_, True.intro⟩; first | (rw [h]; done) | (rw [h]; rfl) | (simp [h]; done) | (simp at h hg ⊢; simp [h, hg]; done) | (simp_all; done) | (simp_all; omega)))) rfl ?_
  refine WL_nil ?_
  refine W_cond_f (b := _) rfl (by first | exact hc43 | rfl | decide | simp_all) ?_
  refine W_skip ?_
  refine W_seq ?_
  refine W_draw 12 Tb_mixed rfl (by decide) (by kernel_rfl) (by kernel_rfl) ?_
  refine E_v Tb_ok (v := .agg [.int _ _, .int _ _, .int _ _, .int _ _, .int _ _, _, .int _ _]) (av rfl ⟨trivial, rfl⟩) rfl ?_
  refine E_v Tb_ok (v := .int _ _) (av rfl ⟨trivial, trivial⟩) rfl ?_
  refine E_call (hr := hsz) rfl rfl trivial rfl rfl ?_
  refine E_v Tb_ok (v := .ptr _ _ _) (av rfl ⟨trivial, trivial⟩) rfl ?_
  first | (refine E_v Tb_ok (v := .ro _) (av rfl ⟨trivial, rfl⟩) rfl ?_) | (refine E_v Tb_ok (v := .app _ _) (av rfl ⟨trivial, rfl⟩) rfl ?_) | (refine E_v Tb_ok (v := .row _ _ _) (av rfl ⟨trivial, rfl⟩) rfl ?_) | (refine E_v Tb_ok (v := .nils) (av rfl ⟨trivial, rfl⟩) rfl ?_)
  refine E_v Tb_ok (v := .int _ _) (av rfl ⟨trivial, trivial⟩) rfl ?_
  refine E_v Tb_ok (v := .int _ _) (av rfl ⟨trivial, trivial⟩) rfl ?_
  first | (refine E_v Tb_ok (v := _) (ave_index_ro rfl rfl rfl (fun _ => rfl) rfl (by first | exact x0 | exact x1 | (rw [List.length_map]; exact x1)) (by first | exact x0 | exact x1 | (rw [List.length_map]; exact x1)) trivial) rfl ?_) | (refine E_v Tb_ok (v := _) (ave_index_app rfl rfl rfl (fun _ => rfl) rfl (by first | exact x0 | exact x1 | (rw [List.length_map]; exact x1)) (by first | exact x0 | exact x1 | (rw [List.length_map]; exact x1)) trivial) rfl ?_) | (refine E_v Tb_ok (v := _) (ave_index_row rfl rfl rfl rfl rfl rfl (by first | exact x0 | exact x1 | (rw [List.length_map]; exact x1)) (by first | exact x0 | exact x1 | (rw [List.length_map]; exact x1)) trivial) rfl ?_) | (refine E_v Tb_ok (v := .rptr _) (av rfl ⟨trivial, ⟨(by first | exact x0 | exact x1 | (rw [List.length_map]; exact x1)), (by first | exact x0 | exact x1 | (rw [List.length_map]; exact x1))⟩, rfl⟩) rfl ?_) | (refine E_v Tb_ok (v := .ptr _ _ _) (av rfl ⟨trivial, ⟨(by first | exact x0 | exact x1 | (rw [List.length_map]; exact x1)), (by first | exact x0 | exact x1 | (rw [List.length_map]; exact x1))⟩, rfl⟩) rfl ?_)
  first | (refine E_v Tb_ok (v := .ptr _ _ _) (av rfl ⟨trivial, trivial⟩) rfl ?_) | (refine E_v Tb_ok (v := .rptr _) (av rfl ⟨trivial, trivial⟩) rfl ?_)
  refine E_v Tb_ok (v := .int _ _) (av rfl ⟨trivial, rfl⟩) rfl ?_
  refine E_v Tb_ok (v := .int _ _) (av rfl ⟨trivial, trivial⟩) rfl ?_
  simp only [hpad]
  refine E_v Tb_ok (v := .int _ _) (av rfl ⟨trivial, trivial⟩) rfl ?_
  refine LexE_nil ?_
  refine WL_nil ?_
  refine W_seq ?_
  refine W_region rfl ?_
  refine L_v Tb_ok (v := .agg [.int _ _, .int _ _, .int _ _, .int _ _, .int _ _, _, .int _ _]) (av rfl ⟨trivial, rfl⟩) rfl ?_
  refine L_v Tb_ok (v := .int _ _) (av rfl ⟨trivial, trivial⟩) rfl ?_
  refine L_call (hr := hPo) rfl rfl trivial rfl rfl ?_
  refine L_v Tb_ok (v := .tup [_, _]) (av rfl ⟨trivial, trivial⟩) rfl ?_
  refine L_v Tb_ok (v := .int _ _) (av rfl ⟨trivial, trivial⟩) rfl ?_
  refine L_v Tb_ok (v := .int _ _) (av rfl ⟨trivial, trivial⟩) rfl ?_
  refine L_v Tb_ok (v := .int _ _) (av rfl ⟨trivial, trivial⟩) rfl ?_
  refine L_v Tb_ok (v := .int _ _) (av rfl ⟨trivial, trivial⟩) rfl ?_
  refine WL_nil ?_
  refine W_seq ?_
  refine W_seq ?_
  refine W_region rfl ?_
  refine L_v Tb_ok (v := .int _ _) (av rfl ⟨trivial, trivial⟩) rfl ?_
  refine L_v Tb_ok (v := .int _ _) (av rfl ⟨trivial, trivial⟩) rfl ?_
  refine WL_nil ?_
  refine W_block ?_
  refine W_forEF (posN m op) (fun (k : Nat) => ∀ k' : Nat, k' < k → ∀ i' : Nat, i' < (termsF m op ch k').length → PL k' i' = none) (fun k' h => absurd h (by omega)) [(1, .int _ _), (2, .int _ _), (4, .int _ _), (5, .ptr 0 0 0), (8, .ptr 1 0 0), (10, .ptr 2 0 0), (15, .int _ _), (16, .int _ _), (62, .int _ _)] (fun (k : Nat) => [(63, .int .i64 (k : Int))]) [(0, some ⟨_, _, _, _⟩), (1, some ⟨_, _, _, _⟩), (2, some ⟨_, _, _, _⟩)] (fun (k : Nat) => []) [] (fun (k : Nat) => []) 3 (le_fit (sub_cat ⟨rfl, trivial⟩ ⟨rfl, rfl, rfl, rfl, rfl, rfl, rfl, rfl, rfl, trivial⟩) (subO_cat trivial ⟨.inr rfl, .inr rfl, .inr rfl, trivial⟩) (subK_cat trivial trivial) rfl rfl rfl (by first | rfl | (simp [ltOB, i8C, intC, spanC, AV.lt]; done)) rfl) ?_
  intro k hk hfk
  refine W.of_le (s' := ⟨[(63, .int .i64 (k : Int)), (1, .int _ _), (2, .int _ _), (4, .int _ _), (5, .ptr 0 0 0), (8, .ptr 1 0 0), (10, .ptr 2 0 0), (15, .int _ _), (16, .int _ _), (62, .int _ _)], [(0, some ⟨_, _, _, _⟩), (1, some ⟨_, _, _, _⟩), (2, some ⟨_, _, _, _⟩)], [], 3⟩) (le_fit ⟨rfl, rfl, rfl, rfl, rfl, rfl, rfl, rfl, rfl, rfl, trivial⟩ ⟨.inr rfl, .inr rfl, .inr rfl, trivial⟩ trivial rfl rfl rfl (by first | rfl | (simp [ltOB, i8C, intC, spanC, AV.lt]; done)) rfl) ?_
  refine W_seq ?_
  refine W_region rfl ?_
  refine L_v Tb_ok (v := .bool _) (av rfl ⟨trivial, trivial⟩) rfl ?_
  refine WL_nil ?_
  refine W_seq ?_
  refine W_cond (b := _) rfl (fun h64 => ?_) (fun h64 => ?_)
  · have hkt : k < posN m op := by first | (have := of_decide_eq_true h64; omega) | (have := of_decide_eq_true h64; simp only [List.length_map, List.length_take, List.length_drop] at this; omega) | (simp at h64; omega)
    refine W_skip ?_
    refine W_seq ?_
    refine W_block ?_
    refine W_seq ?_
    refine W_region rfl ?_
    refine L_v Tb_ok (v := .int _ _) (av rfl ⟨trivial, trivial⟩) rfl ?_
    refine L_v Tb_ok (v := .int _ _) (av rfl ⟨trivial, trivial⟩) rfl ?_
    refine WL_nil ?_
    refine W_seq ?_
    refine W_region rfl ?_
    refine L_v Tb_ok (v := .agg [.int _ _, .int _ _, .int _ _, .int _ _, .int _ _, _, .int _ _]) (av rfl ⟨trivial, rfl⟩) rfl ?_
    refine L_v Tb_ok (v := .int _ _) (av rfl ⟨trivial, trivial⟩) rfl ?_
    refine L_v Tb_ok (v := .int _ _) (av rfl ⟨trivial, trivial⟩) rfl ?_
    refine L_v Tb_ok (v := .int _ _) (av rfl ⟨trivial, trivial⟩) rfl ?_
    refine L_call (hr := hOf k hkt) rfl rfl trivial rfl rfl ?_
    refine L_v Tb_ok (v := .tup [_, _, _]) (av rfl ⟨trivial, trivial⟩) rfl ?_
    first | (refine L_v Tb_ok (v := .ro _) (av rfl ⟨trivial, trivial⟩) rfl ?_) | (refine L_v Tb_ok (v := .app _ _) (av rfl ⟨trivial, trivial⟩) rfl ?_) | (refine L_v Tb_ok (v := .row _ _ _) (av rfl ⟨trivial, trivial⟩) rfl ?_) | (refine L_v Tb_ok (v := .nils) (av rfl ⟨trivial, trivial⟩) rfl ?_)
    refine L_v Tb_ok (v := .int _ _) (av rfl ⟨trivial, trivial⟩) rfl ?_
    refine L_v Tb_ok (v := .int _ _) (av rfl ⟨trivial, trivial⟩) rfl ?_
    first | (refine L_v Tb_ok (v := .ro _) (av rfl ⟨trivial, trivial⟩) rfl ?_) | (refine L_v Tb_ok (v := .app _ _) (av rfl ⟨trivial, trivial⟩) rfl ?_) | (refine L_v Tb_ok (v := .row _ _ _) (av rfl ⟨trivial, trivial⟩) rfl ?_) | (refine L_v Tb_ok (v := .nils) (av rfl ⟨trivial, trivial⟩) rfl ?_)
    refine L_v Tb_ok (v := .int _ _) (av rfl ⟨trivial, trivial⟩) rfl ?_
    refine L_v Tb_ok (v := .int _ _) (av rfl ⟨trivial, trivial⟩) rfl ?_
    refine WL_nil ?_
    refine W_seq ?_
    refine W_region rfl ?_
    first | (refine L_v Tb_ok (v := .ro _) (av rfl ⟨trivial, trivial⟩) rfl ?_) | (refine L_v Tb_ok (v := .app _ _) (av rfl ⟨trivial, trivial⟩) rfl ?_) | (refine L_v Tb_ok (v := .row _ _ _) (av rfl ⟨trivial, trivial⟩) rfl ?_) | (refine L_v Tb_ok (v := .nils) (av rfl ⟨trivial, trivial⟩) rfl ?_)
    refine L_v Tb_ok (v := .int _ _) (av rfl ⟨trivial, trivial⟩) rfl ?_
    refine L_v Tb_ok (v := .int _ _) (av rfl ⟨trivial, trivial⟩) rfl ?_
    refine WL_nil ?_
    refine W_block ?_
    refine W_forEF ((termsF m op ch k).length) (fun (i : Nat) => ∀ i' : Nat, i' < i → PL k i' = none) (fun i' h => absurd h (by omega)) [(1, .int _ _), (2, .int _ _), (4, .int _ _), (5, .ptr 0 0 0), (8, .ptr 1 0 0), (10, .ptr 2 0 0), (15, .int _ _), (16, .int _ _), (19, .int _ _), (20, .ro _), (62, .int _ _), (63, .int _ _), (76, .int _ _)] (fun (i : Nat) => [(77, .int .i64 (i : Int))]) [(0, some ⟨_, _, _, _⟩), (1, some ⟨_, _, _, _⟩), (2, some ⟨_, _, _, _⟩)] (fun (i : Nat) => []) [] (fun (i : Nat) => []) 3 (le_fit (sub_cat ⟨rfl, trivial⟩ ⟨rfl, rfl, rfl, rfl, rfl, rfl, rfl, rfl, rfl, rfl, rfl, rfl, rfl, trivial⟩) (subO_cat trivial ⟨.inr rfl, .inr rfl, .inr rfl, trivial⟩) (subK_cat trivial trivial) rfl rfl rfl (by first | rfl | (simp [ltOB, i8C, intC, spanC, AV.lt]; done)) rfl) ?_
    intro i hi hfi
    refine W.of_le (s' := ⟨[(77, .int .i64 (i : Int)), (1, .int _ _), (2, .int _ _), (4, .int _ _), (5, .ptr 0 0 0), (8, .ptr 1 0 0), (10, .ptr 2 0 0), (15, .int _ _), (16, .int _ _), (19, .int _ _), (20, .ro _), (62, .int _ _), (63, .int _ _), (76, .int _ _)], [(0, some ⟨_, _, _, _⟩), (1, some ⟨_, _, _, _⟩), (2, some ⟨_, _, _, _⟩)], [], 3⟩) (le_fit ⟨rfl, rfl, rfl, rfl, rfl, rfl, rfl, rfl, rfl, rfl, rfl, rfl, rfl, rfl, trivial⟩ ⟨.inr rfl, .inr rfl, .inr rfl, trivial⟩ trivial rfl rfl rfl (by first | rfl | (simp [ltOB, i8C, intC, spanC, AV.lt]; done)) rfl) ?_
    refine W_seq ?_
    refine W_region rfl ?_
    refine L_v Tb_ok (v := .bool _) (av rfl ⟨trivial, trivial⟩) rfl ?_
    refine WL_nil ?_
    refine W_seq ?_
    refine W_cond (b := _) rfl (fun h78 => ?_) (fun h78 => ?_)
    · have hit : i < (termsF m op ch k).length := by first | (have := of_decide_eq_true h78; omega) | (have := of_decide_eq_true h78; simp only [List.length_map, List.length_take, List.length_drop] at this; omega) | (simp at h78; omega)
      have htl := hTl k
      have hpi := hpD i (by omega)
      have hdl := hDL i
      have hw1 : IntKind.i64.wrap ((i : Int) + 1) = ((i + 1 : Nat) : Int) := w_succ hit (by omega)
      refine W_skip ?_
      refine W_seq ?_
      refine W_block ?_
      refine W_seq ?_
      refine W_region rfl ?_
      refine L_v Tb_ok (v := .int _ _) (av rfl ⟨trivial, trivial⟩) rfl ?_
      refine L_v Tb_ok (v := .int _ _) (av rfl ⟨trivial, trivial⟩) rfl ?_
      refine WL_nil ?_
      refine W_seq ?_
      refine W_region rfl ?_
      refine L_v Tb_ok (v := .int _ _) (av rfl ⟨trivial, trivial⟩) rfl ?_
      refine L_v Tb_ok (v := .int _ _) (av rfl ⟨trivial, trivial⟩) rfl ?_
      refine L_v Tb_ok (v := .int _ _) (av rfl ⟨trivial, trivial⟩) rfl ?_
      refine L_v Tb_ok (v := .int _ _) (av rfl ⟨trivial, (by first | omega | decide)⟩) rfl ?_
      refine L_v Tb_ok (v := .int _ _) (av rfl ⟨trivial, trivial⟩) rfl ?_
      refine L_v Tb_ok (v := .int _ _) (av rfl ⟨trivial, trivial⟩) rfl ?_
      simp only [hpi]
      refine L_v Tb_ok (v := .agg [.int _ _, .int _ _]) (av rfl ⟨trivial, rfl⟩) rfl ?_
      refine L_v Tb_ok (v := .int _ _) (av rfl ⟨trivial, trivial⟩) rfl ?_
      refine WL_nil ?_
      refine W_block ?_
      refine W_loop_of ?_
      refine LoopW_once ?_
      refine W_seq ?_
      refine W_region rfl ?_
      refine L_v Tb_ok (v := .bool _) (av rfl ⟨trivial, trivial⟩) rfl ?_
      refine WL_nil ?_
      refine W_seq ?_
      refine W_cond_t (b := _) rfl (by first | exact hc88 | rfl | decide | simp_all) ?_
      refine W_skip ?_
      refine W_seq ?_
      refine W_block ?_
      refine W_seq ?_
      refine W_region rfl ?_
      refine L_v Tb_ok (v := .int _ _) (av rfl ⟨trivial, ⟨by first | omega | decide, by first | omega | decide⟩, rfl⟩) rfl ?_
      refine L_v Tb_ok (v := .int _ _) (av rfl ⟨trivial, trivial⟩) rfl ?_
      refine WL_nil ?_
      refine W_seq ?_
      refine W_region rfl ?_
      refine L_v Tb_ok (v := .agg [.bool _, .bool _]) (av rfl ⟨trivial, rfl⟩) rfl ?_
      refine L_v Tb_ok (v := .int _ _) (av rfl ⟨trivial, trivial⟩) rfl ?_
      refine WL_nil ?_
      refine W_block ?_
      refine W_loop_of ?_
      refine LoopW_once ?_
      refine W_seq ?_
      refine W_region rfl ?_
      refine L_v Tb_ok (v := .bool _) (av rfl ⟨trivial, trivial⟩) rfl ?_
      refine WL_nil ?_
      refine W_seq ?_
      refine W_cond_t (b := _) rfl (by first | exact hc92 | rfl | decide | simp_all) ?_
      refine W_skip ?_
      refine W_seq ?_
      refine W_block ?_
      refine W_seq ?_
      refine W_region rfl ?_
      refine L_v Tb_ok (v := .bool _) (av rfl ⟨trivial, ⟨by first | omega | decide, by first | omega | decide⟩, rfl⟩) rfl ?_
      refine L_v Tb_ok (v := .bool _) (av rfl ⟨trivial, trivial⟩) rfl ?_
      refine WL_nil ?_
      refine W_seq ?_
      refine W_draw 10 Tb_mixed rfl (by decide) (by kernel_rfl) (by kernel_rfl) ?_
      first | (refine E_v Tb_ok (v := .ro _) (av rfl ⟨trivial, trivial⟩) rfl ?_) | (refine E_v Tb_ok (v := .app _ _) (av rfl ⟨trivial, trivial⟩) rfl ?_) | (refine E_v Tb_ok (v := .row _ _ _) (av rfl ⟨trivial, trivial⟩) rfl ?_) | (refine E_v Tb_ok (v := .nils) (av rfl ⟨trivial, trivial⟩) rfl ?_)
      refine E_v Tb_ok (v := .int _ _) (av rfl ⟨trivial, trivial⟩) rfl ?_
      refine E_v Tb_ok (v := .int _ _) (av rfl ⟨trivial, trivial⟩) rfl ?_
      refine E_v Tb_ok (v := .int _ _) (av rfl ⟨trivial, trivial⟩) rfl ?_
      simp only [hw1]
      first | refine E_slice_map Tb_ok (f := termC) (xs := termsF m op ch k) (i) (i + 1) (el := 112) (sz := 2) rfl rfl rfl rfl rfl rfl (fun _ => rfl) rfl rfl (by omega) (by omega) ⟨trivial, trivial, trivial⟩ rfl ?_ | refine E_slice_map Tb_ok (f := termC) (xs := termsF m op ch k) (i / D * D) (i + 1) (el := 112) (sz := 2) rfl rfl rfl rfl rfl rfl (fun _ => rfl) rfl rfl (by omega) (by omega) ⟨trivial, trivial, trivial⟩ rfl ?_
      refine E_v Tb_ok (v := .agg [.int _ _, .int _ _]) (av rfl ⟨trivial, rfl⟩) rfl ?_
      refine E_v Tb_ok (v := .int _ _) (av rfl ⟨trivial, trivial⟩) rfl ?_
      refine E_v Tb_ok (v := .bool _) (av rfl ⟨trivial, trivial⟩) rfl ?_
      refine E_call (hr := hnum _ _ _ _) rfl rfl trivial rfl rfl ?_
      first | (refine E_v Tb_ok (v := .ro _) (av rfl ⟨trivial, trivial⟩) rfl ?_) | (refine E_v Tb_ok (v := .app _ _) (av rfl ⟨trivial, trivial⟩) rfl ?_) | (refine E_v Tb_ok (v := .row _ _ _) (av rfl ⟨trivial, trivial⟩) rfl ?_) | (refine E_v Tb_ok (v := .nils) (av rfl ⟨trivial, trivial⟩) rfl ?_)
      refine LexE_nil ?_
      refine WL_nil ?_
      refine W_seq ?_
      refine W_region rfl ?_
      first | (refine L_v Tb_ok (v := .ro _) (av rfl ⟨trivial, trivial⟩) rfl ?_) | (refine L_v Tb_ok (v := .app _ _) (av rfl ⟨trivial, trivial⟩) rfl ?_) | (refine L_v Tb_ok (v := .row _ _ _) (av rfl ⟨trivial, trivial⟩) rfl ?_) | (refine L_v Tb_ok (v := .nils) (av rfl ⟨trivial, trivial⟩) rfl ?_)
      refine L_v Tb_ok (v := .int _ _) (av rfl ⟨trivial, trivial⟩) rfl ?_
      refine L_v Tb_ok (v := .int _ _) (av rfl ⟨trivial, trivial⟩) rfl ?_
      refine L_v Tb_ok (v := .int _ _) (av rfl ⟨trivial, trivial⟩) rfl ?_
      simp only [hw1]
      first | refine L_slice_map Tb_ok (f := termC) (xs := termsF m op ch k) (i) (i + 1) (el := 112) (sz := 2) rfl rfl rfl rfl rfl rfl (fun _ => rfl) rfl rfl (by omega) (by omega) ⟨trivial, trivial, trivial⟩ rfl ?_ | refine L_slice_map Tb_ok (f := termC) (xs := termsF m op ch k) (i / D * D) (i + 1) (el := 112) (sz := 2) rfl rfl rfl rfl rfl rfl (fun _ => rfl) rfl rfl (by omega) (by omega) ⟨trivial, trivial, trivial⟩ rfl ?_
      first | (refine L_v Tb_ok (v := .ro _) (av rfl ⟨trivial, trivial⟩) rfl ?_) | (refine L_v Tb_ok (v := .app _ _) (av rfl ⟨trivial, trivial⟩) rfl ?_) | (refine L_v Tb_ok (v := .row _ _ _) (av rfl ⟨trivial, trivial⟩) rfl ?_) | (refine L_v Tb_ok (v := .nils) (av rfl ⟨trivial, trivial⟩) rfl ?_)
      refine L_v Tb_ok (v := .int _ _) (av rfl ⟨trivial, trivial⟩) rfl ?_
      refine L_call (hr := hsum _ _ _ _) rfl rfl trivial rfl rfl ?_
      refine L_v Tb_ok (v := .int _ _) (av rfl ⟨trivial, trivial⟩) rfl ?_
      refine WL_nil ?_
      refine W_seq ?_
      refine W_region rfl ?_
      refine L_v Tb_ok (v := .int _ _) (av rfl ⟨trivial, trivial⟩) rfl ?_
      refine L_v Tb_ok (v := .int _ _) (av rfl ⟨trivial, trivial⟩) rfl ?_
      refine L_v Tb_ok (v := .int _ _) (av rfl ⟨trivial, trivial⟩) rfl ?_
      refine L_v Tb_ok (v := .int _ _) (av rfl ⟨trivial, trivial⟩) rfl ?_
      refine L_v Tb_ok (v := .bool _) (av rfl ⟨trivial, trivial⟩) rfl ?_
      refine WL_nil ?_
      refine W_cond (b := _) rfl (fun h115 => ?_) (fun h115 => ?_)
      · first | have hb0 : badB (V k i (i + 1 - i) false) = true := h115 | have hb1 : badB (V k i (i + 1 - i) true) = true := h115 | have hb2 : badB (V k (i / D * D) (i + 1 - i / D * D) false) = true := h115 | have hb3 : badB (V k (i / D * D) (i + 1 - i / D * D) true) = true := h115
        refine W_seq ?_
        refine W_region rfl ?_
        refine L_v Tb_ok (v := .int _ _) (av rfl ⟨trivial, trivial⟩) rfl ?_
        refine L_v Tb_ok (v := .int _ _) (av rfl ⟨trivial, trivial⟩) rfl ?_
        refine L_v Tb_ok (v := .int _ _) (av rfl ⟨trivial, trivial⟩) rfl ?_
        refine L_v Tb_ok (v := .int _ _) (av rfl ⟨trivial, trivial⟩) rfl ?_
        first | (refine L_v Tb_ok (v := .ro _) (av rfl ⟨trivial, trivial⟩) rfl ?_) | (refine L_v Tb_ok (v := .app _ _) (av rfl ⟨trivial, trivial⟩) rfl ?_) | (refine L_v Tb_ok (v := .row _ _ _) (av rfl ⟨trivial, trivial⟩) rfl ?_) | (refine L_v Tb_ok (v := .nils) (av rfl ⟨trivial, trivial⟩) rfl ?_)
        refine L_v Tb_ok (v := .agg [.int _ _, .int _ _, .int _ _, _]) (av rfl ⟨trivial, rfl⟩) rfl ?_
        refine L_store Tb_ok (v := .agg [.int _ _, .int _ _, .int _ _, _]) (cs := [_, _, _, _]) (es' := [[_, _, _, _]]) rfl rfl rfl rfl rfl rfl rfl rfl rfl rfl ⟨trivial, trivial⟩ ?_
        refine L_v Tb_ok (v := .bool _) (av rfl ⟨trivial, trivial⟩) rfl ?_
        refine L_v Tb_ok (v := .int _ _) (av rfl ⟨trivial, trivial⟩) rfl ?_
        refine WL_nil ?_
        refine W_ret ?_
        refine ends (l := [.agg [.int _ _, .int _ _, .int _ _, _], .bool _, .int _ _]) (q := .tup [.agg [.int _ _, .int _ _, .int _ _, _], .bool _, .int _ _]) (.inr rfl) rfl ⟨rfl, trivial, trivial, trivial⟩ rfl rfl ?_
        first | exact absurd (hfk k0 (by omega) i0 hi2) hi3 | (obtain ⟨e1, e2, e3⟩ := hfirst k i (i, false) hfk hfi hit hkt (by rw [hP, hb0]; rfl); obtain ⟨e4, e5⟩ := Prod.mk.inj e3; subst e4 e5 e1 e2; rw [hw1]; rfl) | (obtain ⟨e1, e2, e3⟩ := hfirst k i (i, true) hfk hfi hit hkt (by rw [hP, hb0, hb1]; rfl); obtain ⟨e4, e5⟩ := Prod.mk.inj e3; subst e4 e5 e1 e2; rw [hw1]; rfl) | (obtain ⟨e1, e2, e3⟩ := hfirst k i (i / D * D, false) hfk hfi hit hkt (by rw [hP, hb0, hb1, hb2]; rfl); obtain ⟨e4, e5⟩ := Prod.mk.inj e3; subst e4 e5 e1 e2; rw [hw1]; rfl) | (obtain ⟨e1, e2, e3⟩ := hfirst k i (i / D * D, true) hfk hfi hit hkt (by rw [hP, hb0, hb1, hb2, hb3]; rfl); obtain ⟨e4, e5⟩ := Prod.mk.inj e3; subst e4 e5 e1 e2; rw [hw1]; rfl)
      · first | have hb0 : badB (V k i (i + 1 - i) false) = false := h115 | have hb1 : badB (V k i (i + 1 - i) true) = false := h115 | have hb2 : badB (V k (i / D * D) (i + 1 - i / D * D) false) = false := h115 | have hb3 : badB (V k (i / D * D) (i + 1 - i / D * D) true) = false := h115
        refine W_skip ?_
        refine W_region rfl ?_
        refine L_v Tb_ok (v := .int _ _) (av rfl ⟨trivial, trivial⟩) rfl ?_
        refine L_v Tb_ok (v := .int _ _) (av rfl ⟨trivial, trivial⟩) rfl ?_
        refine WL_nil ?_
        refine LoopW_once ?_
        refine W_seq ?_
        refine W_region rfl ?_
        refine L_v Tb_ok (v := .bool _) (av rfl ⟨trivial, trivial⟩) rfl ?_
        refine WL_nil ?_
        refine W_seq ?_
        refine W_cond_t (b := _) rfl (by first | exact hc92 | rfl | decide | simp_all) ?_
        refine W_skip ?_
        refine W_seq ?_
        refine W_block ?_
        refine W_seq ?_
        refine W_region rfl ?_
        refine L_v Tb_ok (v := .bool _) (av rfl ⟨trivial, ⟨by first | omega | decide, by first | omega | decide⟩, rfl⟩) rfl ?_
        refine L_v Tb_ok (v := .bool _) (av rfl ⟨trivial, trivial⟩) rfl ?_
        refine WL_nil ?_
        refine W_seq ?_
        refine W_draw 10 Tb_mixed rfl (by decide) (by kernel_rfl) (by kernel_rfl) ?_
        first | (refine E_v Tb_ok (v := .ro _) (av rfl ⟨trivial, trivial⟩) rfl ?_) | (refine E_v Tb_ok (v := .app _ _) (av rfl ⟨trivial, trivial⟩) rfl ?_) | (refine E_v Tb_ok (v := .row _ _ _) (av rfl ⟨trivial, trivial⟩) rfl ?_) | (refine E_v Tb_ok (v := .nils) (av rfl ⟨trivial, trivial⟩) rfl ?_)
        refine E_v Tb_ok (v := .int _ _) (av rfl ⟨trivial, trivial⟩) rfl ?_
        refine E_v Tb_ok (v := .int _ _) (av rfl ⟨trivial, trivial⟩) rfl ?_
        refine E_v Tb_ok (v := .int _ _) (av rfl ⟨trivial, trivial⟩) rfl ?_
        simp only [hw1]
        first | refine E_slice_map Tb_ok (f := termC) (xs := termsF m op ch k) (i) (i + 1) (el := 112) (sz := 2) rfl rfl rfl rfl rfl rfl (fun _ => rfl) rfl rfl (by omega) (by omega) ⟨trivial, trivial, trivial⟩ rfl ?_ | refine E_slice_map Tb_ok (f := termC) (xs := termsF m op ch k) (i / D * D) (i + 1) (el := 112) (sz := 2) rfl rfl rfl rfl rfl rfl (fun _ => rfl) rfl rfl (by omega) (by omega) ⟨trivial, trivial, trivial⟩ rfl ?_
        refine E_v Tb_ok (v := .agg [.int _ _, .int _ _]) (av rfl ⟨trivial, rfl⟩) rfl ?_
        refine E_v Tb_ok (v := .int _ _) (av rfl ⟨trivial, trivial⟩) rfl ?_
        refine E_v Tb_ok (v := .bool _) (av rfl ⟨trivial, trivial⟩) rfl ?_
        refine E_call (hr := hnum _ _ _ _) rfl rfl trivial rfl rfl ?_
        first | (refine E_v Tb_ok (v := .ro _) (av rfl ⟨trivial, trivial⟩) rfl ?_) | (refine E_v Tb_ok (v := .app _ _) (av rfl ⟨trivial, trivial⟩) rfl ?_) | (refine E_v Tb_ok (v := .row _ _ _) (av rfl ⟨trivial, trivial⟩) rfl ?_) | (refine E_v Tb_ok (v := .nils) (av rfl ⟨trivial, trivial⟩) rfl ?_)
        refine LexE_nil ?_
        refine WL_nil ?_
        refine W_seq ?_
        refine W_region rfl ?_
        first | (refine L_v Tb_ok (v := .ro _) (av rfl ⟨trivial, trivial⟩) rfl ?_) | (refine L_v Tb_ok (v := .app _ _) (av rfl ⟨trivial, trivial⟩) rfl ?_) | (refine L_v Tb_ok (v := .row _ _ _) (av rfl ⟨trivial, trivial⟩) rfl ?_) | (refine L_v Tb_ok (v := .nils) (av rfl ⟨trivial, trivial⟩) rfl ?_)
        refine L_v Tb_ok (v := .int _ _) (av rfl ⟨trivial, trivial⟩) rfl ?_
        refine L_v Tb_ok (v := .int _ _) (av rfl ⟨trivial, trivial⟩) rfl ?_
        refine L_v Tb_ok (v := .int _ _) (av rfl ⟨trivial, trivial⟩) rfl ?_
        simp only [hw1]
        first | refine L_slice_map Tb_ok (f := termC) (xs := termsF m op ch k) (i) (i + 1) (el := 112) (sz := 2) rfl rfl rfl rfl rfl rfl (fun _ => rfl) rfl rfl (by omega) (by omega) ⟨trivial, trivial, trivial⟩ rfl ?_ | refine L_slice_map Tb_ok (f := termC) (xs := termsF m op ch k) (i / D * D) (i + 1) (el := 112) (sz := 2) rfl rfl rfl rfl rfl rfl (fun _ => rfl) rfl rfl (by omega) (by omega) ⟨trivial, trivial, trivial⟩ rfl ?_
        first | (refine L_v Tb_ok (v := .ro _) (av rfl ⟨trivial, trivial⟩) rfl ?_) | (refine L_v Tb_ok (v := .app _ _) (av rfl ⟨trivial, trivial⟩) rfl ?_) | (refine L_v Tb_ok (v := .row _ _ _) (av rfl ⟨trivial, trivial⟩) rfl ?_) | (refine L_v Tb_ok (v := .nils) (av rfl ⟨trivial, trivial⟩) rfl ?_)
        refine L_v Tb_ok (v := .int _ _) (av rfl ⟨trivial, trivial⟩) rfl ?_
        refine L_call (hr := hsum _ _ _ _) rfl rfl trivial rfl rfl ?_
        refine L_v Tb_ok (v := .int _ _) (av rfl ⟨trivial, trivial⟩) rfl ?_
        refine WL_nil ?_
        refine W_seq ?_
        refine W_region rfl ?_
        refine L_v Tb_ok (v := .int _ _) (av rfl ⟨trivial, trivial⟩) rfl ?_
        refine L_v Tb_ok (v := .int _ _) (av rfl ⟨trivial, trivial⟩) rfl ?_
        refine L_v Tb_ok (v := .int _ _) (av rfl ⟨trivial, trivial⟩) rfl ?_
        refine L_v Tb_ok (v := .int _ _) (av rfl ⟨trivial, trivial⟩) rfl ?_
        refine L_v Tb_ok (v := .bool _) (av rfl ⟨trivial, trivial⟩) rfl ?_
        refine WL_nil ?_
        refine W_cond (b := _) rfl (fun h115_1 => ?_) (fun h115_1 => ?_)
        · first | have hb0 : badB (V k i (i + 1 - i) false) = true := h115_1 | have hb1 : badB (V k i (i + 1 - i) true) = true := h115_1 | have hb2 : badB (V k (i / D * D) (i + 1 - i / D * D) false) = true := h115_1 | have hb3 : badB (V k (i / D * D) (i + 1 - i / D * D) true) = true := h115_1
          refine W_seq ?_
          refine W_region rfl ?_
          refine L_v Tb_ok (v := .int _ _) (av rfl ⟨trivial, trivial⟩) rfl ?_
          refine L_v Tb_ok (v := .int _ _) (av rfl ⟨trivial, trivial⟩) rfl ?_
          refine L_v Tb_ok (v := .int _ _) (av rfl ⟨trivial, trivial⟩) rfl ?_
          refine L_v Tb_ok (v := .int _ _) (av rfl ⟨trivial, trivial⟩) rfl ?_
          first | (refine L_v Tb_ok (v := .ro _) (av rfl ⟨trivial, trivial⟩) rfl ?_) | (refine L_v Tb_ok (v := .app _ _) (av rfl ⟨trivial, trivial⟩) rfl ?_) | (refine L_v Tb_ok (v := .row _ _ _) (av rfl ⟨trivial, trivial⟩) rfl ?_) | (refine L_v Tb_ok (v := .nils) (av rfl ⟨trivial, trivial⟩) rfl ?_)
          refine L_v Tb_ok (v := .agg [.int _ _, .int _ _, .int _ _, _]) (av rfl ⟨trivial, rfl⟩) rfl ?_
          refine L_store Tb_ok (v := .agg [.int _ _, .int _ _, .int _ _, _]) (cs := [_, _, _, _]) (es' := [[_, _, _, _]]) rfl rfl rfl rfl rfl rfl rfl rfl rfl rfl ⟨trivial, trivial⟩ ?_
          refine L_v Tb_ok (v := .bool _) (av rfl ⟨trivial, trivial⟩) rfl ?_
          refine L_v Tb_ok (v := .int _ _) (av rfl ⟨trivial, trivial⟩) rfl ?_
          refine WL_nil ?_
          refine W_ret ?_
          refine ends (l := [.agg [.int _ _, .int _ _, .int _ _, _], .bool _, .int _ _]) (q := .tup [.agg [.int _ _, .int _ _, .int _ _, _], .bool _, .int _ _]) (.inr rfl) rfl ⟨rfl, trivial, trivial, trivial⟩ rfl rfl ?_
          first | exact absurd (hfk k0 (by omega) i0 hi2) hi3 | (obtain ⟨e1, e2, e3⟩ := hfirst k i (i, false) hfk hfi hit hkt (by rw [hP, hb0]; rfl); obtain ⟨e4, e5⟩ := Prod.mk.inj e3; subst e4 e5 e1 e2; rw [hw1]; rfl) | (obtain ⟨e1, e2, e3⟩ := hfirst k i (i, true) hfk hfi hit hkt (by rw [hP, hb0, hb1]; rfl); obtain ⟨e4, e5⟩ := Prod.mk.inj e3; subst e4 e5 e1 e2; rw [hw1]; rfl) | (obtain ⟨e1, e2, e3⟩ := hfirst k i (i / D * D, false) hfk hfi hit hkt (by rw [hP, hb0, hb1, hb2]; rfl); obtain ⟨e4, e5⟩ := Prod.mk.inj e3; subst e4 e5 e1 e2; rw [hw1]; rfl) | (obtain ⟨e1, e2, e3⟩ := hfirst k i (i / D * D, true) hfk hfi hit hkt (by rw [hP, hb0, hb1, hb2, hb3]; rfl); obtain ⟨e4, e5⟩ := Prod.mk.inj e3; subst e4 e5 e1 e2; rw [hw1]; rfl)
        · first | have hb0 : badB (V k i (i + 1 - i) false) = false := h115_1 | have hb1 : badB (V k i (i + 1 - i) true) = false := h115_1 | have hb2 : badB (V k (i / D * D) (i + 1 - i / D * D) false) = false := h115_1 | have hb3 : badB (V k (i / D * D) (i + 1 - i / D * D) true) = false := h115_1
          refine W_skip ?_
          refine W_region rfl ?_
          refine L_v Tb_ok (v := .int _ _) (av rfl ⟨trivial, trivial⟩) rfl ?_
          refine L_v Tb_ok (v := .int _ _) (av rfl ⟨trivial, trivial⟩) rfl ?_
          refine WL_nil ?_
          refine LoopW_once ?_
          refine W_seq ?_
          refine W_region rfl ?_
          refine L_v Tb_ok (v := .bool _) (av rfl ⟨trivial, trivial⟩) rfl ?_
          refine WL_nil ?_
          refine W_seq ?_
          refine W_cond_f (b := _) rfl (by first | exact hc92 | rfl | decide | simp_all) ?_
          refine W_exit ?_
          repeat (first | refine pass_then ?_ | refine pass_once ?_ | refine pass_le ?_ | refine pass_round ?_ | refine pass_for ?_ | refine pass_forF ?_ | refine pass_jump ?_ | refine blockQ_miss rfl ?_)
          refine blockQ_hit ?_
          refine W_region rfl ?_
          refine L_v Tb_ok (v := .int _ _) (av rfl ⟨trivial, trivial⟩) rfl ?_
          refine L_v Tb_ok (v := .int _ _) (av rfl ⟨trivial, trivial⟩) rfl ?_
          refine WL_nil ?_
          refine LoopW_once ?_
          refine W_seq ?_
          refine W_region rfl ?_
          refine L_v Tb_ok (v := .bool _) (av rfl ⟨trivial, trivial⟩) rfl ?_
          refine WL_nil ?_
          refine W_seq ?_
          refine W_cond_t (b := _) rfl (by first | exact hc88 | rfl | decide | simp_all) ?_
          refine W_skip ?_
          refine W_seq ?_
          refine W_block ?_
          refine W_seq ?_
          refine W_region rfl ?_
          refine L_v Tb_ok (v := .int _ _) (av rfl ⟨trivial, ⟨by first | omega | decide, by first | omega | decide⟩, rfl⟩) rfl ?_
          refine L_v Tb_ok (v := .int _ _) (av rfl ⟨trivial, trivial⟩) rfl ?_
          refine WL_nil ?_
          refine W_seq ?_
          refine W_region rfl ?_
          refine L_v Tb_ok (v := .agg [.bool _, .bool _]) (av rfl ⟨trivial, rfl⟩) rfl ?_
          refine L_v Tb_ok (v := .int _ _) (av rfl ⟨trivial, trivial⟩) rfl ?_
          refine WL_nil ?_
          refine W_block ?_
          refine W_loop_of ?_
          refine LoopW_once ?_
          refine W_seq ?_
          refine W_region rfl ?_
          refine L_v Tb_ok (v := .bool _) (av rfl ⟨trivial, trivial⟩) rfl ?_
          refine WL_nil ?_
          refine W_seq ?_
          refine W_cond_t (b := _) rfl (by first | exact hc92 | rfl | decide | simp_all) ?_
          refine W_skip ?_
          refine W_seq ?_
          refine W_block ?_
          refine W_seq ?_
          refine W_region rfl ?_
          refine L_v Tb_ok (v := .bool _) (av rfl ⟨trivial, ⟨by first | omega | decide, by first | omega | decide⟩, rfl⟩) rfl ?_
          refine L_v Tb_ok (v := .bool _) (av rfl ⟨trivial, trivial⟩) rfl ?_
          refine WL_nil ?_
          refine W_seq ?_
          refine W_draw 10 Tb_mixed rfl (by decide) (by kernel_rfl) (by kernel_rfl) ?_
          first | (refine E_v Tb_ok (v := .ro _) (av rfl ⟨trivial, trivial⟩) rfl ?_) | (refine E_v Tb_ok (v := .app _ _) (av rfl ⟨trivial, trivial⟩) rfl ?_) | (refine E_v Tb_ok (v := .row _ _ _) (av rfl ⟨trivial, trivial⟩) rfl ?_) | (refine E_v Tb_ok (v := .nils) (av rfl ⟨trivial, trivial⟩) rfl ?_)
          refine E_v Tb_ok (v := .int _ _) (av rfl ⟨trivial, trivial⟩) rfl ?_
          refine E_v Tb_ok (v := .int _ _) (av rfl ⟨trivial, trivial⟩) rfl ?_
          refine E_v Tb_ok (v := .int _ _) (av rfl ⟨trivial, trivial⟩) rfl ?_
          simp only [hw1]
          first | refine E_slice_map Tb_ok (f := termC) (xs := termsF m op ch k) (i) (i + 1) (el := 112) (sz := 2) rfl rfl rfl rfl rfl rfl (fun _ => rfl) rfl rfl (by omega) (by omega) ⟨trivial, trivial, trivial⟩ rfl ?_ | refine E_slice_map Tb_ok (f := termC) (xs := termsF m op ch k) (i / D * D) (i + 1) (el := 112) (sz := 2) rfl rfl rfl rfl rfl rfl (fun _ => rfl) rfl rfl (by omega) (by omega) ⟨trivial, trivial, trivial⟩ rfl ?_
          refine E_v Tb_ok (v := .agg [.int _ _, .int _ _]) (av rfl ⟨trivial, rfl⟩) rfl ?_
          refine E_v Tb_ok (v := .int _ _) (av rfl ⟨trivial, trivial⟩) rfl ?_
          refine E_v Tb_ok (v := .bool _) (av rfl ⟨trivial, trivial⟩) rfl ?_
          refine E_call (hr := hnum _ _ _ _) rfl rfl trivial rfl rfl ?_
          first | (refine E_v Tb_ok (v := .ro _) (av rfl ⟨trivial, trivial⟩) rfl ?_) | (refine E_v Tb_ok (v := .app _ _) (av rfl ⟨trivial, trivial⟩) rfl ?_) | (refine E_v Tb_ok (v := .row _ _ _) (av rfl ⟨trivial, trivial⟩) rfl ?_) | (refine E_v Tb_ok (v := .nils) (av rfl ⟨trivial, trivial⟩) rfl ?_)
          refine LexE_nil ?_
          refine WL_nil ?_
          refine W_seq ?_
          refine W_region rfl ?_
          first | (refine L_v Tb_ok (v := .ro _) (av rfl ⟨trivial, trivial⟩) rfl ?_) | (refine L_v Tb_ok (v := .app _ _) (av rfl ⟨trivial, trivial⟩) rfl ?_) | (refine L_v Tb_ok (v := .row _ _ _) (av rfl ⟨trivial, trivial⟩) rfl ?_) | (refine L_v Tb_ok (v := .nils) (av rfl ⟨trivial, trivial⟩) rfl ?_)
          refine L_v Tb_ok (v := .int _ _) (av rfl ⟨trivial, trivial⟩) rfl ?_
          refine L_v Tb_ok (v := .int _ _) (av rfl ⟨trivial, trivial⟩) rfl ?_
          refine L_v Tb_ok (v := .int _ _) (av rfl ⟨trivial, trivial⟩) rfl ?_
          simp only [hw1]
          first | refine L_slice_map Tb_ok (f := termC) (xs := termsF m op ch k) (i) (i + 1) (el := 112) (sz := 2) rfl rfl rfl rfl rfl rfl (fun _ => rfl) rfl rfl (by omega) (by omega) ⟨trivial, trivial, trivial⟩ rfl ?_ | refine L_slice_map Tb_ok (f := termC) (xs := termsF m op ch k) (i / D * D) (i + 1) (el := 112) (sz := 2) rfl rfl rfl rfl rfl rfl (fun _ => rfl) rfl rfl (by omega) (by omega) ⟨trivial, trivial, trivial⟩ rfl ?_
          first | (refine L_v Tb_ok (v := .ro _) (av rfl ⟨trivial, trivial⟩) rfl ?_) | (refine L_v Tb_ok (v := .app _ _) (av rfl ⟨trivial, trivial⟩) rfl ?_) | (refine L_v Tb_ok (v := .row _ _ _) (av rfl ⟨trivial, trivial⟩) rfl ?_) | (refine L_v Tb_ok (v := .nils) (av rfl ⟨trivial, trivial⟩) rfl ?_)
          refine L_v Tb_ok (v := .int _ _) (av rfl ⟨trivial, trivial⟩) rfl ?_
          refine L_call (hr := hsum _ _ _ _) rfl rfl trivial rfl rfl ?_
          refine L_v Tb_ok (v := .int _ _) (av rfl ⟨trivial, trivial⟩) rfl ?_
          refine WL_nil ?_
          refine W_seq ?_
          refine W_region rfl ?_
          refine L_v Tb_ok (v := .int _ _) (av rfl ⟨trivial, trivial⟩) rfl ?_
          refine L_v Tb_ok (v := .int _ _) (av rfl ⟨trivial, trivial⟩) rfl ?_
          refine L_v Tb_ok (v := .int _ _) (av rfl ⟨trivial, trivial⟩) rfl ?_
          refine L_v Tb_ok (v := .int _ _) (av rfl ⟨trivial, trivial⟩) rfl ?_
          refine L_v Tb_ok (v := .bool _) (av rfl ⟨trivial, trivial⟩) rfl ?_
          refine WL_nil ?_
          refine W_cond (b := _) rfl (fun h115_2 => ?_) (fun h115_2 => ?_)
          · first | have hb0 : badB (V k i (i + 1 - i) false) = true := h115_2 | have hb1 : badB (V k i (i + 1 - i) true) = true := h115_2 | have hb2 : badB (V k (i / D * D) (i + 1 - i / D * D) false) = true := h115_2 | have hb3 : badB (V k (i / D * D) (i + 1 - i / D * D) true) = true := h115_2
            refine W_seq ?_
            refine W_region rfl ?_
            refine L_v Tb_ok (v := .int _ _) (av rfl ⟨trivial, trivial⟩) rfl ?_
            refine L_v Tb_ok (v := .int _ _) (av rfl ⟨trivial, trivial⟩) rfl ?_
            refine L_v Tb_ok (v := .int _ _) (av rfl ⟨trivial, trivial⟩) rfl ?_
            refine L_v Tb_ok (v := .int _ _) (av rfl ⟨trivial, trivial⟩) rfl ?_
            first | (refine L_v Tb_ok (v := .ro _) (av rfl ⟨trivial, trivial⟩) rfl ?_) | (refine L_v Tb_ok (v := .app _ _) (av rfl ⟨trivial, trivial⟩) rfl ?_) | (refine L_v Tb_ok (v := .row _ _ _) (av rfl ⟨trivial, trivial⟩) rfl ?_) | (refine L_v Tb_ok (v := .nils) (av rfl ⟨trivial, trivial⟩) rfl ?_)
            refine L_v Tb_ok (v := .agg [.int _ _, .int _ _, .int _ _, _]) (av rfl ⟨trivial, rfl⟩) rfl ?_
            refine L_store Tb_ok (v := .agg [.int _ _, .int _ _, .int _ _, _]) (cs := [_, _, _, _]) (es' := [[_, _, _, _]]) rfl rfl rfl rfl rfl rfl rfl rfl rfl rfl ⟨trivial, trivial⟩ ?_
            refine L_v Tb_ok (v := .bool _) (av rfl ⟨trivial, trivial⟩) rfl ?_
            refine L_v Tb_ok (v := .int _ _) (av rfl ⟨trivial, trivial⟩) rfl ?_
            refine WL_nil ?_
            refine W_ret ?_
            refine ends (l := [.agg [.int _ _, .int _ _, .int _ _, _], .bool _, .int _ _]) (q := .tup [.agg [.int _ _, .int _ _, .int _ _, _], .bool _, .int _ _]) (.inr rfl) rfl ⟨rfl, trivial, trivial, trivial⟩ rfl rfl ?_
            first | exact absurd (hfk k0 (by omega) i0 hi2) hi3 | (obtain ⟨e1, e2, e3⟩ := hfirst k i (i, false) hfk hfi hit hkt (by rw [hP, hb0]; rfl); obtain ⟨e4, e5⟩ := Prod.mk.inj e3; subst e4 e5 e1 e2; rw [hw1]; rfl) | (obtain ⟨e1, e2, e3⟩ := hfirst k i (i, true) hfk hfi hit hkt (by rw [hP, hb0, hb1]; rfl); obtain ⟨e4, e5⟩ := Prod.mk.inj e3; subst e4 e5 e1 e2; rw [hw1]; rfl) | (obtain ⟨e1, e2, e3⟩ := hfirst k i (i / D * D, false) hfk hfi hit hkt (by rw [hP, hb0, hb1, hb2]; rfl); obtain ⟨e4, e5⟩ := Prod.mk.inj e3; subst e4 e5 e1 e2; rw [hw1]; rfl) | (obtain ⟨e1, e2, e3⟩ := hfirst k i (i / D * D, true) hfk hfi hit hkt (by rw [hP, hb0, hb1, hb2, hb3]; rfl); obtain ⟨e4, e5⟩ := Prod.mk.inj e3; subst e4 e5 e1 e2; rw [hw1]; rfl)
          · first | have hb0 : badB (V k i (i + 1 - i) false) = false := h115_2 | have hb1 : badB (V k i (i + 1 - i) true) = false := h115_2 | have hb2 : badB (V k (i / D * D) (i + 1 - i / D * D) false) = false := h115_2 | have hb3 : badB (V k (i / D * D) (i + 1 - i / D * D) true) = false := h115_2
            refine W_skip ?_
            refine W_region rfl ?_
            refine L_v Tb_ok (v := .int _ _) (av rfl ⟨trivial, trivial⟩) rfl ?_
            refine L_v Tb_ok (v := .int _ _) (av rfl ⟨trivial, trivial⟩) rfl ?_
            refine WL_nil ?_
            refine LoopW_once ?_
            refine W_seq ?_
            refine W_region rfl ?_
            refine L_v Tb_ok (v := .bool _) (av rfl ⟨trivial, trivial⟩) rfl ?_
            refine WL_nil ?_
            refine W_seq ?_
            refine W_cond_t (b := _) rfl (by first | exact hc92 | rfl | decide | simp_all) ?_
            refine W_skip ?_
            refine W_seq ?_
            refine W_block ?_
            refine W_seq ?_
            refine W_region rfl ?_
            refine L_v Tb_ok (v := .bool _) (av rfl ⟨trivial, ⟨by first | omega | decide, by first | omega | decide⟩, rfl⟩) rfl ?_
            refine L_v Tb_ok (v := .bool _) (av rfl ⟨trivial, trivial⟩) rfl ?_
            refine WL_nil ?_
            refine W_seq ?_
            refine W_draw 10 Tb_mixed rfl (by decide) (by kernel_rfl) (by kernel_rfl) ?_
            first | (refine E_v Tb_ok (v := .ro _) (av rfl ⟨trivial, trivial⟩) rfl ?_) | (refine E_v Tb_ok (v := .app _ _) (av rfl ⟨trivial, trivial⟩) rfl ?_) | (refine E_v Tb_ok (v := .row _ _ _) (av rfl ⟨trivial, trivial⟩) rfl ?_) | (refine E_v Tb_ok (v := .nils) (av rfl ⟨trivial, trivial⟩) rfl ?_)
            refine E_v Tb_ok (v := .int _ _) (av rfl ⟨trivial, trivial⟩) rfl ?_
            refine E_v Tb_ok (v := .int _ _) (av rfl ⟨trivial, trivial⟩) rfl ?_
            refine E_v Tb_ok (v := .int _ _) (av rfl ⟨trivial, trivial⟩) rfl ?_
            simp only [hw1]
            first | refine E_slice_map Tb_ok (f := termC) (xs := termsF m op ch k) (i) (i + 1) (el := 112) (sz := 2) rfl rfl rfl rfl rfl rfl (fun _ => rfl) rfl rfl (by omega) (by omega) ⟨trivial, trivial, trivial⟩ rfl ?_ | refine E_slice_map Tb_ok (f := termC) (xs := termsF m op ch k) (i / D * D) (i + 1) (el := 112) (sz := 2) rfl rfl rfl rfl rfl rfl (fun _ => rfl) rfl rfl (by omega) (by omega) ⟨trivial, trivial, trivial⟩ rfl ?_
            refine E_v Tb_ok (v := .agg [.int _ _, .int _ _]) (av rfl ⟨trivial, rfl⟩) rfl ?_
            refine E_v Tb_ok (v := .int _ _) (av rfl ⟨trivial, trivial⟩) rfl ?_
            refine E_v Tb_ok (v := .bool _) (av rfl ⟨trivial, trivial⟩) rfl ?_
            refine E_call (hr := hnum _ _ _ _) rfl rfl trivial rfl rfl ?_
            first | (refine E_v Tb_ok (v := .ro _) (av rfl ⟨trivial, trivial⟩) rfl ?_) | (refine E_v Tb_ok (v := .app _ _) (av rfl ⟨trivial, trivial⟩) rfl ?_) | (refine E_v Tb_ok (v := .row _ _ _) (av rfl ⟨trivial, trivial⟩) rfl ?_) | (refine E_v Tb_ok (v := .nils) (av rfl ⟨trivial, trivial⟩) rfl ?_)
            refine LexE_nil ?_
            refine WL_nil ?_
            refine W_seq ?_
            refine W_region rfl ?_
            first | (refine L_v Tb_ok (v := .ro _) (av rfl ⟨trivial, trivial⟩) rfl ?_) | (refine L_v Tb_ok (v := .app _ _) (av rfl ⟨trivial, trivial⟩) rfl ?_) | (refine L_v Tb_ok (v := .row _ _ _) (av rfl ⟨trivial, trivial⟩) rfl ?_) | (refine L_v Tb_ok (v := .nils) (av rfl ⟨trivial, trivial⟩) rfl ?_)
            refine L_v Tb_ok (v := .int _ _) (av rfl ⟨trivial, trivial⟩) rfl ?_
            refine L_v Tb_ok (v := .int _ _) (av rfl ⟨trivial, trivial⟩) rfl ?_
            refine L_v Tb_ok (v := .int _ _) (av rfl ⟨trivial, trivial⟩) rfl ?_
            simp only [hw1]
            first | refine L_slice_map Tb_ok (f := termC) (xs := termsF m op ch k) (i) (i + 1) (el := 112) (sz := 2) rfl rfl rfl rfl rfl rfl (fun _ => rfl) rfl rfl (by omega) (by omega) ⟨trivial, trivial, trivial⟩ rfl ?_ | refine L_slice_map Tb_ok (f := termC) (xs := termsF m op ch k) (i / D * D) (i + 1) (el := 112) (sz := 2) rfl rfl rfl rfl rfl rfl (fun _ => rfl) rfl rfl (by omega) (by omega) ⟨trivial, trivial, trivial⟩ rfl ?_
            first | (refine L_v Tb_ok (v := .ro _) (av rfl ⟨trivial, trivial⟩) rfl ?_) | (refine L_v Tb_ok (v := .app _ _) (av rfl ⟨trivial, trivial⟩) rfl ?_) | (refine L_v Tb_ok (v := .row _ _ _) (av rfl ⟨trivial, trivial⟩) rfl ?_) | (refine L_v Tb_ok (v := .nils) (av rfl ⟨trivial, trivial⟩) rfl ?_)
            refine L_v Tb_ok (v := .int _ _) (av rfl ⟨trivial, trivial⟩) rfl ?_
            refine L_call (hr := hsum _ _ _ _) rfl rfl trivial rfl rfl ?_
            refine L_v Tb_ok (v := .int _ _) (av rfl ⟨trivial, trivial⟩) rfl ?_
            refine WL_nil ?_
            refine W_seq ?_
            refine W_region rfl ?_
            refine L_v Tb_ok (v := .int _ _) (av rfl ⟨trivial, trivial⟩) rfl ?_
            refine L_v Tb_ok (v := .int _ _) (av rfl ⟨trivial, trivial⟩) rfl ?_
            refine L_v Tb_ok (v := .int _ _) (av rfl ⟨trivial, trivial⟩) rfl ?_
            refine L_v Tb_ok (v := .int _ _) (av rfl ⟨trivial, trivial⟩) rfl ?_
            refine L_v Tb_ok (v := .bool _) (av rfl ⟨trivial, trivial⟩) rfl ?_
            refine WL_nil ?_
            refine W_cond (b := _) rfl (fun h115_3 => ?_) (fun h115_3 => ?_)
            · first | have hb0 : badB (V k i (i + 1 - i) false) = true := h115_3 | have hb1 : badB (V k i (i + 1 - i) true) = true := h115_3 | have hb2 : badB (V k (i / D * D) (i + 1 - i / D * D) false) = true := h115_3 | have hb3 : badB (V k (i / D * D) (i + 1 - i / D * D) true) = true := h115_3
              refine W_seq ?_
              refine W_region rfl ?_
              refine L_v Tb_ok (v := .int _ _) (av rfl ⟨trivial, trivial⟩) rfl ?_
              refine L_v Tb_ok (v := .int _ _) (av rfl ⟨trivial, trivial⟩) rfl ?_
              refine L_v Tb_ok (v := .int _ _) (av rfl ⟨trivial, trivial⟩) rfl ?_
              refine L_v Tb_ok (v := .int _ _) (av rfl ⟨trivial, trivial⟩) rfl ?_
              first | (refine L_v Tb_ok (v := .ro _) (av rfl ⟨trivial, trivial⟩) rfl ?_) | (refine L_v Tb_ok (v := .app _ _) (av rfl ⟨trivial, trivial⟩) rfl ?_) | (refine L_v Tb_ok (v := .row _ _ _) (av rfl ⟨trivial, trivial⟩) rfl ?_) | (refine L_v Tb_ok (v := .nils) (av rfl ⟨trivial, trivial⟩) rfl ?_)
              refine L_v Tb_ok (v := .agg [.int _ _, .int _ _, .int _ _, _]) (av rfl ⟨trivial, rfl⟩) rfl ?_
              refine L_store Tb_ok (v := .agg [.int _ _, .int _ _, .int _ _, _]) (cs := [_, _, _, _]) (es' := [[_, _, _, _]]) rfl rfl rfl rfl rfl rfl rfl rfl rfl rfl ⟨trivial, trivial⟩ ?_
              refine L_v Tb_ok (v := .bool _) (av rfl ⟨trivial, trivial⟩) rfl ?_
              refine L_v Tb_ok (v := .int _ _) (av rfl ⟨trivial, trivial⟩) rfl ?_
              refine WL_nil ?_
              refine W_ret ?_
              refine ends (l := [.agg [.int _ _, .int _ _, .int _ _, _], .bool _, .int _ _]) (q := .tup [.agg [.int _ _, .int _ _, .int _ _, _], .bool _, .int _ _]) (.inr rfl) rfl ⟨rfl, trivial, trivial, trivial⟩ rfl rfl ?_
              first | exact absurd (hfk k0 (by omega) i0 hi2) hi3 | (obtain ⟨e1, e2, e3⟩ := hfirst k i (i, false) hfk hfi hit hkt (by rw [hP, hb0]; rfl); obtain ⟨e4, e5⟩ := Prod.mk.inj e3; subst e4 e5 e1 e2; rw [hw1]; rfl) | (obtain ⟨e1, e2, e3⟩ := hfirst k i (i, true) hfk hfi hit hkt (by rw [hP, hb0, hb1]; rfl); obtain ⟨e4, e5⟩ := Prod.mk.inj e3; subst e4 e5 e1 e2; rw [hw1]; rfl) | (obtain ⟨e1, e2, e3⟩ := hfirst k i (i / D * D, false) hfk hfi hit hkt (by rw [hP, hb0, hb1, hb2]; rfl); obtain ⟨e4, e5⟩ := Prod.mk.inj e3; subst e4 e5 e1 e2; rw [hw1]; rfl) | (obtain ⟨e1, e2, e3⟩ := hfirst k i (i / D * D, true) hfk hfi hit hkt (by rw [hP, hb0, hb1, hb2, hb3]; rfl); obtain ⟨e4, e5⟩ := Prod.mk.inj e3; subst e4 e5 e1 e2; rw [hw1]; rfl)
            · first | have hb0 : badB (V k i (i + 1 - i) false) = false := h115_3 | have hb1 : badB (V k i (i + 1 - i) true) = false := h115_3 | have hb2 : badB (V k (i / D * D) (i + 1 - i / D * D) false) = false := h115_3 | have hb3 : badB (V k (i / D * D) (i + 1 - i / D * D) true) = false := h115_3
              refine W_skip ?_
              refine W_region rfl ?_
              refine L_v Tb_ok (v := .int _ _) (av rfl ⟨trivial, trivial⟩) rfl ?_
              refine L_v Tb_ok (v := .int _ _) (av rfl ⟨trivial, trivial⟩) rfl ?_
              refine WL_nil ?_
              refine LoopW_once ?_
              refine W_seq ?_
              refine W_region rfl ?_
              refine L_v Tb_ok (v := .bool _) (av rfl ⟨trivial, trivial⟩) rfl ?_
              refine WL_nil ?_
              refine W_seq ?_
              refine W_cond_f (b := _) rfl (by first | exact hc92 | rfl | decide | simp_all) ?_
              refine W_exit ?_
              repeat (first | refine pass_then ?_ | refine pass_once ?_ | refine pass_le ?_ | refine pass_round ?_ | refine pass_for ?_ | refine pass_forF ?_ | refine pass_jump ?_ | refine blockQ_miss rfl ?_)
              refine blockQ_hit ?_
              refine W_region rfl ?_
              refine L_v Tb_ok (v := .int _ _) (av rfl ⟨trivial, trivial⟩) rfl ?_
              refine L_v Tb_ok (v := .int _ _) (av rfl ⟨trivial, trivial⟩) rfl ?_
              refine WL_nil ?_
              refine LoopW_once ?_
              refine W_seq ?_
              refine W_region rfl ?_
              refine L_v Tb_ok (v := .bool _) (av rfl ⟨trivial, trivial⟩) rfl ?_
              refine WL_nil ?_
              refine W_seq ?_
              refine W_cond_f (b := _) rfl (by first | exact hc88 | rfl | decide | simp_all) ?_
              refine W_exit ?_
              repeat (first | refine pass_then ?_ | refine pass_once ?_ | refine pass_le ?_ | refine pass_round ?_ | refine pass_for ?_ | refine pass_forF ?_ | refine pass_jump ?_ | refine blockQ_miss rfl ?_)
              refine blockQ_hit ?_
              refine W_region rfl ?_
              refine L_v Tb_ok (v := .int _ _) (av rfl ⟨trivial, trivial⟩) rfl ?_
              refine L_v Tb_ok (v := .int _ _) (av rfl ⟨trivial, trivial⟩) rfl ?_
              refine WL_nil ?_
              refine forF_end hit (all_snocP (p := fun i' => PL k i' = none) hfi (by rw [hP, hb0, hb1, hb2, hb3]; rfl)) (le_fit (sub_cat ⟨congrArg _ (w_succ hit (by omega)), trivial⟩ ⟨rfl, rfl, rfl, rfl, rfl, rfl, rfl, rfl, rfl, rfl, rfl, rfl, rfl, trivial⟩) (subO_cat trivial ⟨.inr rfl, .inr rfl, .inr rfl, trivial⟩) (subK_cat trivial trivial) rfl rfl rfl (by first | rfl | (simp [ltOB, i8C, intC, spanC, AV.lt]; done)) rfl)
    · have hie : i = (termsF m op ch k).length := by first | (have := of_decide_eq_false h78; omega) | (have := of_decide_eq_false h78; simp only [List.length_map, List.length_take, List.length_drop] at this; omega) | (simp at h78; omega)
      refine W_exit ?_
      repeat (first | refine pass_then ?_ | refine pass_once ?_ | refine pass_le ?_ | refine pass_round ?_ | refine pass_for ?_ | refine pass_forF ?_ | refine pass_jump ?_ | refine blockQ_miss rfl ?_)
      refine blockQ_hit ?_
      refine W_region rfl ?_
      refine L_v Tb_ok (v := .int _ _) (av rfl ⟨trivial, trivial⟩) rfl ?_
      refine L_v Tb_ok (v := .int _ _) (av rfl ⟨trivial, trivial⟩) rfl ?_
      refine WL_nil ?_
      refine forF_end hkt (all_snocP (p := fun k' : Nat => ∀ i' : Nat, i' < (termsF m op ch k').length → PL k' i' = none) hfk (hie ▸ hfi)) (le_fit (sub_cat ⟨congrArg _ (w_succ hkt (by omega)), trivial⟩ ⟨rfl, rfl, rfl, rfl, rfl, rfl, rfl, rfl, rfl, trivial⟩) (subO_cat trivial ⟨.inr rfl, .inr rfl, .inr rfl, trivial⟩) (subK_cat trivial trivial) rfl rfl rfl (by first | rfl | (simp [ltOB, i8C, intC, spanC, AV.lt]; done)) rfl)
  · have hke : k = posN m op := by first | (have := of_decide_eq_false h64; omega) | (have := of_decide_eq_false h64; simp only [List.length_map, List.length_take, List.length_drop] at this; omega) | (simp at h64; omega)
    refine W_exit ?_
    repeat (first | refine pass_then ?_ | refine pass_once ?_ | refine pass_le ?_ | refine pass_round ?_ | refine pass_for ?_ | refine pass_forF ?_ | refine pass_jump ?_ | refine blockQ_miss rfl ?_)
    refine blockQ_hit ?_
    refine W_seq ?_
    refine W_region rfl ?_
    refine L_v Tb_ok (v := .agg [.int _ _, .int _ _, .int _ _, _]) (av rfl ⟨trivial, rfl⟩) rfl ?_
    refine L_store Tb_ok (v := .agg [.int _ _, .int _ _, .int _ _, _]) (cs := [_, _, _, _]) (es' := [[_, _, _, _]]) rfl rfl rfl rfl rfl rfl rfl rfl rfl rfl ⟨trivial, trivial⟩ ?_
    refine L_v Tb_ok (v := .bool _) (av rfl ⟨trivial, trivial⟩) rfl ?_
    refine L_v Tb_ok (v := .int _ _) (av rfl ⟨trivial, trivial⟩) rfl ?_
    refine WL_nil ?_
    refine W_ret ?_
    refine ends (l := [.agg [.int _ _, .int _ _, .int _ _, _], .bool _, .int _ _]) (q := .tup [.agg [.int _ _, .int _ _, .int _ _, _], .bool _, .int _ _]) (.inr rfl) rfl ⟨rfl, trivial, trivial, trivial⟩ rfl rfl ?_
    first | exact absurd (hfk k0 (by omega) i0 hi2) hi3 | (obtain ⟨e1, e2, e3⟩ := hfirst k i (i, false) hfk hfi hit hkt (by rw [hP, hb0]; rfl); obtain ⟨e4, e5⟩ := Prod.mk.inj e3; subst e4 e5 e1 e2; rw [hw1]; rfl) | (obtain ⟨e1, e2, e3⟩ := hfirst k i (i, true) hfk hfi hit hkt (by rw [hP, hb0, hb1]; rfl); obtain ⟨e4, e5⟩ := Prod.mk.inj e3; subst e4 e5 e1 e2; rw [hw1]; rfl) | (obtain ⟨e1, e2, e3⟩ := hfirst k i (i / D * D, false) hfk hfi hit hkt (by rw [hP, hb0, hb1, hb2]; rfl); obtain ⟨e4, e5⟩ := Prod.mk.inj e3; subst e4 e5 e1 e2; rw [hw1]; rfl) | (obtain ⟨e1, e2, e3⟩ := hfirst k i (i / D * D, true) hfk hfi hit hkt (by rw [hP, hb0, hb1, hb2, hb3]; rfl); obtain ⟨e4, e5⟩ := Prod.mk.inj e3; subst e4 e5 e1 e2; rw [hw1]; rfl)
end Go.AM
end
section
open Go Go.AM Go.Proofs
set_option maxRecDepth 10000
set_option linter.unusedVariables false
set_option linter.unusedSimpArgs false
namespace Go.AM
theorem ref23_Leaks {m : Model} {op ch : Int} {s : Span} {D M k i f : Nat} {up : Bool} (hD : 1 ≤ D ∧ D ≤ 512) (L : LeakH m op ch s D M k i f up) :
    Ok Try.prog 23 [.agg (rsiteC (findS m op)), .int .i64 ch, .agg (spanC s), .agg (leakC k f (i + 1) (leakX m op ch s M k f (i + 1 - f) up)), .int .i64 (D : Int)] (.bool true) := by
  have H := L.H
  have hk := L.hk
  have hi := L.hi
  obtain ⟨hS, _⟩ := site_ok H.f0
  have hM1 := H.M1
  have hpn := H.pn
  have hp := H.pos
  have hTl := H.tl k
  obtain ⟨p1, p2, p3⟩ := out_pos hS
  have hPos := ref10_Positions (findS m op)
  rw [p1, ← hp] at hPos
  have hb := H.bad k hk
  have eT := termsF_eq H.f0 hb
  have hLen := ref10_Length (findS m op)
  rw [lenF_site H.f0] at hLen
  have hT := ref10_Terms hS (lenF_site H.f0) H.hch (at_ := (k : Int)) (by omega)
  rw [← eT] at hT
  have hTL : ((termsF m op ch k).length : Int) = (findS m op).Len := by rw [eT, tlF_len hS]; have := hS.len; omega
  have hfi : f ≤ i := by rcases L.hf with h | h <;> rw [h]; exact Nat.le_refl _; exact Nat.div_mul_le_self i D
  have hmod : i + 1 - f = 1 ∨ (f % D = 0 ∧ i + 1 - f ≤ D) := by
    rcases L.hf with h | h
    · left; omega
    · right
      refine ⟨by rw [h]; exact Nat.mul_mod_left _ _, ?_⟩
      have h1 := Nat.div_add_mod i D
      have h2 := Nat.mod_lt i (show D > 0 by omega)
      rw [Nat.mul_comm] at h1
      omega
  have hX : (leakX m op ch s M k f (i + 1 - f) up).length = M := by unfold leakX; exact rowT_len _ _ _ _ _
  have hN := ref23_Numbers (findS m op) s (leakX m op ch s M k f (i + 1 - f) up) (by rw [(elems_inW hS.inB).1, hX, H.eM]) (by omega) H.hs (by unfold leakX; exact rowT_in H.hs.2.1 _ _)
  have hbad := (badB_iff (v := leakV m op ch s M k f (i + 1 - f) up) (sumT_I64 _ _ _)).1 L.bad
  have hVd : leakV m op ch s M k f (i + 1 - f) up = sumT 0 (((termsF m op ch k).drop f).take (i + 1 - f)) (leakX m op ch s M k f (i + 1 - f) up) (findS m op).Op.Pad := rfl
  have hTs : ∀ t ∈ ((termsF m op ch k).drop f).take (i + 1 - f), t.At < ((leakX m op ch s M k f (i + 1 - f) up).length : Int) := fun t ht => by rw [hX]; exact H.tat k t (List.mem_of_mem_drop (List.mem_of_mem_take ht))
  have hLl : (((termsF m op ch k).drop f).take (i + 1 - f)).length = i + 1 - f := by rw [List.length_take, List.length_drop]; omega
  generalize leakV m op ch s M k f (i + 1 - f) up = v at *
  generalize leakX m op ch s M k f (i + 1 - f) up = X at *
  have hNar := ref13_Narrow16 ⟨v, v⟩
  have hnb : narB 32768 ⟨v, v⟩ = false := by
    unfold narB
    by_cases c : v ≥ -32768
    · rw [show decide ((⟨v, v⟩ : Span).Lo ≥ -32768) = true from decide_eq_true c]; exact decide_eq_false (by show ¬ v < 32768; omega)
    · rw [show decide ((⟨v, v⟩ : Span).Lo ≥ -32768) = false from decide_eq_false c]; rfl
  rw [hnb] at hNar
  have hc50 : (bif (bif (bif (bif (bif decide ((k : Int) < 0) then true else decide ((k : Int) ≥ (posN m op : Int))) then true else decide ((f : Int) < 0)) then true else decide (((i + 1 : Nat) : Int) ≤ (f : Int))) then true else decide (((i + 1 : Nat) : Int) > (findS m op).Len)) then true else !true) = false := by
    rw [decide_eq_false (by omega), decide_eq_false (by omega), decide_eq_false (by omega), decide_eq_false (by omega), decide_eq_false (by omega)]; rfl
  have wsub : IntKind.i64.wrap (((i + 1 : Nat) : Int) - (f : Int)) = ((i + 1 - f : Nat) : Int) := (w64_id (by omega)).trans (by omega)
  have hc72 : (bif decide (IntKind.i64.wrap (((i + 1 : Nat) : Int) - (f : Int)) > 1) then (bif (((f : Int).tmod (D : Int)) != 0) then true else decide (IntKind.i64.wrap (((i + 1 : Nat) : Int) - (f : Int)) > (D : Int))) else false) = false := by
    rw [wsub]
    rcases hmod with h | ⟨h1, h2⟩
    · rw [h]; rfl
    · rw [Int.tmod_eq_emod_of_nonneg (by omega), show (f : Int) % (D : Int) = ((f % D : Nat) : Int) from rfl, h1, decide_eq_false (show ¬ ((i + 1 - f : Nat) : Int) > (D : Int) by omega)]
      cases decide (((i + 1 - f : Nat) : Int) > 1) <;> rfl
  --@@1
  skip
  refine fn_ok Tb_ok (fn := Try.f23) Try.func23 rfl rfl (e := [(0, _), (1, _), (2, _), (3, _), (4, _)]) rfl (by decide) rfl ?_
  refine zs ?_
  refine zR ?_
  refine zbx [.int _ _, .int _ _, .int _ _, .int _ _, .int _ _, .int _ _, .int _ _, .int _ _, .int _ _, .int _ _, .int _ _, .int _ _, _, _, .int _ _, .int _ _, .int _ _, .int _ _, .int _ _, .int _ _, .int _ _, .int _ _, .int _ _, .int _ _, .int _ _, .int _ _, .int _ _, .int _ _] 28 ?_
  refine zbx [.int _ _, .int _ _] 2 ?_
  refine zbx [.int _ _, .int _ _, .int _ _, _] 4 ?_
  refine zLB ?_
  refine zn ?_
  refine zs ?_
  refine zs ?_
  refine W_draw 37 Tb_mixed rfl (by decide) (by kernel_rfl) (by kernel_rfl) ?_
  refine zEP ?_
  refine zEI ?_
  refine zEB ?_
  refine zEB ?_
  refine zgEP ?_
  refine zgEI ?_
  refine zgEG [.int _ _, .int _ _, .int _ _, .int _ _, .int _ _, .int _ _, .int _ _, .int _ _, .int _ _, .int _ _, .int _ _, .int _ _, _, _, .int _ _, .int _ _, .int _ _, .int _ _, .int _ _, .int _ _, .int _ _, .int _ _, .int _ _, .int _ _, .int _ _, .int _ _, .int _ _, .int _ _] ?_
  refine E_callg (hr := fun hg => hPos) rfl rfl rfl rfl rfl (fun hg => ⟨⟨(by exact hg), True.intro⟩, True.intro⟩) rfl rfl ?_
  refine zgEB ?_
  refine zpEB ?_
  refine zEB ?_
  refine zgEP ?_
  refine zgEI ?_
  refine zgEB ?_
  refine zpEB ?_
  refine zEB ?_
  refine zgEP ?_
  refine zgEI ?_
  refine zgEP ?_
  refine zgEI ?_
  refine zgEB ?_
  refine zpEB ?_
  refine zEB ?_
  refine zgEP ?_
  refine zgEI ?_
  refine zgEG [.int _ _, .int _ _, .int _ _, .int _ _, .int _ _, .int _ _, .int _ _, .int _ _, .int _ _, .int _ _, .int _ _, .int _ _, _, _, .int _ _, .int _ _, .int _ _, .int _ _, .int _ _, .int _ _, .int _ _, .int _ _, .int _ _, .int _ _, .int _ _, .int _ _, .int _ _, .int _ _] ?_
  refine E_callg (hr := fun hg => hLen) rfl rfl rfl rfl rfl (fun hg => ⟨⟨(by exact hg), True.intro⟩, True.intro⟩) rfl rfl ?_
  refine zgEB ?_
  refine zpEB ?_
  refine zEB ?_
  refine zgEG [.int _ _, .int _ _, .int _ _, .int _ _, .int _ _, .int _ _, .int _ _, .int _ _, .int _ _, .int _ _, .int _ _, .int _ _, _, _, .int _ _, .int _ _, .int _ _, .int _ _, .int _ _, .int _ _, .int _ _, .int _ _, .int _ _, .int _ _, .int _ _, .int _ _, .int _ _, .int _ _] ?_
  refine zgEG [.int _ _, .int _ _] ?_
  refine zgEP ?_
  refine zgEO ?_
  refine E_callg (hr := fun hg => hN) rfl rfl rfl rfl rfl (fun hg => ⟨⟨(by exact hg), True.intro⟩, ⟨⟨(by exact hg), True.intro⟩, ⟨⟨(by exact hg), True.intro⟩, True.intro⟩⟩⟩) rfl rfl ?_
  refine zgEB ?_
  refine zpEB ?_
  refine LexE_nil ?_
  refine zn ?_
  refine W_cond_f (b := _) rfl (by exact hc50) ?_
  refine zk ?_
  refine zs ?_
  refine zs ?_
  refine zR ?_
  refine zLP ?_
  refine zLI ?_
  refine zLP ?_
  refine zLI ?_
  refine zLI ?_
  refine zLB ?_
  refine zLB ?_
  refine zgLP ?_
  refine zgLI ?_
  refine zgLI ?_
  refine L_g Tb_ok (v := .int _ _) rfl rfl ((fun hg => (av rfl ⟨⟨⟨(by exact hg), True.intro⟩, ⟨⟨(by exact hg), True.intro⟩, True.intro⟩⟩, (by omega)⟩))) rfl rfl ?_
  refine zgLB ?_
  refine zgLB ?_
  refine zgLP ?_
  refine zgLI ?_
  refine zgLP ?_
  refine zgLI ?_
  refine zgLI ?_
  refine zgLI ?_
  refine zgLB ?_
  refine zqLB ?_
  refine zpLB ?_
  refine zn ?_
  refine W_cond_f (b := _) rfl (by exact hc72) ?_
  refine zk ?_
  refine zs ?_
  refine zR ?_
  refine zLI ?_
  refine zn ?_
  refine zs ?_
  refine zs ?_
  refine W_draw 12 Tb_mixed rfl (by decide) (by kernel_rfl) (by kernel_rfl) ?_
  refine zEG [.int _ _, .int _ _, .int _ _, .int _ _, .int _ _, .int _ _, .int _ _, .int _ _, .int _ _, .int _ _, .int _ _, .int _ _, _, _, .int _ _, .int _ _, .int _ _, .int _ _, .int _ _, .int _ _, .int _ _, .int _ _, .int _ _, .int _ _, .int _ _, .int _ _, .int _ _, .int _ _] ?_
  refine zEI ?_
  refine zEP ?_
  refine zEI ?_
  refine zEc (hT) ?_
  refine zEP ?_
  refine zEI ?_
  refine zEP ?_
  refine zEI ?_
  refine E_slice_map Tb_ok (f := termC) (xs := termsF m op ch k) (f) (i + 1) (el := 112) (sz := 2) rfl rfl rfl rfl rfl rfl (fun _ => rfl) rfl rfl (by omega) (by omega) ⟨trivial, trivial, trivial⟩ rfl ?_
  refine zEI ?_
  refine zEI ?_
  refine LexE_nil ?_
  refine zn ?_
  refine W_block ?_
  refine W_forE ((((termsF m op ch k).drop f).take (i + 1 - f)).length) [(5, .ptr 0 0 0), (8, .ptr 2 0 0), (82, .ro _), (83, .int _ _)] (fun (j : Nat) => [(84, .int .i64 (j : Int)), (11, .int .i64 (sumT 0 ((((termsF m op ch k).drop f).take (i + 1 - f)).take j) X (findS m op).Op.Pad))]) [(0, some ⟨_, _, _, _⟩), (2, some ⟨_, _, _, _⟩)] (fun (j : Nat) => []) [] (fun (j : Nat) => []) 3 (le_fit (sub_cat ⟨rfl, rfl, trivial⟩ ⟨rfl, rfl, rfl, rfl, trivial⟩) (subO_cat trivial ⟨.inr rfl, .inr rfl, trivial⟩) (subK_cat trivial trivial) rfl rfl rfl (by rfl) rfl) ?_
  intro j hj
  refine W.of_le (s' := ⟨[(84, .int .i64 (j : Int)), (11, .int .i64 (sumT 0 ((((termsF m op ch k).drop f).take (i + 1 - f)).take j) X (findS m op).Op.Pad)), (5, .ptr 0 0 0), (8, .ptr 2 0 0), (82, .ro _), (83, .int _ _)], [(0, some ⟨_, _, _, _⟩), (2, some ⟨_, _, _, _⟩)], [], 3⟩) (le_fit ⟨rfl, rfl, rfl, rfl, rfl, rfl, trivial⟩ ⟨.inr rfl, .inr rfl, trivial⟩ trivial rfl rfl rfl (by rfl) rfl) ?_
  refine zs ?_
  refine zR ?_
  refine zLB ?_
  refine zn ?_
  refine zs ?_
  refine W_cond (b := _) rfl (fun h85 => ?_) (fun h85 => ?_)
  · have hjt : j < (((termsF m op ch k).drop f).take (i + 1 - f)).length := by (have := of_decide_eq_true h85; simp only [List.length_map, List.length_take, List.length_drop] at this; omega)
    have hm2 := hTs ((((termsF m op ch k).drop f).take (i + 1 - f)).getD j default) (by rw [List.getD_eq_getElem?_getD, List.getElem?_eq_getElem hjt]; exact List.getElem_mem hjt)
    refine zk ?_
    refine zs ?_
    refine W_block ?_
    refine zs ?_
    refine zR ?_
    (refine L_v Tb_ok (v := _) (ave_index_ro rfl rfl rfl (fun _ => rfl) rfl (by omega) (by omega) trivial) rfl ?_)
    refine zLG [.int _ _, .int _ _] ?_
    refine zal [.int .i64 0, .int .i64 0] 2 ?_
    refine zst (.agg [.int _ _, .int _ _]) [_, _] [[_, _]] ?_
    refine zn ?_
    refine zR ?_
    refine zLI ?_
    refine zLG [.int _ _, .int _ _, .int _ _, .int _ _, .int _ _, .int _ _, .int _ _, .int _ _, .int _ _, .int _ _, .int _ _, .int _ _, _, _, .int _ _, .int _ _, .int _ _, .int _ _, .int _ _, .int _ _, .int _ _, .int _ _, .int _ _, .int _ _, .int _ _, .int _ _, .int _ _, .int _ _] ?_
    refine zLG [.int _ _, .int _ _] ?_
    refine zLP ?_
    refine zLO ?_
    refine zLc (ref10_Value _ _ X hm2) ?_
    refine zLI ?_
    refine zLI ?_
    refine zn ?_
    refine zR ?_
    refine zLI ?_
    refine zLI ?_
    refine zn ?_
    refine for_end hjt (le_fit (sub_cat ⟨congrArg _ (w_succ hjt (by omega)), congrArg (AV.int .i64) (by unfold sumT; rw [foldl_take' _ _ _ _ hjt]; rfl), trivial⟩ ⟨rfl, rfl, rfl, rfl, trivial⟩) (subO_cat trivial ⟨.inr rfl, .inr rfl, trivial⟩) (subK_cat trivial trivial) rfl rfl rfl (by rfl) rfl)
  · have hje : j = (((termsF m op ch k).drop f).take (i + 1 - f)).length := by (have := of_decide_eq_false h85; simp only [List.length_map, List.length_take, List.length_drop] at this; omega)
    have hsv : sumT 0 ((((termsF m op ch k).drop f).take (i + 1 - f)).take j) X (findS m op).Op.Pad = v := by rw [hje, List.take_length]; exact hVd.symm
    refine W_exit ?_
    repeat (first | refine pass_then ?_ | refine pass_for ?_)
    refine blockQ_hit ?_
    refine zs ?_
    refine zR ?_
    refine zLI ?_
    refine zLI ?_
    simp only [hsv]
    refine zLG [.int _ _, .int _ _] ?_
    refine zLc (hNar) ?_
    refine zLB ?_
    refine zLB ?_
    refine zn ?_
    refine zt ?_
    refine ends (l := [.bool _]) (q := .bool _) (.inr rfl) rfl ⟨trivial, trivial⟩ rfl rfl ?_
    rfl
end Go.AM
end
section
open Go Go.AM Go.Proofs
set_option maxRecDepth 10000
set_option linter.unusedVariables false
set_option linter.unusedSimpArgs false
namespace Go.AM
theorem witnessBreaks (a : Ask23) (ha : a.Wf) : Ok Try.prog 4 [.agg (ask23C a)] (.bool true) := by
  obtain ⟨m, op, ch, s, d⟩ := a
  obtain ⟨hm, _⟩ := ha
  dsimp only at hm
  show Ok Try.prog 4 [.agg (modelC m ++ ([.int .i64 op] ++ ([.int .i64 ch] ++ (spanC s ++ [.int .i64 d]))))] (.bool true)
  have hX := partX m op ch s d
  have hS := fun hz : partE m op ch s d = 0 => ref18_Safe hm (partE_zero hz) hz
  by_cases hp : partE m op ch s d = 0
  · cases hs : safeB m op ch s d with
    | true =>
      have hB := witness_Break_no m hm op ch s d (.inr hs)
      have hk : okW (partS m op ch s d) = true := by unfold safeB at hs; rw [hp] at hs; exact hs
      have hS2 := hS hp
      rw [hk] at hS2
      rw [hp] at hX hB
      --@@1
      skip
      refine fn_ok Tb_ok (fn := Try.f4) Try.func4 rfl rfl (e := [(0, _)]) rfl (by decide) rfl ?_
      refine zs ?_
      refine zR ?_
      refine zbx [.int _ _, .int _ _, .int _ _, .int _ _, .int _ _, _, .int _ _, .int _ _, .int _ _, .int _ _, .int _ _, .int _ _] 12 ?_
      refine zLB ?_
      refine zn ?_
      refine zs ?_
      refine zR ?_
      refine zLP ?_
      refine zLG [.int _ _, .int _ _, .int _ _, .int _ _, .int _ _, _, .int _ _] ?_
      refine zLP ?_
      refine zLI ?_
      refine zLP ?_
      refine zLI ?_
      refine zLP ?_
      refine zLG [.int _ _, .int _ _] ?_
      refine zLP ?_
      refine zLI ?_
      refine zLc (hB) ?_
      refine zLT [_, _, _] ?_
      refine zLG [.int _ _, .int _ _, .int _ _, _] ?_
      refine zLB ?_
      refine zLI ?_
      refine zal [.int .i64 0, .int .i64 0, .int .i64 0, .nils] 4 ?_
      refine zst (.agg [.int _ _, .int _ _, .int _ _, _]) [_, _, _, _] [[_, _, _, _]] ?_
      refine zLB ?_
      refine zLI ?_
      refine zn ?_
      refine zs ?_
      refine zR ?_
      refine zLP ?_
      refine zLG [.int _ _, .int _ _, .int _ _, .int _ _, .int _ _, _, .int _ _] ?_
      refine zLP ?_
      refine zLI ?_
      refine zLP ?_
      refine zLI ?_
      refine zLP ?_
      refine zLG [.int _ _, .int _ _] ?_
      refine zLc (ref13_Find m hm op ch s) ?_
      refine zLT [_, _] ?_
      refine zLG [.int _ _, .int _ _, .int _ _, .int _ _, .int _ _, .int _ _, .int _ _, .int _ _, .int _ _, .int _ _, .int _ _, .int _ _, _, _, .int _ _, .int _ _, .int _ _, .int _ _, .int _ _, .int _ _, .int _ _, .int _ _, .int _ _, .int _ _, .int _ _, .int _ _, .int _ _, .int _ _] ?_
      refine zLI ?_
      refine zal [.int .i64 0, .int .i64 0, .int .i64 0, .int .i64 0, .int .i64 0, .int .i64 0, .int .i64 0, .int .i64 0, .int .i64 0, .int .i64 0, .int .i64 0, .int .i64 0, .nils, .nils, .int .i64 0, .int .i64 0, .int .i64 0, .int .i64 0, .int .i64 0, .int .i64 0, .int .i64 0, .int .i64 0, .int .i64 0, .int .i64 0, .int .i64 0, .int .i64 0, .int .i64 0, .int .i64 0] 28 ?_
      refine zst (.agg [.int _ _, .int _ _, .int _ _, .int _ _, .int _ _, .int _ _, .int _ _, .int _ _, .int _ _, .int _ _, .int _ _, .int _ _, _, _, .int _ _, .int _ _, .int _ _, .int _ _, .int _ _, .int _ _, .int _ _, .int _ _, .int _ _, .int _ _, .int _ _, .int _ _, .int _ _, .int _ _]) [_, _, _, _, _, _, _, _, _, _, _, _, _, _, _, _, _, _, _, _, _, _, _, _, _, _, _, _] [[_, _, _, _, _, _, _, _, _, _, _, _, _, _, _, _, _, _, _, _, _, _, _, _, _, _, _, _]] ?_
      refine zLI ?_
      refine zn ?_
      refine zs ?_
      refine zs ?_
      refine W_draw 14 Tb_mixed rfl (by decide) (by kernel_rfl) (by kernel_rfl) ?_
      refine zEI ?_
      refine zEB ?_
      refine zEB ?_
      refine zgEP ?_
      refine zgEI ?_
      refine zgEB ?_
      refine zgEB ?_
      refine zgEP ?_
      refine zgEI ?_
      refine zgEG [.int _ _, .int _ _, .int _ _, .int _ _, .int _ _, .int _ _, .int _ _, .int _ _, .int _ _, .int _ _, .int _ _, .int _ _, _, _, .int _ _, .int _ _, .int _ _, .int _ _, .int _ _, .int _ _, .int _ _, .int _ _, .int _ _, .int _ _, .int _ _, .int _ _, .int _ _, .int _ _] ?_
      refine E_callg (hr := fun hg => ref10_Length _) rfl rfl rfl rfl rfl (fun hg => ⟨⟨(by exact hg), True.intro⟩, True.intro⟩) rfl rfl ?_
      refine zgEB ?_
      refine zqEB ?_
      refine zpEB ?_
      refine LexE_nil ?_
      refine zn ?_
      refine W_iftB (b := _) rfl [(1, .ptr 0 0 0), (3, .ptr 1 0 0), (4, .bool _), (5, .int _ _), (6, .ptr 2 0 0)] (fun (z : Bool) => [(7, .int .i64 (bif z then 151 else askE m op ch s))]) [(0, some ⟨_, _, _, _⟩), (1, some ⟨_, _, _, _⟩), (2, some ⟨_, _, _, _⟩)] (fun (z : Bool) => []) [] (fun (z : Bool) => []) 3 ⟨rfl, rfl, rfl, rfl, rfl, trivial⟩ ⟨.inr rfl, .inr rfl, .inr rfl, trivial⟩ trivial (fun h49 => ?_) (fun h49 => ?_) ?_
      · refine zR ?_
        refine zLI ?_
        refine zn ?_
        exact ⟨trivial, (le_fit (sub_cat ⟨rfl, trivial⟩ ⟨rfl, rfl, rfl, rfl, rfl, trivial⟩) (subO_cat trivial ⟨.inr rfl, .inr rfl, .inr rfl, trivial⟩) (subK_cat trivial trivial) rfl rfl rfl (by rfl) rfl)⟩
      · refine zk ?_
        exact ⟨trivial, (le_fit (sub_cat ⟨rfl, trivial⟩ ⟨rfl, rfl, rfl, rfl, rfl, trivial⟩) (subO_cat trivial ⟨.inr rfl, .inr rfl, .inr rfl, trivial⟩) (subK_cat trivial trivial) rfl rfl rfl (by rfl) rfl)⟩
      refine W.of_le (s' := ⟨[(7, .int .i64 (bif _ then 151 else askE m op ch s)), (1, .ptr 0 0 0), (3, .ptr 1 0 0), (4, .bool _), (5, .int _ _), (6, .ptr 2 0 0)], [(0, some ⟨_, _, _, _⟩), (1, some ⟨_, _, _, _⟩), (2, some ⟨_, _, _, _⟩)], [], 3⟩) (le_fit ⟨rfl, rfl, rfl, rfl, rfl, rfl, trivial⟩ ⟨.inr rfl, .inr rfl, .inr rfl, trivial⟩ trivial rfl rfl rfl (by rfl) rfl) ?_
      simp only [hX]
      refine zs ?_
      refine zs ?_
      refine zR ?_
      refine zLc (law23_fixed) ?_
      refine zLB ?_
      refine zLB ?_
      refine zgLI ?_
      refine zgLI ?_
      refine zgLB ?_
      refine zpLB ?_
      refine zn ?_
      refine W_cond_f (b := _) rfl (by rfl) ?_
      refine zk ?_
      refine zs ?_
      refine zR ?_
      refine zLB ?_
      refine zLB ?_
      refine zLB ?_
      refine zgLP ?_
      refine zgLI ?_
      refine zgLB ?_
      refine zpLB ?_
      refine zLB ?_
      refine zgLP ?_
      refine zgLI ?_
      refine zgLB ?_
      refine zpLB ?_
      refine zLB ?_
      refine zgLP ?_
      refine zgLI ?_
      refine zgLB ?_
      refine zpLB ?_
      refine zLB ?_
      refine zgLP ?_
      refine zgLO ?_
      refine zgLI ?_
      refine zgLB ?_
      refine zpLB ?_
      refine zLB ?_
      refine zn ?_
      refine zs ?_
      refine zs ?_
      refine zR ?_
      refine zLI ?_
      refine zLB ?_
      refine zLB ?_
      refine zgLG [.int _ _, .int _ _, .int _ _, .int _ _, .int _ _, .int _ _, .int _ _, .int _ _, .int _ _, .int _ _, .int _ _, .int _ _, _, _, .int _ _, .int _ _, .int _ _, .int _ _, .int _ _, .int _ _, .int _ _, .int _ _, .int _ _, .int _ _, .int _ _, .int _ _, .int _ _, .int _ _] ?_
      refine zgLP ?_
      refine zgLI ?_
      refine zgLP ?_
      refine zgLG [.int _ _, .int _ _] ?_
      refine zgLP ?_
      refine zgLI ?_
      refine L_callg (hr := fun hg => hS2) rfl rfl rfl rfl rfl (fun hg => ⟨⟨(by exact hg), True.intro⟩, ⟨⟨(by exact hg), True.intro⟩, ⟨⟨(by exact hg), True.intro⟩, ⟨⟨(by exact hg), True.intro⟩, True.intro⟩⟩⟩⟩) rfl rfl ?_
      refine zpLB ?_
      refine zn ?_
      refine W_cond_t (b := _) rfl (by rfl) ?_
      refine zs ?_
      refine zR ?_
      refine zLB ?_
      refine zLB ?_
      refine zn ?_
      refine zt ?_
      refine ends (l := [.bool _]) (q := .bool _) (.inr rfl) rfl ⟨trivial, trivial⟩ rfl rfl ?_
      rfl
    | false =>
      obtain ⟨D, M, k, i, f, up, hd, hD, L, hB⟩ := witness_Break hm hp hs
      have hk : okW (partS m op ch s d) = false := by unfold safeB at hs; rw [hp] at hs; exact hs
      have hS2 := hS hp
      rw [hk] at hS2
      have hL := ref23_Leaks ⟨hD, by
        have h := hp
        unfold partE at h
        rw [if_pos (partE_zero hp)] at h
        have := (site_ok L.H.f0).1.len
        split at h <;> omega⟩ L
      rw [← rc_site L.H, ← hd] at hL
      rw [hp] at hX
      --@@2
      skip
      refine fn_ok Tb_ok (fn := Try.f4) Try.func4 rfl rfl (e := [(0, _)]) rfl (by decide) rfl ?_
      refine zs ?_
      refine zR ?_
      refine zbx [.int _ _, .int _ _, .int _ _, .int _ _, .int _ _, _, .int _ _, .int _ _, .int _ _, .int _ _, .int _ _, .int _ _] 12 ?_
      refine zLB ?_
      refine zn ?_
      refine zs ?_
      refine zR ?_
      refine zLP ?_
      refine zLG [.int _ _, .int _ _, .int _ _, .int _ _, .int _ _, _, .int _ _] ?_
      refine zLP ?_
      refine zLI ?_
      refine zLP ?_
      refine zLI ?_
      refine zLP ?_
      refine zLG [.int _ _, .int _ _] ?_
      refine zLP ?_
      refine zLI ?_
      refine zLc (hB) ?_
      refine zLT [_, _, _] ?_
      refine zLG [.int _ _, .int _ _, .int _ _, _] ?_
      refine zLB ?_
      refine zLI ?_
      refine zal [.int .i64 0, .int .i64 0, .int .i64 0, .nils] 4 ?_
      refine zst (.agg [.int _ _, .int _ _, .int _ _, _]) [_, _, _, _] [[_, _, _, _]] ?_
      refine zLB ?_
      refine zLI ?_
      refine zn ?_
      refine zs ?_
      refine zR ?_
      refine zLP ?_
      refine zLG [.int _ _, .int _ _, .int _ _, .int _ _, .int _ _, _, .int _ _] ?_
      refine zLP ?_
      refine zLI ?_
      refine zLP ?_
      refine zLI ?_
      refine zLP ?_
      refine zLG [.int _ _, .int _ _] ?_
      refine zLc (ref13_Find m hm op ch s) ?_
      refine zLT [_, _] ?_
      refine zLG [.int _ _, .int _ _, .int _ _, .int _ _, .int _ _, .int _ _, .int _ _, .int _ _, .int _ _, .int _ _, .int _ _, .int _ _, _, _, .int _ _, .int _ _, .int _ _, .int _ _, .int _ _, .int _ _, .int _ _, .int _ _, .int _ _, .int _ _, .int _ _, .int _ _, .int _ _, .int _ _] ?_
      refine zLI ?_
      refine zal [.int .i64 0, .int .i64 0, .int .i64 0, .int .i64 0, .int .i64 0, .int .i64 0, .int .i64 0, .int .i64 0, .int .i64 0, .int .i64 0, .int .i64 0, .int .i64 0, .nils, .nils, .int .i64 0, .int .i64 0, .int .i64 0, .int .i64 0, .int .i64 0, .int .i64 0, .int .i64 0, .int .i64 0, .int .i64 0, .int .i64 0, .int .i64 0, .int .i64 0, .int .i64 0, .int .i64 0] 28 ?_
      refine zst (.agg [.int _ _, .int _ _, .int _ _, .int _ _, .int _ _, .int _ _, .int _ _, .int _ _, .int _ _, .int _ _, .int _ _, .int _ _, _, _, .int _ _, .int _ _, .int _ _, .int _ _, .int _ _, .int _ _, .int _ _, .int _ _, .int _ _, .int _ _, .int _ _, .int _ _, .int _ _, .int _ _]) [_, _, _, _, _, _, _, _, _, _, _, _, _, _, _, _, _, _, _, _, _, _, _, _, _, _, _, _] [[_, _, _, _, _, _, _, _, _, _, _, _, _, _, _, _, _, _, _, _, _, _, _, _, _, _, _, _]] ?_
      refine zLI ?_
      refine zn ?_
      refine zs ?_
      refine zs ?_
      refine W_draw 14 Tb_mixed rfl (by decide) (by kernel_rfl) (by kernel_rfl) ?_
      refine zEI ?_
      refine zEB ?_
      refine zEB ?_
      refine zgEP ?_
      refine zgEI ?_
      refine zgEB ?_
      refine zgEB ?_
      refine zgEP ?_
      refine zgEI ?_
      refine zgEG [.int _ _, .int _ _, .int _ _, .int _ _, .int _ _, .int _ _, .int _ _, .int _ _, .int _ _, .int _ _, .int _ _, .int _ _, _, _, .int _ _, .int _ _, .int _ _, .int _ _, .int _ _, .int _ _, .int _ _, .int _ _, .int _ _, .int _ _, .int _ _, .int _ _, .int _ _, .int _ _] ?_
      refine E_callg (hr := fun hg => ref10_Length _) rfl rfl rfl rfl rfl (fun hg => ⟨⟨(by exact hg), True.intro⟩, True.intro⟩) rfl rfl ?_
      refine zgEB ?_
      refine zqEB ?_
      refine zpEB ?_
      refine LexE_nil ?_
      refine zn ?_
      refine W_iftB (b := _) rfl [(1, .ptr 0 0 0), (3, .ptr 1 0 0), (4, .bool _), (5, .int _ _), (6, .ptr 2 0 0)] (fun (z : Bool) => [(7, .int .i64 (bif z then 151 else askE m op ch s))]) [(0, some ⟨_, _, _, _⟩), (1, some ⟨_, _, _, _⟩), (2, some ⟨_, _, _, _⟩)] (fun (z : Bool) => []) [] (fun (z : Bool) => []) 3 ⟨rfl, rfl, rfl, rfl, rfl, trivial⟩ ⟨.inr rfl, .inr rfl, .inr rfl, trivial⟩ trivial (fun h49 => ?_) (fun h49 => ?_) ?_
      · refine zR ?_
        refine zLI ?_
        refine zn ?_
        exact ⟨trivial, (le_fit (sub_cat ⟨rfl, trivial⟩ ⟨rfl, rfl, rfl, rfl, rfl, trivial⟩) (subO_cat trivial ⟨.inr rfl, .inr rfl, .inr rfl, trivial⟩) (subK_cat trivial trivial) rfl rfl rfl (by rfl) rfl)⟩
      · refine zk ?_
        exact ⟨trivial, (le_fit (sub_cat ⟨rfl, trivial⟩ ⟨rfl, rfl, rfl, rfl, rfl, trivial⟩) (subO_cat trivial ⟨.inr rfl, .inr rfl, .inr rfl, trivial⟩) (subK_cat trivial trivial) rfl rfl rfl (by rfl) rfl)⟩
      refine W.of_le (s' := ⟨[(7, .int .i64 (bif _ then 151 else askE m op ch s)), (1, .ptr 0 0 0), (3, .ptr 1 0 0), (4, .bool _), (5, .int _ _), (6, .ptr 2 0 0)], [(0, some ⟨_, _, _, _⟩), (1, some ⟨_, _, _, _⟩), (2, some ⟨_, _, _, _⟩)], [], 3⟩) (le_fit ⟨rfl, rfl, rfl, rfl, rfl, rfl, trivial⟩ ⟨.inr rfl, .inr rfl, .inr rfl, trivial⟩ trivial rfl rfl rfl (by rfl) rfl) ?_
      simp only [hX]
      refine zs ?_
      refine zs ?_
      refine zR ?_
      refine zLc (law23_fixed) ?_
      refine zLB ?_
      refine zLB ?_
      refine zgLI ?_
      refine zgLI ?_
      refine zgLB ?_
      refine zpLB ?_
      refine zn ?_
      refine W_cond_f (b := _) rfl (by rfl) ?_
      refine zk ?_
      refine zs ?_
      refine zR ?_
      refine zLB ?_
      refine zLB ?_
      refine zLB ?_
      refine zgLP ?_
      refine zgLI ?_
      refine zgLB ?_
      refine zpLB ?_
      refine zLB ?_
      refine zgLP ?_
      refine zgLI ?_
      refine zgLB ?_
      refine zpLB ?_
      refine zLB ?_
      refine zgLP ?_
      refine zgLI ?_
      refine zgLB ?_
      refine zpLB ?_
      refine zLB ?_
      refine zgLP ?_
      refine zgLO ?_
      refine zgLI ?_
      refine zgLB ?_
      refine zpLB ?_
      refine zLB ?_
      refine zn ?_
      refine zs ?_
      refine zs ?_
      refine zR ?_
      refine zLI ?_
      refine zLB ?_
      refine zLB ?_
      refine zgLG [.int _ _, .int _ _, .int _ _, .int _ _, .int _ _, .int _ _, .int _ _, .int _ _, .int _ _, .int _ _, .int _ _, .int _ _, _, _, .int _ _, .int _ _, .int _ _, .int _ _, .int _ _, .int _ _, .int _ _, .int _ _, .int _ _, .int _ _, .int _ _, .int _ _, .int _ _, .int _ _] ?_
      refine zgLP ?_
      refine zgLI ?_
      refine zgLP ?_
      refine zgLG [.int _ _, .int _ _] ?_
      refine zgLP ?_
      refine zgLI ?_
      refine L_callg (hr := fun hg => hS2) rfl rfl rfl rfl rfl (fun hg => ⟨⟨(by exact hg), True.intro⟩, ⟨⟨(by exact hg), True.intro⟩, ⟨⟨(by exact hg), True.intro⟩, ⟨⟨(by exact hg), True.intro⟩, True.intro⟩⟩⟩⟩) rfl rfl ?_
      refine zpLB ?_
      refine zn ?_
      refine W_cond_f (b := _) rfl (by rfl) ?_
      refine zk ?_
      refine zs ?_
      refine zR ?_
      refine zLB ?_
      refine zLB ?_
      refine zgLG [.int _ _, .int _ _, .int _ _, .int _ _, .int _ _, .int _ _, .int _ _, .int _ _, .int _ _, .int _ _, .int _ _, .int _ _, _, _, .int _ _, .int _ _, .int _ _, .int _ _, .int _ _, .int _ _, .int _ _, .int _ _, .int _ _, .int _ _, .int _ _, .int _ _, .int _ _, .int _ _] ?_
      refine zgLP ?_
      refine zgLI ?_
      refine zgLP ?_
      refine zgLG [.int _ _, .int _ _] ?_
      refine zgLG [.int _ _, .int _ _, .int _ _, _] ?_
      refine zgLP ?_
      refine zgLI ?_
      refine L_callg (hr := fun hg => hL) rfl rfl rfl rfl rfl (fun hg => ⟨⟨(by exact hg), True.intro⟩, ⟨⟨(by exact hg), True.intro⟩, ⟨⟨(by exact hg), True.intro⟩, ⟨⟨(by exact hg), True.intro⟩, ⟨⟨(by exact hg), True.intro⟩, True.intro⟩⟩⟩⟩⟩) rfl rfl ?_
      refine zpLB ?_
      refine zLB ?_
      refine zn ?_
      refine zt ?_
      refine ends (l := [.bool _]) (q := .bool _) (.inr rfl) rfl ⟨trivial, trivial⟩ rfl rfl ?_
      rfl
  · have hB := witness_Break_no m hm op ch s d (.inl hp)
    have hc56 : (bif (!true) then true else (partE m op ch s d != partE m op ch s d)) = false := by simp
    have hc91 : (bif (partE m op ch s d != 0) then true else okW (partS m op ch s d)) = true := by simp [hp]
    --@@3
    skip
    refine fn_ok Tb_ok (fn := Try.f4) Try.func4 rfl rfl (e := [(0, _)]) rfl (by decide) rfl ?_
    refine zs ?_
    refine zR ?_
    refine zbx [.int _ _, .int _ _, .int _ _, .int _ _, .int _ _, _, .int _ _, .int _ _, .int _ _, .int _ _, .int _ _, .int _ _] 12 ?_
    refine zLB ?_
    refine zn ?_
    refine zs ?_
    refine zR ?_
    refine zLP ?_
    refine zLG [.int _ _, .int _ _, .int _ _, .int _ _, .int _ _, _, .int _ _] ?_
    refine zLP ?_
    refine zLI ?_
    refine zLP ?_
    refine zLI ?_
    refine zLP ?_
    refine zLG [.int _ _, .int _ _] ?_
    refine zLP ?_
    refine zLI ?_
    refine zLc (hB) ?_
    refine zLT [_, _, _] ?_
    refine zLG [.int _ _, .int _ _, .int _ _, _] ?_
    refine zLB ?_
    refine zLI ?_
    refine zal [.int .i64 0, .int .i64 0, .int .i64 0, .nils] 4 ?_
    refine zst (.agg [.int _ _, .int _ _, .int _ _, _]) [_, _, _, _] [[_, _, _, _]] ?_
    refine zLB ?_
    refine zLI ?_
    refine zn ?_
    refine zs ?_
    refine zR ?_
    refine zLP ?_
    refine zLG [.int _ _, .int _ _, .int _ _, .int _ _, .int _ _, _, .int _ _] ?_
    refine zLP ?_
    refine zLI ?_
    refine zLP ?_
    refine zLI ?_
    refine zLP ?_
    refine zLG [.int _ _, .int _ _] ?_
    refine zLc (ref13_Find m hm op ch s) ?_
    refine zLT [_, _] ?_
    refine zLG [.int _ _, .int _ _, .int _ _, .int _ _, .int _ _, .int _ _, .int _ _, .int _ _, .int _ _, .int _ _, .int _ _, .int _ _, _, _, .int _ _, .int _ _, .int _ _, .int _ _, .int _ _, .int _ _, .int _ _, .int _ _, .int _ _, .int _ _, .int _ _, .int _ _, .int _ _, .int _ _] ?_
    refine zLI ?_
    refine zal [.int .i64 0, .int .i64 0, .int .i64 0, .int .i64 0, .int .i64 0, .int .i64 0, .int .i64 0, .int .i64 0, .int .i64 0, .int .i64 0, .int .i64 0, .int .i64 0, .nils, .nils, .int .i64 0, .int .i64 0, .int .i64 0, .int .i64 0, .int .i64 0, .int .i64 0, .int .i64 0, .int .i64 0, .int .i64 0, .int .i64 0, .int .i64 0, .int .i64 0, .int .i64 0, .int .i64 0] 28 ?_
    refine zst (.agg [.int _ _, .int _ _, .int _ _, .int _ _, .int _ _, .int _ _, .int _ _, .int _ _, .int _ _, .int _ _, .int _ _, .int _ _, _, _, .int _ _, .int _ _, .int _ _, .int _ _, .int _ _, .int _ _, .int _ _, .int _ _, .int _ _, .int _ _, .int _ _, .int _ _, .int _ _, .int _ _]) [_, _, _, _, _, _, _, _, _, _, _, _, _, _, _, _, _, _, _, _, _, _, _, _, _, _, _, _] [[_, _, _, _, _, _, _, _, _, _, _, _, _, _, _, _, _, _, _, _, _, _, _, _, _, _, _, _]] ?_
    refine zLI ?_
    refine zn ?_
    refine zs ?_
    refine zs ?_
    refine W_draw 14 Tb_mixed rfl (by decide) (by kernel_rfl) (by kernel_rfl) ?_
    refine zEI ?_
    refine zEB ?_
    refine zEB ?_
    refine zgEP ?_
    refine zgEI ?_
    refine zgEB ?_
    refine zgEB ?_
    refine zgEP ?_
    refine zgEI ?_
    refine zgEG [.int _ _, .int _ _, .int _ _, .int _ _, .int _ _, .int _ _, .int _ _, .int _ _, .int _ _, .int _ _, .int _ _, .int _ _, _, _, .int _ _, .int _ _, .int _ _, .int _ _, .int _ _, .int _ _, .int _ _, .int _ _, .int _ _, .int _ _, .int _ _, .int _ _, .int _ _, .int _ _] ?_
    refine E_callg (hr := fun hg => ref10_Length _) rfl rfl rfl rfl rfl (fun hg => ⟨⟨(by exact hg), True.intro⟩, True.intro⟩) rfl rfl ?_
    refine zgEB ?_
    refine zqEB ?_
    refine zpEB ?_
    refine LexE_nil ?_
    refine zn ?_
    refine W_iftB (b := _) rfl [(1, .ptr 0 0 0), (3, .ptr 1 0 0), (4, .bool _), (5, .int _ _), (6, .ptr 2 0 0)] (fun (z : Bool) => [(7, .int .i64 (bif z then 151 else askE m op ch s))]) [(0, some ⟨_, _, _, _⟩), (1, some ⟨_, _, _, _⟩), (2, some ⟨_, _, _, _⟩)] (fun (z : Bool) => []) [] (fun (z : Bool) => []) 3 ⟨rfl, rfl, rfl, rfl, rfl, trivial⟩ ⟨.inr rfl, .inr rfl, .inr rfl, trivial⟩ trivial (fun h49 => ?_) (fun h49 => ?_) ?_
    · refine zR ?_
      refine zLI ?_
      refine zn ?_
      exact ⟨trivial, (le_fit (sub_cat ⟨rfl, trivial⟩ ⟨rfl, rfl, rfl, rfl, rfl, trivial⟩) (subO_cat trivial ⟨.inr rfl, .inr rfl, .inr rfl, trivial⟩) (subK_cat trivial trivial) rfl rfl rfl (by rfl) rfl)⟩
    · refine zk ?_
      exact ⟨trivial, (le_fit (sub_cat ⟨rfl, trivial⟩ ⟨rfl, rfl, rfl, rfl, rfl, trivial⟩) (subO_cat trivial ⟨.inr rfl, .inr rfl, .inr rfl, trivial⟩) (subK_cat trivial trivial) rfl rfl rfl (by rfl) rfl)⟩
    refine W.of_le (s' := ⟨[(7, .int .i64 (bif _ then 151 else askE m op ch s)), (1, .ptr 0 0 0), (3, .ptr 1 0 0), (4, .bool _), (5, .int _ _), (6, .ptr 2 0 0)], [(0, some ⟨_, _, _, _⟩), (1, some ⟨_, _, _, _⟩), (2, some ⟨_, _, _, _⟩)], [], 3⟩) (le_fit ⟨rfl, rfl, rfl, rfl, rfl, rfl, trivial⟩ ⟨.inr rfl, .inr rfl, .inr rfl, trivial⟩ trivial rfl rfl rfl (by rfl) rfl) ?_
    simp only [hX]
    refine zs ?_
    refine zs ?_
    refine zR ?_
    refine zLc (law23_fixed) ?_
    refine zLB ?_
    refine zLB ?_
    refine zgLI ?_
    refine zgLI ?_
    refine zgLB ?_
    refine zpLB ?_
    refine zn ?_
    refine W_cond_f (b := _) rfl (by exact hc56) ?_
    refine zk ?_
    refine zs ?_
    refine zR ?_
    refine zLB ?_
    refine zLB ?_
    refine zLB ?_
    refine zgLP ?_
    refine zgLI ?_
    refine zgLB ?_
    refine zpLB ?_
    refine zLB ?_
    refine zgLP ?_
    refine zgLI ?_
    refine zgLB ?_
    refine zpLB ?_
    refine zLB ?_
    refine zgLP ?_
    refine zgLI ?_
    refine zgLB ?_
    refine zpLB ?_
    refine zLB ?_
    refine zgLP ?_
    refine zgLO ?_
    refine zgLI ?_
    refine zgLB ?_
    refine zpLB ?_
    refine zLB ?_
    refine zn ?_
    refine zs ?_
    refine zs ?_
    refine zR ?_
    refine zLI ?_
    refine zLB ?_
    refine zLB ?_
    refine zgLG [.int _ _, .int _ _, .int _ _, .int _ _, .int _ _, .int _ _, .int _ _, .int _ _, .int _ _, .int _ _, .int _ _, .int _ _, _, _, .int _ _, .int _ _, .int _ _, .int _ _, .int _ _, .int _ _, .int _ _, .int _ _, .int _ _, .int _ _, .int _ _, .int _ _, .int _ _, .int _ _] ?_
    refine zgLP ?_
    refine zgLI ?_
    refine zgLP ?_
    refine zgLG [.int _ _, .int _ _] ?_
    refine zgLP ?_
    refine zgLI ?_
    refine L_callg (hr := fun hg => (hS (by revert hg; by_cases c : partE m op ch s d = 0 <;> simp [c]))) rfl rfl rfl rfl rfl (fun hg => ⟨⟨(by exact hg), True.intro⟩, ⟨⟨(by exact hg), True.intro⟩, ⟨⟨(by exact hg), True.intro⟩, ⟨⟨(by exact hg), True.intro⟩, True.intro⟩⟩⟩⟩) rfl rfl ?_
    refine zpLB ?_
    refine zn ?_
    refine W_cond_t (b := _) rfl (by exact hc91) ?_
    refine zs ?_
    refine zR ?_
    refine zLB ?_
    refine zLB ?_
    refine zn ?_
    refine zt ?_
    refine ends (l := [.bool _]) (q := .bool _) (.inr rfl) rfl ⟨trivial, trivial⟩ rfl rfl ?_
    rfl
end Go.AM
end
section
namespace Go.Proofs.Ytkcigpfdlplbdaa.witnessBreaks
open Go.ChangeShapes Go.WideShapes Go.ChangeAt Go.RowKit
open Go.ChangeMaps (open_string shut_string)
set_option linter.unusedVariables false
theorem own : ownKnob Try.prog.godebug = none := by kernel_rfl
theorem laidOut : laidOutB Try.prog = true := by kernel_rfl
set_option maxRecDepth 100000 in
theorem lifted (os : Os) (started : os.Started) (H : Type) (enc : TypeId × Value → H) :
    ReturnsInHanded {} Try.checked os 4 .any (Rows.witnessBreaksSpec.pre6 enc Try.prog Try.f4 Rows.witnessBreaksRow.domain false) (Rows.witnessBreaksSpec.post enc Try.prog Try.f4 false true false false) := by
  refine returnsInHanded_of_change_sized (C := Try.checked) own started (by kernel_rfl) Try.func4
    (ChangeSpec.witness6 (enc := enc) (C := Try.checked) false ⟨#[], #[.agg #[.int .i64 0, .int .i64 0, .int .i64 0, .int .i64 0, .int .i64 0, .slice none 0 0, .int .i64 0, .int .i64 0, .int .i64 0, .int .i64 0, .int .i64 0, .int .i64 0]], []⟩ 8 (by kernel_rfl) (by kernel_rfl) (by kernel_rfl) (by kernel_rfl)) ?_
  intro W base args ds gs before hval0 hW hcnd hsz0 _
  have hsz : (DataW.weightsEach Try.prog (Try.f4.params.toList ++ Rows.witnessBreaksSpec.plain.varTypes Try.prog) (ds ++ gs)).all (· ≤ reachBytes) = true := hsz0
  have hval : ∀ (j : Nat) t v, Try.f4.params[j]? = some t → args[j]? = some v → Value.okWide Try.prog W .any base t v := hval0
  have hW' := hW
  obtain ⟨p, q, hA0, hV, rfl, hfz, hnd⟩ := hW
  have hA : DataW.TrodAll enc Try.prog W 0 (fun _ => true) true Try.f4.params.toList args.toList ds p := hA0
  rw [Try.params4] at hA hval hsz
  obtain ⟨v0, vs0, d0, ds0, p0, q0, hargs, rfl, rfl, h0, r0⟩ := trodAll_cons hA
  obtain ⟨rfl, rfl, rfl⟩ := trodAll_nil r0
  obtain rfl : args = #[v0] := by cases args; simp_all
  obtain ⟨rfl, rfl⟩ := trodVars_none hV
  have k0 := h0
  have lt0 : ∀ x ∈ p0, x.block < W.heap.size := by obtain ⟨m, hm⟩ := k0; exact DataW.trod_lt m _ _ _ hm
  obtain ⟨y0, K0, w0⟩ := Go.AM.Opn.arg Go.AM.arg0 h0 (j := 0) (t := 30) hsz rfl rfl
  have R0 := Go.AM.arg_agg Try.underlying30 (hval 0 30 v0 rfl rfl) K0
  clear hA0 hval0 hsz0 hsz
  refine (Go.AM.Ok.law (Go.AM.witnessBreaks y0 w0) (Go.AM.rel1 R0)).mono fun e W' ⟨he, bel⟩ => ?_
  subst he
  exact ⟨_, rfl, _, _, _, [], _, [], hW', trodAll_mk1 (shut_bool Try.underlying4 _), (trodAll_cons_mk (Below.trod laidOut (by kernel_rfl) (of_decide_eq_true (by kernel_rfl)) k0 bel lt0) trodAll_mk0), rfl, bel.frame _, fun h => by cases h⟩
theorem over : Rows.witnessBreaksRow.holds Try.pinned (OpenSpec.ofChange Rows.witnessBreaksSpec) :=
  OpenClaim.holds_of_wide 4 Try.f4 rfl rfl rfl rfl rfl rfl rfl ⟨rfl, rfl, rfl, rfl, rfl⟩ rfl rfl rfl rfl rfl (by kernel_rfl) Try.func4 (by kernel_rfl)
    (of_decide_eq_true (by kernel_rfl)) (by unfold Func.isWrapper; first | (rw [if_pos (by decide +kernel)]; kernel_rfl) | (rw [if_neg (by decide +kernel)]; exact ⟨rfl, rfl⟩))
    (fun os started H enc _ => lifted os started H enc)
theorem proved : Rows.WitnessBreaksSaid := over
end Go.Proofs.Ytkcigpfdlplbdaa.witnessBreaks
namespace Go.Proofs.Ytkcigpfdlplbdaa
/-- The row, under a short name, for the claim. -/
theorem witnessBreaks_holds : Rows.WitnessBreaksSaid := witnessBreaks.proved
end Go.Proofs.Ytkcigpfdlplbdaa
end
