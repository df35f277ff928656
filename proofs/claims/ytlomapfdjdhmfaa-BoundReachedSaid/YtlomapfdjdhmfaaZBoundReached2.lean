/- The law BoundReached answers true, whatever its arguments: part 3 of 6 of its proof (the machine on trees, the functions' contracts). -/

import Derived.Test.YtlomapfdjdhmfaaZBoundReached1
section
namespace Go.AM
open Go.RowKit
set_option linter.unusedVariables false
set_option linter.unusedSimpArgs false
section
variable {P : Program} {F : Mem} {μ : Pm} {T : Tab} {nt lo : Nat} {O : Objs} {K : Toks} {nx d : Nat} {e : Env} {rest : List Oper} {ops : Array Oper} {ty : TypeId} {pos : String} {after : Array Edge} {Q : Exit → St → Prop}
theorem L_inl (hT : Tab.Ok P T) {fn : Func} {f : FuncId} {code : Code} {n : Nat} {cl : Call} {c : Prop} {ags : List AV} {e' : Env} (hf : P.funcs[f]? = some fn) (hb : fn.body = some code) (hn : fn.ntmps = n) (h : aCall (ev e) cl = some (c, f, ags)) (he : enum 0 ags = e') (hd : Nat.blt d nt = true) (hc : c) (hnm : (fn.name == "runtime.NumGoroutine") = false) (hal : Nat.ble ags.length n = true)
    (hw : W P n nx code ⟨e', O, K, nx⟩ (EndsK T fn (fun v O' K' nx' => WL P nt lo ops rest ⟨(d, v) :: e, O', K', nx'⟩ Q))) : WL P nt lo ops (⟨some d, .call cl, ty, pos, after, none⟩ :: rest) ⟨e, O, K, nx⟩ Q := by
  subst hn he
  refine WL_inl rfl rfl h hc (Cal.of_W hT hf hb hnm (Nat.le_of_ble_eq_true hal) (hw.mono (fun ex s hq => ?_)))
  obtain ⟨hx, c, l, h1, h2, h3⟩ := hq
  exact ⟨hx, c, l, h1, h2, by dsimp only; rw [wr_some hd]; exact h3⟩
theorem endsW {fn : Func} {ex : Exit} {s : St} {c : Prop} {l : List AV} {v : AV} (hx : ex = .normal ∨ ex = .ret) (hl : resList T s fn.results.toList = some (c, l)) (hc : c) (hv : pack l = v) (h : WL P nt lo ops rest ⟨(d, v) :: e, s.O, s.K, s.nx⟩ Q) : EndsK T fn (fun v O' K' nx' => WL P nt lo ops rest ⟨(d, v) :: e, O', K', nx'⟩ Q) ex s := by
  subst hv
  exact ⟨hx, c, l, hl, hc, h⟩
/-- the ways through the body come to one state -/
theorem L_inlM (hT : Tab.Ok P T) (M : St) {fn : Func} {f : FuncId} {code : Code} {n : Nat} {cl : Call} {c : Prop} {ags : List AV} {e' : Env} (hf : P.funcs[f]? = some fn) (hb : fn.body = some code) (hn : fn.ntmps = n) (h : aCall (ev e) cl = some (c, f, ags)) (he : enum 0 ags = e') (hd : Nat.blt d nt = true) (hc : c) (hnm : (fn.name == "runtime.NumGoroutine") = false) (hal : Nat.ble ags.length n = true)
    (hw : W P n nx code ⟨e', O, K, nx⟩ (EndsK T fn (fun v O' K' nx' => St.le ⟨(d, v) :: e, O', K', nx'⟩ M lo nt))) (hr : WL P nt lo ops rest M Q) : WL P nt lo ops (⟨some d, .call cl, ty, pos, after, none⟩ :: rest) ⟨e, O, K, nx⟩ Q := by
  subst hn he
  refine WL_inl rfl rfl h hc (Cal.of_W hT hf hb hnm (Nat.le_of_ble_eq_true hal) (hw.mono (fun ex s hq => ?_)))
  obtain ⟨hx, c, l, h1, h2, h3⟩ := hq
  exact ⟨hx, c, l, h1, h2, by dsimp only; rw [wr_some hd]; exact WL.of_le h3 hr⟩
theorem endsM {fn : Func} {ex : Exit} {s : St} {M : St} {c : Prop} {l : List AV} {v : AV} (hx : ex = .normal ∨ ex = .ret) (hl : resList T s fn.results.toList = some (c, l)) (hc : c) (hv : pack l = v) (h : St.le ⟨(d, v) :: e, s.O, s.K, s.nx⟩ M lo nt) : EndsK T fn (fun v O' K' nx' => St.le ⟨(d, v) :: e, O', K', nx'⟩ M lo nt) ex s := by
  subst hv
  exact ⟨hx, c, l, hl, hc, h⟩
theorem ro_len {μ : Pm} {F : Mem} {l : List (List AV)} {cv : Value} (h : RelV F μ (.ro l) cv) : ∃ a cap, cv = .slice a l.length cap := by
  cases h with
  | ro0 => exact ⟨none, 0, rfl⟩
  | @ro _ _ b o cap sz' a f hz' hc hr hn hm ha => exact ⟨some a, cap, rfl⟩
theorem L_slice_to {Q : Exit → St → Prop} {ops : Array Oper} {rest : List Oper} {e : Env} {O : Objs} {K : Toks} {nx d : Nat} {ty : TypeId} {pos : String} {after : Array Edge} (hT : Tab.Ok P T) {t el sz : Nat} {x z : Operand} {l : List (List AV)} {kz : IntKind} {q : Int} (hx : strip (ev e x) = .ro l) (hz : strip (ev e z) = .int kz q)
    (hk : (T.at t).kind = .slice el) (hsz : (T.at el).size = sz) (hpos : Nat.blt 0 sz = true) (hl : ∀ c ∈ l, c.length = sz) (h1 : 0 ≤ q) (h2 : q ≤ l.length) (hs : sg (ev e x) ∧ sg (ev e z)) (hd : Nat.blt d nt = true)
    (hn : WL P nt lo ops rest ⟨(d, .ro (l.take q.toNat)) :: e, O, K, nx⟩ Q) : WL P nt lo ops (⟨some d, .slice t x none (some z) none, ty, pos, after, none⟩ :: rest) ⟨e, O, K, nx⟩ Q := by
  intro β a w ⟨hdm, μ, F, hE, hX⟩
  unfold wpL
  rw [wanted_none rfl, if_pos rfl]
  left
  have rx := (hE.ev x).strip hs.1
  have rz := (hE.ev z).strip hs.2
  dsimp only at rx rz
  rw [hx] at rx
  rw [hz] at rz
  obtain ⟨ti, hti, h3, _⟩ := hT.info (Tab.ne_none hk (by simp))
  rw [h3] at hk
  have hu := kind_slice hk
  have hpz : 0 < sz := by simpa [Nat.blt_eq] using hpos
  obtain ⟨ei, hei, _, hes, _⟩ := hT.info (t := el) (Tab.ne_none' (by omega))
  obtain ⟨ad, n, cap, hcv, hqc, hrel⟩ := ro_slice rx hl (p := 0) (q := q.toNat) (by omega) (by omega)
  generalize hcx : a.eval x = cx at rx hcv
  generalize hcz : a.eval z = cz at rz
  cases rz
  rw [List.drop_zero, Nat.sub_zero, Nat.sub_zero, Nat.zero_mul] at hrel
  subst hcv
  have hrun : (execOp a.eval ⟨some d, .slice t x none (some z) none, ty, pos, after, none⟩).run P w = .ok (.value (.slice (if cap = 0 then ad else ad.map (·.add 0)) q.toNat cap)) w := by
    have e1 : 0 ≤ q ∧ q ≤ (cap : Int) := by omega
    simp [execOp, hcx, hcz, Instr.sliceAt, Instr.slice, run_und hu, Instr.sliceBounds, Instr.sliceBound, asIntOf, e1, run_size hei, ← hes, hsz]
    all_goals (intro hh; exact absurd hh (by omega))
  unfold Oper.wp
  rw [hrun]
  exact hn β _ w (by have := Rel.put (s := ⟨e, O, K, nx⟩) (d := some d) hdm hE hrel hX; rwa [wr_some hd] at this)
theorem L_slice_from {Q : Exit → St → Prop} {ops : Array Oper} {rest : List Oper} {e : Env} {O : Objs} {K : Toks} {nx d : Nat} {ty : TypeId} {pos : String} {after : Array Edge} (hT : Tab.Ok P T) {t el sz : Nat} {x y : Operand} {l : List (List AV)} {ky : IntKind} {p : Int} (hx : strip (ev e x) = .ro l) (hy : strip (ev e y) = .int ky p)
    (hk : (T.at t).kind = .slice el) (hsz : (T.at el).size = sz) (hpos : Nat.blt 0 sz = true) (hl : ∀ c ∈ l, c.length = sz) (h0 : 0 ≤ p) (h2 : p ≤ l.length) (hs : sg (ev e x) ∧ sg (ev e y)) (hd : Nat.blt d nt = true)
    (hn : WL P nt lo ops rest ⟨(d, .ro (l.drop p.toNat)) :: e, O, K, nx⟩ Q) : WL P nt lo ops (⟨some d, .slice t x (some y) none none, ty, pos, after, none⟩ :: rest) ⟨e, O, K, nx⟩ Q := by
  intro β a w ⟨hdm, μ, F, hE, hX⟩
  unfold wpL
  rw [wanted_none rfl, if_pos rfl]
  left
  have rx := (hE.ev x).strip hs.1
  have ry := (hE.ev y).strip hs.2
  dsimp only at rx ry
  rw [hx] at rx
  rw [hy] at ry
  obtain ⟨ti, hti, h3, _⟩ := hT.info (Tab.ne_none hk (by simp))
  rw [h3] at hk
  have hu := kind_slice hk
  have hpz : 0 < sz := by simpa [Nat.blt_eq] using hpos
  obtain ⟨ei, hei, _, hes, _⟩ := hT.info (t := el) (Tab.ne_none' (by omega))
  have hlen := ro_len rx
  obtain ⟨ad, n, cap, hcv, hqc, hrel⟩ := ro_slice rx hl (p := p.toNat) (q := l.length) (by omega) (by omega)
  generalize hcx : a.eval x = cx at rx hcv
  generalize hcy : a.eval y = cy at ry
  cases ry
  subst hcv
  have hnl : n = l.length := by obtain ⟨a1, c1, h⟩ := hlen; rw [hcx] at h; cases h; rfl
  subst hnl
  rw [List.take_of_length_le (by simp)] at hrel
  have hrun : (execOp a.eval ⟨some d, .slice t x (some y) none none, ty, pos, after, none⟩).run P w = .ok (.value (.slice (if cap = p.toNat then ad else ad.map (·.add (p.toNat * sz))) (l.length - p.toNat) (cap - p.toNat))) w := by
    have e2 : 0 ≤ p ∧ p ≤ ((l.length : Nat) : Int) := by omega
    simp [execOp, hcx, hcy, Instr.sliceAt, Instr.slice, run_und hu, Instr.sliceBounds, Instr.sliceBound, asIntOf, e2, run_size hei, ← hes, hsz]
    all_goals (intro hh; exact absurd hh (by omega))
  unfold Oper.wp
  rw [hrun]
  exact hn β _ w (by have := Rel.put (s := ⟨e, O, K, nx⟩) (d := some d) hdm hE hrel hX; rwa [wr_some hd] at this)
end
end Go.AM
end
section
open Go Go.AM Go.Proofs
set_option maxRecDepth 10000
set_option linter.unusedVariables false
set_option linter.unusedSimpArgs false
namespace Go.AM
def inB (n lo hi : Int) : Bool := decide (lo ≤ n) && decide (n ≤ hi)
theorem ref06_in (n lo hi : Int) : Ok Try.prog 93 [.int .i64 n, .int .i64 lo, .int .i64 hi] (.bool (inB n lo hi)) := by
  refine fn_ok Tb_ok (fn := Try.f93) Try.func93 rfl rfl (e := [(0, _), (1, _), (2, _)]) rfl (by decide) rfl ?_
  refine zs ?_
  refine zR ?_
  refine zLB ?_
  refine zn ?_
  refine zs ?_
  refine zR ?_
  refine zLI ?_
  refine zLI ?_
  refine zLB ?_
  refine zLB ?_
  refine zgLI ?_
  refine zgLI ?_
  refine zgLB ?_
  refine zpLB ?_
  refine zLB ?_
  refine zn ?_
  refine zt ?_
  refine ends (l := [.bool _]) (q := .bool _) (.inr rfl) rfl ⟨trivial, trivial⟩ rfl rfl ?_
  simp [inB]
theorem within (n lo hi : Int) : Ok Try.prog 70 [.int .i64 n, .int .i64 lo, .int .i64 hi] (.bool (inB n lo hi)) := by
  refine fn_ok Tb_ok (fn := Try.f70) Try.func70 rfl rfl (e := [(0, _), (1, _), (2, _)]) rfl (by decide) rfl ?_
  refine zs ?_
  refine zR ?_
  refine zLB ?_
  refine zn ?_
  refine zs ?_
  refine zR ?_
  refine zLI ?_
  refine zLI ?_
  refine zLB ?_
  refine zLB ?_
  refine zgLI ?_
  refine zgLI ?_
  refine zgLB ?_
  refine zpLB ?_
  refine zLB ?_
  refine zn ?_
  refine zt ?_
  refine ends (l := [.bool _]) (q := .bool _) (.inr rfl) rfl ⟨trivial, trivial⟩ rfl rfl ?_
  simp [inB]
theorem ref08_values (n : Int) : Ok Try.prog 57 [.int .i64 n] (.bool (inB n (-128) 127)) := by
  refine fn_ok Tb_ok (fn := Try.f57) Try.func57 rfl rfl (e := [(0, _)]) rfl (by decide) rfl ?_
  refine zs ?_
  refine zR ?_
  refine zLB ?_
  refine zn ?_
  refine zs ?_
  refine zR ?_
  refine zLI ?_
  refine zLB ?_
  refine zLB ?_
  refine zgLI ?_
  refine zgLB ?_
  refine zpLB ?_
  refine zLB ?_
  refine zn ?_
  refine zt ?_
  refine ends (l := [.bool _]) (q := .bool _) (.inr rfl) rfl ⟨trivial, trivial⟩ rfl rfl ?_
  simp [inB]
theorem ref08_Reduces (n : Int) : Ok Try.prog 43 [.int .i64 n] (.bool (inB n 1 4)) := by
  refine fn_ok Tb_ok (fn := Try.f43) Try.func43 rfl rfl (e := [(0, _)]) rfl (by decide) rfl ?_
  refine zs ?_
  refine zR ?_
  refine zLB ?_
  refine zn ?_
  refine zs ?_
  refine zR ?_
  refine zLI ?_
  refine zLB ?_
  refine zLB ?_
  refine zgLI ?_
  refine zgLB ?_
  refine zpLB ?_
  refine zLB ?_
  refine zn ?_
  refine zt ?_
  refine ends (l := [.bool _]) (q := .bool _) (.inr rfl) rfl ⟨trivial, trivial⟩ rfl rfl ?_
  simp [inB]
theorem model_Reduces (n : Int) : Ok Try.prog 54 [.int .i64 n] (.bool (inB n 1 4)) := by
  refine fn_ok Tb_ok (fn := Try.f54) Try.func54 rfl rfl (e := [(0, _)]) rfl (by decide) rfl ?_
  refine zs ?_
  refine zR ?_
  refine zLB ?_
  refine zn ?_
  refine zs ?_
  refine zs ?_
  refine zR ?_
  refine zLI ?_
  refine zn ?_
  refine W_block ?_
  refine zs ?_
  refine zs ?_
  refine zR ?_
  refine zLB ?_
  refine zLB ?_
  refine zn ?_
  refine W_cond (b := _) rfl (fun h4 => ?_) (fun h4 => ?_)
  · refine zk ?_
    refine W_cond (b := _) rfl (fun h4_1 => ?_) (fun h4_1 => ?_)
    · refine zs ?_
      refine zR ?_
      refine zLB ?_
      refine zn ?_
      refine zt ?_
      refine ends (l := [.bool _]) (q := .bool _) (.inr rfl) rfl ⟨trivial, trivial⟩ rfl rfl ?_
      simp_all [inB] <;> omega
    · refine zk ?_
      refine zs ?_
      refine zR ?_
      refine zLB ?_
      refine zn ?_
      refine zt ?_
      refine ends (l := [.bool _]) (q := .bool _) (.inr rfl) rfl ⟨trivial, trivial⟩ rfl rfl ?_
      simp_all [inB] <;> omega
  · refine zs ?_
    refine zR ?_
    refine zLB ?_
    refine zLB ?_
    refine zn ?_
    refine W_cond (b := _) rfl (fun h4_2 => ?_) (fun h4_2 => ?_)
    · refine zk ?_
      refine W_cond (b := _) rfl (fun h4_3 => ?_) (fun h4_3 => ?_)
      · refine zs ?_
        refine zR ?_
        refine zLB ?_
        refine zn ?_
        refine zt ?_
        refine ends (l := [.bool _]) (q := .bool _) (.inr rfl) rfl ⟨trivial, trivial⟩ rfl rfl ?_
        simp_all [inB] <;> omega
      · refine zk ?_
        refine zs ?_
        refine zR ?_
        refine zLB ?_
        refine zn ?_
        refine zt ?_
        refine ends (l := [.bool _]) (q := .bool _) (.inr rfl) rfl ⟨trivial, trivial⟩ rfl rfl ?_
        simp_all [inB] <;> omega
    · refine zs ?_
      refine zR ?_
      refine zLB ?_
      refine zLB ?_
      refine zn ?_
      refine W_cond (b := _) rfl (fun h4_4 => ?_) (fun h4_4 => ?_)
      · refine zk ?_
        refine W_cond (b := _) rfl (fun h4_5 => ?_) (fun h4_5 => ?_)
        · refine zs ?_
          refine zR ?_
          refine zLB ?_
          refine zn ?_
          refine zt ?_
          refine ends (l := [.bool _]) (q := .bool _) (.inr rfl) rfl ⟨trivial, trivial⟩ rfl rfl ?_
          simp_all [inB] <;> omega
        · refine zk ?_
          refine zs ?_
          refine zR ?_
          refine zLB ?_
          refine zn ?_
          refine zt ?_
          refine ends (l := [.bool _]) (q := .bool _) (.inr rfl) rfl ⟨trivial, trivial⟩ rfl rfl ?_
          simp_all [inB] <;> omega
      · refine zR ?_
        refine zLB ?_
        refine zLB ?_
        refine zn ?_
        refine W_cond (b := _) rfl (fun h4_6 => ?_) (fun h4_6 => ?_)
        · refine zs ?_
          refine zR ?_
          refine zLB ?_
          refine zn ?_
          refine zt ?_
          refine ends (l := [.bool _]) (q := .bool _) (.inr rfl) rfl ⟨trivial, trivial⟩ rfl rfl ?_
          simp_all [inB] <;> omega
        · refine zk ?_
          refine zs ?_
          refine zR ?_
          refine zLB ?_
          refine zn ?_
          refine zt ?_
          refine ends (l := [.bool _]) (q := .bool _) (.inr rfl) rfl ⟨trivial, trivial⟩ rfl rfl ?_
          simp_all [inB] <;> omega
theorem ref05_dim (n : Int) : Ok Try.prog 71 [.int .i64 n] (.bool (inB n 1 1024)) := by
  refine fn_ok Tb_ok (fn := Try.f71) Try.func71 rfl rfl (e := [(0, _)]) rfl (by decide) rfl ?_
  refine zs ?_
  refine zR ?_
  refine zLB ?_
  refine zn ?_
  refine zs ?_
  refine zR ?_
  refine zLI ?_
  refine zLB ?_
  refine zLB ?_
  refine zgLI ?_
  refine zgLB ?_
  refine zpLB ?_
  refine zLB ?_
  refine zn ?_
  refine zt ?_
  refine ends (l := [.bool _]) (q := .bool _) (.inr rfl) rfl ⟨trivial, trivial⟩ rfl rfl ?_
  simp [inB]
def elems (s : Shape) : Int := w64 (w64 (s.H * s.W) * s.C)
def shapeB (s : Shape) : Bool := inB s.H 1 1024 && inB s.W 1 1024 && inB s.C 1 1024 && decide (elems s ≤ 16384)
theorem ref05_Valid (s : Shape) : Ok Try.prog 56 [.agg (shapeC s)] (.bool (shapeB s)) := by
  refine fn_ok Tb_ok (fn := Try.f56) Try.func56 rfl rfl (e := [(0, _)]) rfl (by decide) rfl ?_
  refine zs ?_
  refine zR ?_
  refine zbx [.int _ _, .int _ _, .int _ _] 3 ?_
  refine zLB ?_
  refine zn ?_
  refine zs ?_
  refine zR ?_
  refine zLP ?_
  refine zLI ?_
  refine zLc (ref05_dim _) ?_
  refine zLB ?_
  refine zgLP ?_
  refine zgLI ?_
  refine L_callg (hr := fun hg => ref05_dim _) rfl rfl rfl rfl rfl (fun hg => ⟨⟨(by exact hg), True.intro⟩, True.intro⟩) rfl rfl ?_
  refine zpLB ?_
  refine zLB ?_
  refine zgLP ?_
  refine zgLI ?_
  refine L_callg (hr := fun hg => ref05_dim _) rfl rfl rfl rfl rfl (fun hg => ⟨⟨(by exact hg), True.intro⟩, True.intro⟩) rfl rfl ?_
  refine zpLB ?_
  refine zLB ?_
  refine zgLP ?_
  refine zgLI ?_
  refine zgLP ?_
  refine zgLI ?_
  refine zgLI ?_
  refine zgLP ?_
  refine zgLI ?_
  refine zgLI ?_
  refine zgLB ?_
  refine zpLB ?_
  refine zLB ?_
  refine zn ?_
  refine zt ?_
  refine ends (l := [.bool _]) (q := .bool _) (.inr rfl) rfl ⟨trivial, trivial⟩ rfl rfl ?_
  (simp only [Bool.cond_false_right]; rfl)
def sideB (k step a b : Int) : Bool := inB k 1 32 && inB step 1 32 && inB a 0 (w64 (k - 1)) && inB b 0 (w64 (k - 1))
theorem window_side (k step a b : Int) : Ok Try.prog 92 [.int .i64 k, .int .i64 step, .int .i64 a, .int .i64 b] (.bool (sideB k step a b)) := by
  refine fn_ok Tb_ok (fn := Try.f92) Try.func92 rfl rfl (e := [(0, _), (1, _), (2, _), (3, _)]) rfl (by decide) rfl ?_
  refine zs ?_
  refine zR ?_
  refine zLB ?_
  refine zn ?_
  refine zs ?_
  refine zR ?_
  refine zLI ?_
  refine zLc (within _ _ _) ?_
  refine zLB ?_
  refine zgLI ?_
  refine L_callg (hr := fun hg => within _ _ _) rfl rfl rfl rfl rfl (fun hg => ⟨⟨(by exact hg), True.intro⟩, True.intro⟩) rfl rfl ?_
  refine zpLB ?_
  refine zLB ?_
  refine zgLI ?_
  refine zgLI ?_
  refine zgLI ?_
  refine L_callg (hr := fun hg => within _ _ _) rfl rfl rfl rfl rfl (fun hg => ⟨⟨(by exact hg), True.intro⟩, ⟨⟨(by exact hg), True.intro⟩, True.intro⟩⟩) rfl rfl ?_
  refine zpLB ?_
  refine zLB ?_
  refine zgLI ?_
  refine zgLI ?_
  refine zgLI ?_
  refine L_callg (hr := fun hg => within _ _ _) rfl rfl rfl rfl rfl (fun hg => ⟨⟨(by exact hg), True.intro⟩, ⟨⟨(by exact hg), True.intro⟩, True.intro⟩⟩) rfl rfl ?_
  refine zpLB ?_
  refine zLB ?_
  refine zn ?_
  refine zt ?_
  refine ends (l := [.bool _]) (q := .bool _) (.inr rfl) rfl ⟨trivial, trivial⟩ rfl rfl ?_
  simp [sideB, w64]
def windowB (w : Window) : Bool := sideB w.KH w.SH w.Top w.Bottom && sideB w.KW w.SW w.Left w.Right
theorem window_Valid (w : Window) : Ok Try.prog 82 [.agg (windowC w)] (.bool (windowB w)) := by
  refine fn_ok Tb_ok (fn := Try.f82) Try.func82 rfl rfl (e := [(0, _)]) rfl (by decide) rfl ?_
  refine zs ?_
  refine zR ?_
  refine zbx [.int _ _, .int _ _, .int _ _, .int _ _, .int _ _, .int _ _, .int _ _, .int _ _] 8 ?_
  refine zLB ?_
  refine zn ?_
  refine zs ?_
  refine zR ?_
  refine zLP ?_
  refine zLI ?_
  refine zLP ?_
  refine zLI ?_
  refine zLP ?_
  refine zLI ?_
  refine zLP ?_
  refine zLI ?_
  refine zLc (window_side _ _ _ _) ?_
  refine zLB ?_
  refine zgLP ?_
  refine zgLI ?_
  refine zgLP ?_
  refine zgLI ?_
  refine zgLP ?_
  refine zgLI ?_
  refine zgLP ?_
  refine zgLI ?_
  refine L_callg (hr := fun hg => window_side _ _ _ _) rfl rfl rfl rfl rfl (fun hg => ⟨⟨(by exact hg), True.intro⟩, ⟨⟨(by exact hg), True.intro⟩, ⟨⟨(by exact hg), True.intro⟩, ⟨⟨(by exact hg), True.intro⟩, True.intro⟩⟩⟩⟩) rfl rfl ?_
  refine zpLB ?_
  refine zLB ?_
  refine zn ?_
  refine zt ?_
  refine ends (l := [.bool _]) (q := .bool _) (.inr rfl) rfl ⟨trivial, trivial⟩ rfl rfl ?_
  simp [windowB]
theorem ref06_Valid (w : Window) : Ok Try.prog 90 [.agg (windowC w)] (.bool (windowB w)) := by
  refine fn_ok Tb_ok (fn := Try.f90) Try.func90 rfl rfl (e := [(0, _)]) rfl (by decide) rfl ?_
  refine zs ?_
  refine zR ?_
  refine zbx [.int _ _, .int _ _, .int _ _, .int _ _, .int _ _, .int _ _, .int _ _, .int _ _] 8 ?_
  refine zLB ?_
  refine zn ?_
  refine zs ?_
  refine zR ?_
  refine zLP ?_
  refine zLI ?_
  refine zLc (ref06_in _ _ _) ?_
  refine zLB ?_
  refine zgLP ?_
  refine zgLI ?_
  refine L_callg (hr := fun hg => ref06_in _ _ _) rfl rfl rfl rfl rfl (fun hg => ⟨⟨(by exact hg), True.intro⟩, True.intro⟩) rfl rfl ?_
  refine zpLB ?_
  refine zLB ?_
  refine zgLP ?_
  refine zgLI ?_
  refine L_callg (hr := fun hg => ref06_in _ _ _) rfl rfl rfl rfl rfl (fun hg => ⟨⟨(by exact hg), True.intro⟩, True.intro⟩) rfl rfl ?_
  refine zpLB ?_
  refine zLB ?_
  refine zgLP ?_
  refine zgLI ?_
  refine L_callg (hr := fun hg => ref06_in _ _ _) rfl rfl rfl rfl rfl (fun hg => ⟨⟨(by exact hg), True.intro⟩, True.intro⟩) rfl rfl ?_
  refine zpLB ?_
  refine zLB ?_
  refine zgLP ?_
  refine zgLI ?_
  refine zgLP ?_
  refine zgLI ?_
  refine zgLI ?_
  refine L_callg (hr := fun hg => ref06_in _ _ _) rfl rfl rfl rfl rfl (fun hg => ⟨⟨(by exact hg), True.intro⟩, ⟨⟨(by exact hg), True.intro⟩, True.intro⟩⟩) rfl rfl ?_
  refine zpLB ?_
  refine zLB ?_
  refine zgLP ?_
  refine zgLI ?_
  refine zgLP ?_
  refine zgLI ?_
  refine zgLI ?_
  refine L_callg (hr := fun hg => ref06_in _ _ _) rfl rfl rfl rfl rfl (fun hg => ⟨⟨(by exact hg), True.intro⟩, ⟨⟨(by exact hg), True.intro⟩, True.intro⟩⟩) rfl rfl ?_
  refine zpLB ?_
  refine zLB ?_
  refine zgLP ?_
  refine zgLI ?_
  refine zgLP ?_
  refine zgLI ?_
  refine zgLI ?_
  refine L_callg (hr := fun hg => ref06_in _ _ _) rfl rfl rfl rfl rfl (fun hg => ⟨⟨(by exact hg), True.intro⟩, ⟨⟨(by exact hg), True.intro⟩, True.intro⟩⟩) rfl rfl ?_
  refine zpLB ?_
  refine zLB ?_
  refine zgLP ?_
  refine zgLI ?_
  refine zgLP ?_
  refine zgLI ?_
  refine zgLI ?_
  refine L_callg (hr := fun hg => ref06_in _ _ _) rfl rfl rfl rfl rfl (fun hg => ⟨⟨(by exact hg), True.intro⟩, ⟨⟨(by exact hg), True.intro⟩, True.intro⟩⟩) rfl rfl ?_
  refine zpLB ?_
  refine zLB ?_
  refine zn ?_
  refine zt ?_
  refine ends (l := [.bool _]) (q := .bool _) (.inr rfl) rfl ⟨trivial, trivial⟩ rfl rfl ?_
  simp only [windowB, sideB, w64, Bool.cond_false_right]; congr 1; ac_rfl
def shapeE (s : Shape) : Int := bif shapeB s then 0 else 50
def elemsR (s : Shape) : Int := bif shapeB s then elems s else 0
theorem notIn {x lo hi : Int} {b : Bool} (h : (bif decide (x < lo) then true else decide (x > hi)) = b) : inB x lo hi = !b := by
  subst h; simp [inB]
  by_cases h1 : x < lo <;> by_cases h2 : x > hi <;> simp [h1, h2] <;> omega
theorem one_wrap {x : Int} (h : inB x 1 1024 = true) : IntKind.i64.wrap (1 * x) = x := by
  simp [inB] at h; rw [w64_id] <;> omega
theorem shape_Elems (s : Shape) : Ok Try.prog 77 [.agg (shapeC s)] (.tup [.int .i64 (elemsR s), .int .i64 (shapeE s)]) := by
  refine fn_ok Tb_ok (fn := Try.f77) Try.func77 rfl rfl (e := [(0, _)]) rfl (by decide) rfl ?_
  refine zs ?_
  refine zR ?_
  refine zbx [.int _ _, .int _ _, .int _ _] 3 ?_
  refine zLI ?_
  refine zLI ?_
  refine zn ?_
  refine zs ?_
  refine zR ?_
  refine zLI ?_
  refine zn ?_
  refine zs ?_
  refine zs ?_
  refine zR ?_
  refine zLP ?_
  refine zLI ?_
  refine zLP ?_
  refine zLI ?_
  refine zLP ?_
  refine zLI ?_
  refine zLG [.int _ _, .int _ _, .int _ _] ?_
  refine zLI ?_
  refine zn ?_
  refine W_block ?_
  refine W_loop_of ?_
  refine LoopW_once ?_
  refine zs ?_
  refine zR ?_
  refine zLB ?_
  refine zn ?_
  refine zs ?_
  refine W_cond_t (b := _) rfl (by rfl) ?_
  refine zk ?_
  refine zs ?_
  refine W_block ?_
  refine zs ?_
  refine zR ?_
  refine L_v Tb_ok (v := .int _ _) (av rfl ⟨trivial, ⟨by first | omega | assumption | decide | (simp_all; done) | (simp_all; omega), by first | omega | assumption | decide | (simp_all; done) | (simp_all; omega)⟩, rfl⟩) rfl ?_
  refine zLI ?_
  refine zn ?_
  refine zs ?_
  refine zs ?_
  refine zR ?_
  refine zLI ?_
  refine zLB ?_
  refine zLB ?_
  refine zgLI ?_
  refine zgLB ?_
  refine zpLB ?_
  refine zn ?_
  refine W_cond (b := _) rfl (fun h22 => ?_) (fun h22 => ?_)
  · refine zs ?_
    refine zR ?_
    refine zLI ?_
    refine zLI ?_
    refine zn ?_
    refine zt ?_
    refine ends (l := [.int _ _, .int _ _]) (q := .tup [.int _ _, .int _ _]) (.inr rfl) rfl ⟨trivial, trivial, trivial⟩ rfl rfl ?_
    first
    | (simp [shapeB, shapeE, elemsR, notIn h22]; done)
    | (simp [shapeB, shapeE, elemsR, notIn h22_1]; done)
    | (simp [shapeB, shapeE, elemsR, notIn h22_2]; done)
    | (rw [one_wrap (notIn h22)] at *
       have h28' : decide (elems s > 16384) = _ := h28
       have hB : shapeB s = decide (elems s ≤ 16384) := by simp [shapeB, notIn h22, notIn h22_1, notIn h22_2]
       have hC : decide (elems s ≤ 16384) = !decide (elems s > 16384) := by by_cases h : elems s ≤ 16384 <;> simp [h] <;> omega
       simp [shapeE, elemsR, hB, hC, h28']
       try rfl)
  · refine zk ?_
    refine zR ?_
    refine zLI ?_
    refine zLI ?_
    refine zLI ?_
    refine zLI ?_
    refine zn ?_
    refine zR ?_
    refine zLI ?_
    refine zLI ?_
    refine zn ?_
    refine LoopW_once ?_
    refine zs ?_
    refine zR ?_
    refine zLB ?_
    refine zn ?_
    refine zs ?_
    refine W_cond_t (b := _) rfl (by first | exact hc15 | rfl | decide | simp_all) ?_
    refine zk ?_
    refine zs ?_
    refine W_block ?_
    refine zs ?_
    refine zR ?_
    refine L_v Tb_ok (v := .int _ _) (av rfl ⟨trivial, ⟨by first | omega | assumption | decide | (simp_all; done) | (simp_all; omega), by first | omega | assumption | decide | (simp_all; done) | (simp_all; omega)⟩, rfl⟩) rfl ?_
    refine zLI ?_
    refine zn ?_
    refine zs ?_
    refine zs ?_
    refine zR ?_
    refine zLI ?_
    refine zLB ?_
    refine zLB ?_
    refine zgLI ?_
    refine zgLB ?_
    refine zpLB ?_
    refine zn ?_
    refine W_cond (b := _) rfl (fun h22_1 => ?_) (fun h22_1 => ?_)
    · refine zs ?_
      refine zR ?_
      refine zLI ?_
      refine zLI ?_
      refine zn ?_
      refine zt ?_
      refine ends (l := [.int _ _, .int _ _]) (q := .tup [.int _ _, .int _ _]) (.inr rfl) rfl ⟨trivial, trivial, trivial⟩ rfl rfl ?_
      first
      | (simp [shapeB, shapeE, elemsR, notIn h22]; done)
      | (simp [shapeB, shapeE, elemsR, notIn h22_1]; done)
      | (simp [shapeB, shapeE, elemsR, notIn h22_2]; done)
      | (rw [one_wrap (notIn h22)] at *
         have h28' : decide (elems s > 16384) = _ := h28
         have hB : shapeB s = decide (elems s ≤ 16384) := by simp [shapeB, notIn h22, notIn h22_1, notIn h22_2]
         have hC : decide (elems s ≤ 16384) = !decide (elems s > 16384) := by by_cases h : elems s ≤ 16384 <;> simp [h] <;> omega
         simp [shapeE, elemsR, hB, hC, h28']
         try rfl)
    · refine zk ?_
      refine zR ?_
      refine zLI ?_
      refine zLI ?_
      refine zLI ?_
      refine zLI ?_
      refine zn ?_
      refine zR ?_
      refine zLI ?_
      refine zLI ?_
      refine zn ?_
      refine LoopW_once ?_
      refine zs ?_
      refine zR ?_
      refine zLB ?_
      refine zn ?_
      refine zs ?_
      refine W_cond_t (b := _) rfl (by first | exact hc15 | rfl | decide | simp_all) ?_
      refine zk ?_
      refine zs ?_
      refine W_block ?_
      refine zs ?_
      refine zR ?_
      refine L_v Tb_ok (v := .int _ _) (av rfl ⟨trivial, ⟨by first | omega | assumption | decide | (simp_all; done) | (simp_all; omega), by first | omega | assumption | decide | (simp_all; done) | (simp_all; omega)⟩, rfl⟩) rfl ?_
      refine zLI ?_
      refine zn ?_
      refine zs ?_
      refine zs ?_
      refine zR ?_
      refine zLI ?_
      refine zLB ?_
      refine zLB ?_
      refine zgLI ?_
      refine zgLB ?_
      refine zpLB ?_
      refine zn ?_
      refine W_cond (b := _) rfl (fun h22_2 => ?_) (fun h22_2 => ?_)
      · refine zs ?_
        refine zR ?_
        refine zLI ?_
        refine zLI ?_
        refine zn ?_
        refine zt ?_
        refine ends (l := [.int _ _, .int _ _]) (q := .tup [.int _ _, .int _ _]) (.inr rfl) rfl ⟨trivial, trivial, trivial⟩ rfl rfl ?_
        first
        | (simp [shapeB, shapeE, elemsR, notIn h22]; done)
        | (simp [shapeB, shapeE, elemsR, notIn h22_1]; done)
        | (simp [shapeB, shapeE, elemsR, notIn h22_2]; done)
        | (rw [one_wrap (notIn h22)] at *
           have h28' : decide (elems s > 16384) = _ := h28
           have hB : shapeB s = decide (elems s ≤ 16384) := by simp [shapeB, notIn h22, notIn h22_1, notIn h22_2]
           have hC : decide (elems s ≤ 16384) = !decide (elems s > 16384) := by by_cases h : elems s ≤ 16384 <;> simp [h] <;> omega
           simp [shapeE, elemsR, hB, hC, h28']
           try rfl)
      · refine zk ?_
        refine zR ?_
        refine zLI ?_
        refine zLI ?_
        refine zLI ?_
        refine zLI ?_
        refine zn ?_
        refine zR ?_
        refine zLI ?_
        refine zLI ?_
        refine zn ?_
        refine LoopW_once ?_
        refine zs ?_
        refine zR ?_
        refine zLB ?_
        refine zn ?_
        refine zs ?_
        refine W_cond_f (b := _) rfl (by first | exact hc15 | rfl | decide | simp_all) ?_
        refine W_exit ?_
        repeat (first | refine pass_then ?_ | refine pass_once ?_ | refine pass_le ?_ | refine pass_round ?_ | refine pass_for ?_ | refine blockQ_miss rfl ?_)
        refine blockQ_hit ?_
        refine zs ?_
        refine zs ?_
        refine zR ?_
        refine zLI ?_
        refine zLB ?_
        refine zn ?_
        refine W_cond (b := _) rfl (fun h28 => ?_) (fun h28 => ?_)
        · refine zs ?_
          refine zR ?_
          refine zLI ?_
          refine zLI ?_
          refine zn ?_
          refine zt ?_
          refine ends (l := [.int _ _, .int _ _]) (q := .tup [.int _ _, .int _ _]) (.inr rfl) rfl ⟨trivial, trivial, trivial⟩ rfl rfl ?_
          first
          | (simp [shapeB, shapeE, elemsR, notIn h22]; done)
          | (simp [shapeB, shapeE, elemsR, notIn h22_1]; done)
          | (simp [shapeB, shapeE, elemsR, notIn h22_2]; done)
          | (rw [one_wrap (notIn h22)] at *
             have h28' : decide (elems s > 16384) = _ := h28
             have hB : shapeB s = decide (elems s ≤ 16384) := by simp [shapeB, notIn h22, notIn h22_1, notIn h22_2]
             have hC : decide (elems s ≤ 16384) = !decide (elems s > 16384) := by by_cases h : elems s ≤ 16384 <;> simp [h] <;> omega
             simp [shapeE, elemsR, hB, hC, h28']
             try rfl)
        · refine zk ?_
          refine zs ?_
          refine zR ?_
          refine zLI ?_
          refine zLI ?_
          refine zLI ?_
          refine zn ?_
          refine zt ?_
          refine ends (l := [.int _ _, .int _ _]) (q := .tup [.int _ _, .int _ _]) (.inr rfl) rfl ⟨trivial, trivial, trivial⟩ rfl rfl ?_
          first
          | (simp [shapeB, shapeE, elemsR, notIn h22]; done)
          | (simp [shapeB, shapeE, elemsR, notIn h22_1]; done)
          | (simp [shapeB, shapeE, elemsR, notIn h22_2]; done)
          | (rw [one_wrap (notIn h22)] at *
             have h28' : decide (elems s > 16384) = _ := h28
             have hB : shapeB s = decide (elems s ≤ 16384) := by simp [shapeB, notIn h22, notIn h22_1, notIn h22_2]
             have hC : decide (elems s ≤ 16384) = !decide (elems s > 16384) := by by_cases h : elems s ≤ 16384 <;> simp [h] <;> omega
             simp [shapeE, elemsR, hB, hC, h28']
             try rfl)
end Go.AM
end
section
open Go Go.AM Go.Proofs
set_option maxRecDepth 10000
set_option linter.unusedVariables false
set_option linter.unusedSimpArgs false
namespace Go.AM
/-- rows, columns that a window leaves -/
def spanH (s : Shape) (w : Window) : Int := w64 (w64 (w64 (s.H + w.Top) + w.Bottom) - w.KH)
def spanW (s : Shape) (w : Window) : Int := w64 (w64 (w64 (s.W + w.Left) + w.Right) - w.KW)
def outB (s : Shape) (w : Window) : Bool := !(decide (spanH s w < 0 ∨ spanW s w < 0))
def outE (s : Shape) (w : Window) : Int := if shapeB s then if windowB w then if spanH s w < 0 ∨ spanW s w < 0 then 60 else 0 else 60 else 50
def outH (s : Shape) (w : Window) : Int := if shapeB s then if windowB w then if spanH s w < 0 ∨ spanW s w < 0 then 0 else w64 (w64 ((spanH s w).tdiv w.SH) + 1) else 0 else 0
def outW (s : Shape) (w : Window) : Int := if shapeB s then if windowB w then if spanH s w < 0 ∨ spanW s w < 0 then 0 else w64 (w64 ((spanW s w).tdiv w.SW) + 1) else 0 else 0
theorem step_ne {w : Window} (h : windowB w = true) : w.SH ≠ 0 ∧ w.SW ≠ 0 := by
  simp [windowB, sideB, inB] at h; omega
theorem window_Out (s : Shape) (w : Window) : Ok Try.prog 67 [.agg (shapeC s), .agg (windowC w)] (.tup [.int .i64 (outH s w), .int .i64 (outW s w), .int .i64 (outE s w)]) := by
  refine fn_ok Tb_ok (fn := Try.f67) Try.func67 rfl rfl (e := [(0, _), (1, _)]) rfl (by decide) rfl ?_
  refine zs ?_
  refine zR ?_
  refine zbx [.int _ _, .int _ _, .int _ _] 3 ?_
  refine zbx [.int _ _, .int _ _, .int _ _, .int _ _, .int _ _, .int _ _, .int _ _, .int _ _] 8 ?_
  refine zLI ?_
  refine zLI ?_
  refine zLI ?_
  refine zn ?_
  refine zs ?_
  refine zs ?_
  refine zR ?_
  refine zLG [.int _ _, .int _ _, .int _ _] ?_
  refine zLc (shape_Elems s) ?_
  refine zLT [_, _] ?_
  refine zLI ?_
  refine zLI ?_
  refine zLI ?_
  refine zLI ?_
  refine zn ?_
  refine zs ?_
  refine zR ?_
  refine zLI ?_
  refine zLB ?_
  refine zn ?_
  refine W_cond (b := _) rfl (fun h17 => ?_) (fun h17 => ?_)
  · refine zs ?_
    refine zR ?_
    refine zLI ?_
    refine zLI ?_
    refine zLI ?_
    refine zLI ?_
    refine zn ?_
    refine zt ?_
    refine ends (l := [.int _ _, .int _ _, .int _ _]) (q := .tup [.int _ _, .int _ _, .int _ _]) (.inr rfl) rfl ⟨trivial, trivial, trivial, trivial⟩ rfl rfl ?_
    by_cases p : spanH s w < 0 ∨ spanW s w < 0 <;> cases hb : shapeB s <;> cases hw : windowB w <;> first
    | (exfalso; simp_all [shapeE]; done)
    | (simp [outE, outH, outW, hb, hw, p, shapeE]; done)
    | (simp [outE, outH, outW, hb, hw, p, shapeE]; simp [spanH, spanW, w64]; done)
    | (exfalso; simp [spanH, spanW, w64] at p h49; omega)
  · refine zk ?_
    refine zs ?_
    refine zs ?_
    refine zR ?_
    refine zLG [.int _ _, .int _ _, .int _ _, .int _ _, .int _ _, .int _ _, .int _ _, .int _ _] ?_
    refine zLc (window_Valid w) ?_
    refine zLB ?_
    refine zn ?_
    refine W_cond (b := _) rfl (fun h21 => ?_) (fun h21 => ?_)
    · refine zs ?_
      refine zR ?_
      refine zLI ?_
      refine zLI ?_
      refine zLI ?_
      refine zn ?_
      refine zt ?_
      refine ends (l := [.int _ _, .int _ _, .int _ _]) (q := .tup [.int _ _, .int _ _, .int _ _]) (.inr rfl) rfl ⟨trivial, trivial, trivial, trivial⟩ rfl rfl ?_
      by_cases p : spanH s w < 0 ∨ spanW s w < 0 <;> cases hb : shapeB s <;> cases hw : windowB w <;> first
      | (exfalso; simp_all [shapeE]; done)
      | (simp [outE, outH, outW, hb, hw, p, shapeE]; done)
      | (simp [outE, outH, outW, hb, hw, p, shapeE]; simp [spanH, spanW, w64]; done)
      | (exfalso; simp [spanH, spanW, w64] at p h49; omega)
    · refine zk ?_
      refine zs ?_
      refine W_draw 24 Tb_mixed rfl (by decide) (by kernel_rfl) (by kernel_rfl) ?_
      refine zEP ?_
      refine zEI ?_
      refine zEP ?_
      refine zEI ?_
      refine zEI ?_
      refine zEP ?_
      refine zEI ?_
      refine zEI ?_
      refine zEP ?_
      refine zEI ?_
      refine zEI ?_
      refine zEP ?_
      refine zEI ?_
      refine zEP ?_
      refine zEI ?_
      refine zEI ?_
      refine zEP ?_
      refine zEI ?_
      refine zEI ?_
      refine zEP ?_
      refine zEI ?_
      refine zEI ?_
      refine zEI ?_
      refine zEI ?_
      refine LexE_nil ?_
      refine zn ?_
      refine zs ?_
      refine zs ?_
      refine zR ?_
      refine zLI ?_
      refine zLB ?_
      refine zLB ?_
      refine zgLI ?_
      refine zgLB ?_
      refine zpLB ?_
      refine zn ?_
      refine W_cond (b := _) rfl (fun h49 => ?_) (fun h49 => ?_)
      · refine zs ?_
        refine zR ?_
        refine zLI ?_
        refine zLI ?_
        refine zLI ?_
        refine zn ?_
        refine zt ?_
        refine ends (l := [.int _ _, .int _ _, .int _ _]) (q := .tup [.int _ _, .int _ _, .int _ _]) (.inr rfl) rfl ⟨trivial, trivial, trivial, trivial⟩ rfl rfl ?_
        by_cases p : spanH s w < 0 ∨ spanW s w < 0 <;> cases hb : shapeB s <;> cases hw : windowB w <;> first
        | (exfalso; simp_all [shapeE]; done)
        | (simp [outE, outH, outW, hb, hw, p, shapeE]; done)
        | (simp [outE, outH, outW, hb, hw, p, shapeE]; simp [spanH, spanW, w64]; done)
        | (exfalso; simp [spanH, spanW, w64] at p h49; omega)
      · refine zk ?_
        refine zs ?_
        refine W_draw 13 Tb_mixed rfl (by decide) (by kernel_rfl) (by kernel_rfl) ?_
        refine zEI ?_
        refine zEP ?_
        refine zEI ?_
        refine E_v Tb_ok (v := .int _ _) (av rfl ⟨trivial, (by exact (step_ne (by simpa using h21)).1)⟩) rfl ?_
        refine zEI ?_
        refine zEI ?_
        refine zEP ?_
        refine zEI ?_
        refine E_v Tb_ok (v := .int _ _) (av rfl ⟨trivial, (by exact (step_ne (by simpa using h21)).2)⟩) rfl ?_
        refine zEI ?_
        refine zEI ?_
        refine zEI ?_
        refine zEI ?_
        refine LexE_nil ?_
        refine zn ?_
        refine zt ?_
        refine ends (l := [.int _ _, .int _ _, .int _ _]) (q := .tup [.int _ _, .int _ _, .int _ _]) (.inr rfl) rfl ⟨trivial, trivial, trivial, trivial⟩ rfl rfl ?_
        by_cases p : spanH s w < 0 ∨ spanW s w < 0 <;> cases hb : shapeB s <;> cases hw : windowB w <;> first
        | (exfalso; simp_all [shapeE]; done)
        | (simp [outE, outH, outW, hb, hw, p, shapeE]; done)
        | (simp [outE, outH, outW, hb, hw, p, shapeE]; simp [spanH, spanW, w64]; done)
        | (exfalso; simp [spanH, spanW, w64] at p h49; omega)
theorem fixq_Valid (s : Scale) : Ok Try.prog 89 [.agg (scaleC s)] (.bool (inB s.Mult 1 2147483647 && inB s.Shift 0 62)) := by
  refine fn_ok Tb_ok (fn := Try.f89) Try.func89 rfl rfl (e := [(0, _)]) rfl (by decide) rfl ?_
  refine zs ?_
  refine zR ?_
  refine zbx [.int _ _, .int _ _] 2 ?_
  refine zLB ?_
  refine zn ?_
  refine zs ?_
  refine zR ?_
  refine zLP ?_
  refine zLI ?_
  refine zLB ?_
  refine zLB ?_
  refine zgLP ?_
  refine zgLI ?_
  refine zgLB ?_
  refine zpLB ?_
  refine zLB ?_
  refine zgLP ?_
  refine zgLI ?_
  refine zgLB ?_
  refine zpLB ?_
  refine zLB ?_
  refine zgLP ?_
  refine zgLI ?_
  refine zgLB ?_
  refine zpLB ?_
  refine zLB ?_
  refine zn ?_
  refine zt ?_
  refine ends (l := [.bool _]) (q := .bool _) (.inr rfl) rfl ⟨trivial, trivial⟩ rfl rfl ?_
  simp [inB]; by_cases a : 0 < s.Mult <;> by_cases b : s.Mult < 2147483648 <;> simp [a, b] <;> omega
theorem ref02_Valid (a b : Int) : Ok Try.prog 76 [.int .i64 a, .int .i64 b] (.bool (inB a 1 2147483647 && inB b 0 62)) := by
  refine fn_ok Tb_ok (fn := Try.f76) Try.func76 rfl rfl (e := [(0, _), (1, _)]) rfl (by decide) rfl ?_
  refine zs ?_
  refine zR ?_
  refine zLB ?_
  refine zn ?_
  refine zs ?_
  refine zR ?_
  refine zLI ?_
  refine zLB ?_
  refine zLB ?_
  refine zgLI ?_
  refine zgLB ?_
  refine zpLB ?_
  refine zLB ?_
  refine zgLI ?_
  refine zgLB ?_
  refine zpLB ?_
  refine zLB ?_
  refine zgLI ?_
  refine zgLB ?_
  refine zpLB ?_
  refine zLB ?_
  refine zn ?_
  refine zt ?_
  refine ends (l := [.bool _]) (q := .bool _) (.inr rfl) rfl ⟨trivial, trivial⟩ rfl rfl ?_
  simp [inB, Bool.and_assoc]
theorem ref08_Weighs (n : Int) : Ok Try.prog 83 [.int .i64 n] (.bool (inB n 1 3)) := by
  refine fn_ok Tb_ok (fn := Try.f83) Try.func83 rfl rfl (e := [(0, _)]) rfl (by decide) rfl ?_
  refine zs ?_
  refine zR ?_
  refine zLB ?_
  refine zn ?_
  refine zs ?_
  refine zR ?_
  refine zLI ?_
  refine zLB ?_
  refine zLB ?_
  refine zgLI ?_
  refine zgLB ?_
  refine zpLB ?_
  refine zLB ?_
  refine zn ?_
  refine zt ?_
  refine ends (l := [.bool _]) (q := .bool _) (.inr rfl) rfl ⟨trivial, trivial⟩ rfl rfl ?_
  simp [inB]
theorem ref08_Slides (n : Int) : Ok Try.prog 84 [.int .i64 n] (.bool (inB n 2 5)) := by
  refine fn_ok Tb_ok (fn := Try.f84) Try.func84 rfl rfl (e := [(0, _)]) rfl (by decide) rfl ?_
  refine zs ?_
  refine zR ?_
  refine zLB ?_
  refine zn ?_
  refine zs ?_
  refine zR ?_
  refine zLI ?_
  refine zLB ?_
  refine zLB ?_
  refine zgLI ?_
  refine zgLB ?_
  refine zpLB ?_
  refine zLB ?_
  refine zn ?_
  refine zt ?_
  refine ends (l := [.bool _]) (q := .bool _) (.inr rfl) rfl ⟨trivial, trivial⟩ rfl rfl ?_
  simp [inB]
def scalesB (n : Int) : Bool := inB n 1 3 || n == 6 || n == 7
theorem ref08_Scales (n : Int) : Ok Try.prog 75 [.int .i64 n] (.bool (scalesB n)) := by
  refine fn_ok Tb_ok (fn := Try.f75) Try.func75 rfl rfl (e := [(0, _)]) rfl (by decide) rfl ?_
  refine zs ?_
  refine zR ?_
  refine zLB ?_
  refine zn ?_
  refine zs ?_
  refine zR ?_
  refine zLI ?_
  refine zLB ?_
  refine zLB ?_
  refine zgLI ?_
  refine zgLB ?_
  refine zpLB ?_
  refine zLB ?_
  refine zgLI ?_
  refine zgLB ?_
  refine zpLB ?_
  refine zLB ?_
  refine zgLI ?_
  refine zgLB ?_
  refine zpLB ?_
  refine zLB ?_
  refine zn ?_
  refine zt ?_
  refine ends (l := [.bool _]) (q := .bool _) (.inr rfl) rfl ⟨trivial, trivial⟩ rfl rfl ?_
  (simp_all [scalesB, inB]; done)
/-- how many terms each sum has -/
def lenF (o : MOp) (a : Shape) : Int := bif o.Kind == 1 then w64 (w64 (a.H * a.W) * a.C) else bif o.Kind == 2 then w64 (w64 (o.Win.KH * o.Win.KW) * a.C) else w64 (o.Win.KH * o.Win.KW)
theorem ref08_Length (o : MOp) (a : Shape) : Ok Try.prog 39 [.agg (opC o), .agg (shapeC a)] (.int .i64 (lenF o a)) := by
  refine fn_ok Tb_ok (fn := Try.f39) Try.func39 rfl rfl (e := [(0, _), (1, _)]) rfl (by decide) rfl ?_
  refine zs ?_
  refine zR ?_
  refine zbx [.int _ _, .int _ _, .int _ _, .int _ _, .int _ _, .int _ _, .int _ _, .int _ _, .int _ _, .int _ _, .int _ _, .int _ _, _, _, .int _ _, .int _ _, .int _ _, .int _ _, .int _ _, .int _ _, .int _ _, .int _ _] 22 ?_
  refine zbx [.int _ _, .int _ _, .int _ _] 3 ?_
  refine zLI ?_
  refine zn ?_
  refine zs ?_
  refine zs ?_
  refine zR ?_
  refine zLP ?_
  refine zLI ?_
  refine zn ?_
  refine W_block ?_
  refine zs ?_
  refine zR ?_
  refine zLB ?_
  refine zLB ?_
  refine zn ?_
  refine W_cond (b := _) rfl (fun h7 => ?_) (fun h7 => ?_)
  · refine zs ?_
    refine zR ?_
    refine zLP ?_
    refine zLI ?_
    refine zLP ?_
    refine zLI ?_
    refine zLI ?_
    refine zLP ?_
    refine zLI ?_
    refine zLI ?_
    refine zLI ?_
    refine zn ?_
    refine zt ?_
    refine ends (l := [.int _ _]) (q := .int _ _) (.inr rfl) rfl ⟨trivial, trivial⟩ rfl rfl ?_
    simp_all [lenF, w64, Bool.cond_eq_ite]
  · refine zs ?_
    refine zR ?_
    refine zLB ?_
    refine zLB ?_
    refine zn ?_
    refine W_cond (b := _) rfl (fun h17 => ?_) (fun h17 => ?_)
    · refine zs ?_
      refine zR ?_
      refine zLP ?_
      refine zLP ?_
      refine zLI ?_
      refine zLP ?_
      refine zLP ?_
      refine zLI ?_
      refine zLI ?_
      refine zLP ?_
      refine zLI ?_
      refine zLI ?_
      refine zLI ?_
      refine zn ?_
      refine zt ?_
      refine ends (l := [.int _ _]) (q := .int _ _) (.inr rfl) rfl ⟨trivial, trivial⟩ rfl rfl ?_
      simp_all [lenF, w64, Bool.cond_eq_ite]
    · refine zk ?_
      refine zs ?_
      refine zR ?_
      refine zLP ?_
      refine zLP ?_
      refine zLI ?_
      refine zLP ?_
      refine zLP ?_
      refine zLI ?_
      refine zLI ?_
      refine zLI ?_
      refine zn ?_
      refine zt ?_
      refine ends (l := [.int _ _]) (q := .int _ _) (.inr rfl) rfl ⟨trivial, trivial⟩ rfl rfl ?_
      simp_all [lenF, w64, Bool.cond_eq_ite]
def labF (o : MOp) (a t : Shape) : Int := bif inB o.Kind 1 4 then w64 (elems t * lenF o a) else bif o.Kind == 5 then w64 (w64 (elems t * o.Win.KH) * o.Win.KW) else elems t
theorem ref08_Labour (o : MOp) (a t : Shape) : Ok Try.prog 59 [.agg (opC o), .agg (shapeC a), .agg (shapeC t)] (.int .i64 (labF o a t)) := by
  refine fn_ok Tb_ok (fn := Try.f59) Try.func59 rfl rfl (e := [(0, _), (1, _), (2, _)]) rfl (by decide) rfl ?_
  refine zs ?_
  refine zR ?_
  refine zbx [.int _ _, .int _ _, .int _ _, .int _ _, .int _ _, .int _ _, .int _ _, .int _ _, .int _ _, .int _ _, .int _ _, .int _ _, _, _, .int _ _, .int _ _, .int _ _, .int _ _, .int _ _, .int _ _, .int _ _, .int _ _] 22 ?_
  refine zbx [.int _ _, .int _ _, .int _ _] 3 ?_
  refine zbx [.int _ _, .int _ _, .int _ _] 3 ?_
  refine zLI ?_
  refine zn ?_
  refine zs ?_
  refine zR ?_
  refine zLP ?_
  refine zLI ?_
  refine zLP ?_
  refine zLI ?_
  refine zLI ?_
  refine zLP ?_
  refine zLI ?_
  refine zLI ?_
  refine zLI ?_
  refine zn ?_
  refine zs ?_
  refine zs ?_
  refine zR ?_
  refine zLP ?_
  refine zLI ?_
  refine zLc (ref08_Reduces _) ?_
  refine zn ?_
  refine W_cond (b := _) rfl (fun h18 => ?_) (fun h18 => ?_)
  · refine zs ?_
    refine zR ?_
    refine zLI ?_
    refine zLG [.int _ _, .int _ _, .int _ _, .int _ _, .int _ _, .int _ _, .int _ _, .int _ _, .int _ _, .int _ _, .int _ _, .int _ _, _, _, .int _ _, .int _ _, .int _ _, .int _ _, .int _ _, .int _ _, .int _ _, .int _ _] ?_
    refine zLG [.int _ _, .int _ _, .int _ _] ?_
    refine zLc (ref08_Length o a) ?_
    refine zLI ?_
    refine zLI ?_
    refine zn ?_
    refine zt ?_
    refine ends (l := [.int _ _]) (q := .int _ _) (.inr rfl) rfl ⟨trivial, trivial⟩ rfl rfl ?_
    simp_all [labF, w64, elems, Bool.cond_eq_ite]
  · refine zk ?_
    refine zs ?_
    refine zs ?_
    refine zR ?_
    refine zLP ?_
    refine zLI ?_
    refine zLB ?_
    refine zn ?_
    refine W_cond (b := _) rfl (fun h26 => ?_) (fun h26 => ?_)
    · refine zs ?_
      refine zR ?_
      refine zLI ?_
      refine zLP ?_
      refine zLP ?_
      refine zLI ?_
      refine zLI ?_
      refine zLP ?_
      refine zLP ?_
      refine zLI ?_
      refine zLI ?_
      refine zLI ?_
      refine zn ?_
      refine zt ?_
      refine ends (l := [.int _ _]) (q := .int _ _) (.inr rfl) rfl ⟨trivial, trivial⟩ rfl rfl ?_
      simp_all [labF, w64, elems, Bool.cond_eq_ite]
    · refine zk ?_
      refine zs ?_
      refine zR ?_
      refine zLI ?_
      refine zLI ?_
      refine zn ?_
      refine zt ?_
      refine ends (l := [.int _ _]) (q := .int _ _) (.inr rfl) rfl ⟨trivial, trivial⟩ rfl rfl ?_
      simp_all [labF, w64, elems, Bool.cond_eq_ite]
def listW (o : MOp) (a : Shape) : Int := bif o.Kind == 1 || o.Kind == 2 then w64 (o.M * lenF o a) else bif o.Kind == 3 then w64 (a.C * lenF o a) else 0
def listB (o : MOp) (a : Shape) : Int := bif o.Kind == 1 || o.Kind == 2 then o.M else bif o.Kind == 3 then a.C else 0
theorem ref08_Lists (o : MOp) (a : Shape) : Ok Try.prog 74 [.agg (opC o), .agg (shapeC a)] (.tup [.int .i64 (listW o a), .int .i64 (listB o a)]) := by
  refine fn_ok Tb_ok (fn := Try.f74) Try.func74 rfl rfl (e := [(0, _), (1, _)]) rfl (by decide) rfl ?_
  refine zs ?_
  refine zR ?_
  refine zbx [.int _ _, .int _ _, .int _ _, .int _ _, .int _ _, .int _ _, .int _ _, .int _ _, .int _ _, .int _ _, .int _ _, .int _ _, _, _, .int _ _, .int _ _, .int _ _, .int _ _, .int _ _, .int _ _, .int _ _, .int _ _] 22 ?_
  refine zbx [.int _ _, .int _ _, .int _ _] 3 ?_
  refine zLI ?_
  refine zLI ?_
  refine zn ?_
  refine zs ?_
  refine zs ?_
  refine zR ?_
  refine zLP ?_
  refine zLI ?_
  refine zn ?_
  refine W_block ?_
  refine zs ?_
  refine zs ?_
  refine zR ?_
  refine zLB ?_
  refine zLB ?_
  refine zn ?_
  refine W_cond (b := _) rfl (fun h8 => ?_) (fun h8 => ?_)
  · refine zk ?_
    refine W_cond (b := _) rfl (fun h8_1 => ?_) (fun h8_1 => ?_)
    · refine zs ?_
      refine W_draw 10 Tb_mixed rfl (by decide) (by kernel_rfl) (by kernel_rfl) ?_
      refine zEP ?_
      refine zEI ?_
      refine zEG [.int _ _, .int _ _, .int _ _, .int _ _, .int _ _, .int _ _, .int _ _, .int _ _, .int _ _, .int _ _, .int _ _, .int _ _, _, _, .int _ _, .int _ _, .int _ _, .int _ _, .int _ _, .int _ _, .int _ _, .int _ _] ?_
      refine zEG [.int _ _, .int _ _, .int _ _] ?_
      refine zEc (ref08_Length o a) ?_
      refine zEI ?_
      refine zEP ?_
      refine zEI ?_
      refine zEI ?_
      refine zEI ?_
      refine LexE_nil ?_
      refine zn ?_
      refine zt ?_
      refine ends (l := [.int _ _, .int _ _]) (q := .tup [.int _ _, .int _ _]) (.inr rfl) rfl ⟨trivial, trivial, trivial⟩ rfl rfl ?_
      by_cases k1 : o.Kind = 1 <;> simp_all [listW, listB, w64, Bool.cond_eq_ite]
    · refine zs ?_
      refine zR ?_
      refine zLB ?_
      refine zLB ?_
      refine zn ?_
      refine W_cond (b := _) rfl (fun h19 => ?_) (fun h19 => ?_)
      · refine zs ?_
        refine W_draw 10 Tb_mixed rfl (by decide) (by kernel_rfl) (by kernel_rfl) ?_
        refine zEP ?_
        refine zEI ?_
        refine zEG [.int _ _, .int _ _, .int _ _, .int _ _, .int _ _, .int _ _, .int _ _, .int _ _, .int _ _, .int _ _, .int _ _, .int _ _, _, _, .int _ _, .int _ _, .int _ _, .int _ _, .int _ _, .int _ _, .int _ _, .int _ _] ?_
        refine zEG [.int _ _, .int _ _, .int _ _] ?_
        refine zEc (ref08_Length o a) ?_
        refine zEI ?_
        refine zEP ?_
        refine zEI ?_
        refine zEI ?_
        refine zEI ?_
        refine LexE_nil ?_
        refine zn ?_
        refine zt ?_
        refine ends (l := [.int _ _, .int _ _]) (q := .tup [.int _ _, .int _ _]) (.inr rfl) rfl ⟨trivial, trivial, trivial⟩ rfl rfl ?_
        by_cases k1 : o.Kind = 1 <;> simp_all [listW, listB, w64, Bool.cond_eq_ite]
      · refine zk ?_
        refine zs ?_
        refine zR ?_
        refine zLI ?_
        refine zLI ?_
        refine zn ?_
        refine zt ?_
        refine ends (l := [.int _ _, .int _ _]) (q := .tup [.int _ _, .int _ _]) (.inr rfl) rfl ⟨trivial, trivial, trivial⟩ rfl rfl ?_
        by_cases k1 : o.Kind = 1 <;> simp_all [listW, listB, w64, Bool.cond_eq_ite]
  · refine zR ?_
    refine zLB ?_
    refine zLB ?_
    refine zn ?_
    refine W_cond (b := _) rfl (fun h8_2 => ?_) (fun h8_2 => ?_)
    · refine zs ?_
      refine W_draw 10 Tb_mixed rfl (by decide) (by kernel_rfl) (by kernel_rfl) ?_
      refine zEP ?_
      refine zEI ?_
      refine zEG [.int _ _, .int _ _, .int _ _, .int _ _, .int _ _, .int _ _, .int _ _, .int _ _, .int _ _, .int _ _, .int _ _, .int _ _, _, _, .int _ _, .int _ _, .int _ _, .int _ _, .int _ _, .int _ _, .int _ _, .int _ _] ?_
      refine zEG [.int _ _, .int _ _, .int _ _] ?_
      refine zEc (ref08_Length o a) ?_
      refine zEI ?_
      refine zEP ?_
      refine zEI ?_
      refine zEI ?_
      refine zEI ?_
      refine LexE_nil ?_
      refine zn ?_
      refine zt ?_
      refine ends (l := [.int _ _, .int _ _]) (q := .tup [.int _ _, .int _ _]) (.inr rfl) rfl ⟨trivial, trivial, trivial⟩ rfl rfl ?_
      by_cases k1 : o.Kind = 1 <;> simp_all [listW, listB, w64, Bool.cond_eq_ite]
    · refine zs ?_
      refine zR ?_
      refine zLB ?_
      refine zLB ?_
      refine zn ?_
      refine W_cond (b := _) rfl (fun h19_1 => ?_) (fun h19_1 => ?_)
      · refine zs ?_
        refine W_draw 10 Tb_mixed rfl (by decide) (by kernel_rfl) (by kernel_rfl) ?_
        refine zEP ?_
        refine zEI ?_
        refine zEG [.int _ _, .int _ _, .int _ _, .int _ _, .int _ _, .int _ _, .int _ _, .int _ _, .int _ _, .int _ _, .int _ _, .int _ _, _, _, .int _ _, .int _ _, .int _ _, .int _ _, .int _ _, .int _ _, .int _ _, .int _ _] ?_
        refine zEG [.int _ _, .int _ _, .int _ _] ?_
        refine zEc (ref08_Length o a) ?_
        refine zEI ?_
        refine zEP ?_
        refine zEI ?_
        refine zEI ?_
        refine zEI ?_
        refine LexE_nil ?_
        refine zn ?_
        refine zt ?_
        refine ends (l := [.int _ _, .int _ _]) (q := .tup [.int _ _, .int _ _]) (.inr rfl) rfl ⟨trivial, trivial, trivial⟩ rfl rfl ?_
        by_cases k1 : o.Kind = 1 <;> simp_all [listW, listB, w64, Bool.cond_eq_ite]
      · refine zk ?_
        refine zs ?_
        refine zR ?_
        refine zLI ?_
        refine zLI ?_
        refine zn ?_
        refine zt ?_
        refine ends (l := [.int _ _, .int _ _]) (q := .tup [.int _ _, .int _ _]) (.inr rfl) rfl ⟨trivial, trivial, trivial⟩ rfl rfl ?_
        by_cases k1 : o.Kind = 1 <;> simp_all [listW, listB, w64, Bool.cond_eq_ite]
end Go.AM
end
section
open Go Go.AM Go.Proofs
set_option maxRecDepth 10000
set_option linter.unusedVariables false
set_option linter.unusedSimpArgs false
namespace Go.AM
structure Uses where
  (b m win pads weights sa sb pad : Bool)
  deriving DecidableEq, Inhabited
def usesC (u : Uses) : List AV := [.bool u.b, .bool u.m, .bool u.win, .bool u.pads, .bool u.weights, .bool u.sa, .bool u.sb, .bool u.pad]
def ofU (k : Int) : Uses :=
  if k = 1 then ⟨false, true, false, false, true, true, false, false⟩ else if k = 2 then ⟨false, true, true, true, true, true, false, true⟩ else if k = 3 then ⟨false, false, true, true, true, true, false, true⟩
  else if k = 4 then ⟨false, false, true, false, false, false, false, false⟩ else if k = 5 then ⟨false, false, true, false, false, false, false, false⟩ else if k = 6 then ⟨true, false, false, false, false, true, true, false⟩
  else if k = 7 then ⟨false, false, false, false, false, true, false, false⟩ else ⟨false, false, false, false, false, false, false, false⟩
theorem model_of (n : Int) : Ok Try.prog 85 [.int .i64 n] (.tup [.agg (usesC (ofU n)), .bool (inB n 1 8)]) := by
  refine fn_ok Tb_ok (fn := Try.f85) Try.func85 rfl rfl (e := [(0, _)]) rfl (by decide) rfl ?_
  refine zs ?_
  refine zR ?_
  refine zal [.bool false, .bool false, .bool false, .bool false, .bool false, .bool false, .bool false, .bool false] 8 ?_
  refine zLB ?_
  refine zn ?_
  refine zs ?_
  refine zs ?_
  refine zR ?_
  refine zLI ?_
  refine zn ?_
  refine W_block ?_
  refine zs ?_
  refine zR ?_
  refine zLB ?_
  refine zLB ?_
  refine zn ?_
  refine W_cond (b := _) rfl (fun h5 => ?_) (fun h5 => ?_)
  · refine zs ?_
    refine zR ?_
    refine zLG [.bool _, .bool _, .bool _, .bool _, .bool _, .bool _, .bool _, .bool _] ?_
    refine zst (.agg [.bool _, .bool _, .bool _, .bool _, .bool _, .bool _, .bool _, .bool _]) [_, _, _, _, _, _, _, _] [[_, _, _, _, _, _, _, _]] ?_
    refine zLB ?_
    refine zn ?_
    refine zt ?_
    refine ends (l := [.agg [.bool _, .bool _, .bool _, .bool _, .bool _, .bool _, .bool _, .bool _], .bool _]) (q := .tup [.agg [.bool _, .bool _, .bool _, .bool _, .bool _, .bool _, .bool _, .bool _], .bool _]) (.inr rfl) rfl ⟨rfl, trivial, trivial⟩ rfl rfl ?_
    simp_all [usesC, ofU, inB]; try omega
  · refine zs ?_
    refine zR ?_
    refine zLB ?_
    refine zLB ?_
    refine zn ?_
    refine W_cond (b := _) rfl (fun h8 => ?_) (fun h8 => ?_)
    · refine zs ?_
      refine zR ?_
      refine zLG [.bool _, .bool _, .bool _, .bool _, .bool _, .bool _, .bool _, .bool _] ?_
      refine zst (.agg [.bool _, .bool _, .bool _, .bool _, .bool _, .bool _, .bool _, .bool _]) [_, _, _, _, _, _, _, _] [[_, _, _, _, _, _, _, _]] ?_
      refine zLB ?_
      refine zn ?_
      refine zt ?_
      refine ends (l := [.agg [.bool _, .bool _, .bool _, .bool _, .bool _, .bool _, .bool _, .bool _], .bool _]) (q := .tup [.agg [.bool _, .bool _, .bool _, .bool _, .bool _, .bool _, .bool _, .bool _], .bool _]) (.inr rfl) rfl ⟨rfl, trivial, trivial⟩ rfl rfl ?_
      simp_all [usesC, ofU, inB]; try omega
    · refine zs ?_
      refine zR ?_
      refine zLB ?_
      refine zLB ?_
      refine zn ?_
      refine W_cond (b := _) rfl (fun h11 => ?_) (fun h11 => ?_)
      · refine zs ?_
        refine zR ?_
        refine zLG [.bool _, .bool _, .bool _, .bool _, .bool _, .bool _, .bool _, .bool _] ?_
        refine zst (.agg [.bool _, .bool _, .bool _, .bool _, .bool _, .bool _, .bool _, .bool _]) [_, _, _, _, _, _, _, _] [[_, _, _, _, _, _, _, _]] ?_
        refine zLB ?_
        refine zn ?_
        refine zt ?_
        refine ends (l := [.agg [.bool _, .bool _, .bool _, .bool _, .bool _, .bool _, .bool _, .bool _], .bool _]) (q := .tup [.agg [.bool _, .bool _, .bool _, .bool _, .bool _, .bool _, .bool _, .bool _], .bool _]) (.inr rfl) rfl ⟨rfl, trivial, trivial⟩ rfl rfl ?_
        simp_all [usesC, ofU, inB]; try omega
      · refine zs ?_
        refine zs ?_
        refine zR ?_
        refine zLB ?_
        refine zLB ?_
        refine zn ?_
        refine W_cond (b := _) rfl (fun h14 => ?_) (fun h14 => ?_)
        · refine zk ?_
          refine W_cond (b := _) rfl (fun h14_1 => ?_) (fun h14_1 => ?_)
          · refine zs ?_
            refine zR ?_
            refine zLG [.bool _, .bool _, .bool _, .bool _, .bool _, .bool _, .bool _, .bool _] ?_
            refine zst (.agg [.bool _, .bool _, .bool _, .bool _, .bool _, .bool _, .bool _, .bool _]) [_, _, _, _, _, _, _, _] [[_, _, _, _, _, _, _, _]] ?_
            refine zLB ?_
            refine zn ?_
            refine zt ?_
            refine ends (l := [.agg [.bool _, .bool _, .bool _, .bool _, .bool _, .bool _, .bool _, .bool _], .bool _]) (q := .tup [.agg [.bool _, .bool _, .bool _, .bool _, .bool _, .bool _, .bool _, .bool _], .bool _]) (.inr rfl) rfl ⟨rfl, trivial, trivial⟩ rfl rfl ?_
            simp_all [usesC, ofU, inB]; try omega
          · refine zs ?_
            refine zR ?_
            refine zLB ?_
            refine zLB ?_
            refine zn ?_
            refine W_cond (b := _) rfl (fun h18 => ?_) (fun h18 => ?_)
            · refine zs ?_
              refine zR ?_
              refine zLG [.bool _, .bool _, .bool _, .bool _, .bool _, .bool _, .bool _, .bool _] ?_
              refine zst (.agg [.bool _, .bool _, .bool _, .bool _, .bool _, .bool _, .bool _, .bool _]) [_, _, _, _, _, _, _, _] [[_, _, _, _, _, _, _, _]] ?_
              refine zLB ?_
              refine zn ?_
              refine zt ?_
              refine ends (l := [.agg [.bool _, .bool _, .bool _, .bool _, .bool _, .bool _, .bool _, .bool _], .bool _]) (q := .tup [.agg [.bool _, .bool _, .bool _, .bool _, .bool _, .bool _, .bool _, .bool _], .bool _]) (.inr rfl) rfl ⟨rfl, trivial, trivial⟩ rfl rfl ?_
              simp_all [usesC, ofU, inB]; try omega
            · refine zs ?_
              refine zR ?_
              refine zLB ?_
              refine zLB ?_
              refine zn ?_
              refine W_cond (b := _) rfl (fun h21 => ?_) (fun h21 => ?_)
              · refine zs ?_
                refine zR ?_
                refine zLG [.bool _, .bool _, .bool _, .bool _, .bool _, .bool _, .bool _, .bool _] ?_
                refine zst (.agg [.bool _, .bool _, .bool _, .bool _, .bool _, .bool _, .bool _, .bool _]) [_, _, _, _, _, _, _, _] [[_, _, _, _, _, _, _, _]] ?_
                refine zLB ?_
                refine zn ?_
                refine zt ?_
                refine ends (l := [.agg [.bool _, .bool _, .bool _, .bool _, .bool _, .bool _, .bool _, .bool _], .bool _]) (q := .tup [.agg [.bool _, .bool _, .bool _, .bool _, .bool _, .bool _, .bool _, .bool _], .bool _]) (.inr rfl) rfl ⟨rfl, trivial, trivial⟩ rfl rfl ?_
                simp_all [usesC, ofU, inB]; try omega
              · refine zs ?_
                refine zR ?_
                refine zLB ?_
                refine zLB ?_
                refine zn ?_
                refine W_cond (b := _) rfl (fun h24 => ?_) (fun h24 => ?_)
                · refine zs ?_
                  refine zR ?_
                  refine zLG [.bool _, .bool _, .bool _, .bool _, .bool _, .bool _, .bool _, .bool _] ?_
                  refine zst (.agg [.bool _, .bool _, .bool _, .bool _, .bool _, .bool _, .bool _, .bool _]) [_, _, _, _, _, _, _, _] [[_, _, _, _, _, _, _, _]] ?_
                  refine zLB ?_
                  refine zn ?_
                  refine zt ?_
                  refine ends (l := [.agg [.bool _, .bool _, .bool _, .bool _, .bool _, .bool _, .bool _, .bool _], .bool _]) (q := .tup [.agg [.bool _, .bool _, .bool _, .bool _, .bool _, .bool _, .bool _, .bool _], .bool _]) (.inr rfl) rfl ⟨rfl, trivial, trivial⟩ rfl rfl ?_
                  simp_all [usesC, ofU, inB]; try omega
                · refine zk ?_
                  refine zs ?_
                  refine zR ?_
                  refine zLG [.bool _, .bool _, .bool _, .bool _, .bool _, .bool _, .bool _, .bool _] ?_
                  refine zst (.agg [.bool _, .bool _, .bool _, .bool _, .bool _, .bool _, .bool _, .bool _]) [_, _, _, _, _, _, _, _] [[_, _, _, _, _, _, _, _]] ?_
                  refine zLB ?_
                  refine zn ?_
                  refine zt ?_
                  refine ends (l := [.agg [.bool _, .bool _, .bool _, .bool _, .bool _, .bool _, .bool _, .bool _], .bool _]) (q := .tup [.agg [.bool _, .bool _, .bool _, .bool _, .bool _, .bool _, .bool _, .bool _], .bool _]) (.inr rfl) rfl ⟨rfl, trivial, trivial⟩ rfl rfl ?_
                  simp_all [usesC, ofU, inB]; try omega
        · refine zR ?_
          refine zLB ?_
          refine zLB ?_
          refine zn ?_
          refine W_cond (b := _) rfl (fun h14_2 => ?_) (fun h14_2 => ?_)
          · refine zs ?_
            refine zR ?_
            refine zLG [.bool _, .bool _, .bool _, .bool _, .bool _, .bool _, .bool _, .bool _] ?_
            refine zst (.agg [.bool _, .bool _, .bool _, .bool _, .bool _, .bool _, .bool _, .bool _]) [_, _, _, _, _, _, _, _] [[_, _, _, _, _, _, _, _]] ?_
            refine zLB ?_
            refine zn ?_
            refine zt ?_
            refine ends (l := [.agg [.bool _, .bool _, .bool _, .bool _, .bool _, .bool _, .bool _, .bool _], .bool _]) (q := .tup [.agg [.bool _, .bool _, .bool _, .bool _, .bool _, .bool _, .bool _, .bool _], .bool _]) (.inr rfl) rfl ⟨rfl, trivial, trivial⟩ rfl rfl ?_
            simp_all [usesC, ofU, inB]; try omega
          · refine zs ?_
            refine zR ?_
            refine zLB ?_
            refine zLB ?_
            refine zn ?_
            refine W_cond (b := _) rfl (fun h18_1 => ?_) (fun h18_1 => ?_)
            · refine zs ?_
              refine zR ?_
              refine zLG [.bool _, .bool _, .bool _, .bool _, .bool _, .bool _, .bool _, .bool _] ?_
              refine zst (.agg [.bool _, .bool _, .bool _, .bool _, .bool _, .bool _, .bool _, .bool _]) [_, _, _, _, _, _, _, _] [[_, _, _, _, _, _, _, _]] ?_
              refine zLB ?_
              refine zn ?_
              refine zt ?_
              refine ends (l := [.agg [.bool _, .bool _, .bool _, .bool _, .bool _, .bool _, .bool _, .bool _], .bool _]) (q := .tup [.agg [.bool _, .bool _, .bool _, .bool _, .bool _, .bool _, .bool _, .bool _], .bool _]) (.inr rfl) rfl ⟨rfl, trivial, trivial⟩ rfl rfl ?_
              simp_all [usesC, ofU, inB]; try omega
            · refine zs ?_
              refine zR ?_
              refine zLB ?_
              refine zLB ?_
              refine zn ?_
              refine W_cond (b := _) rfl (fun h21_1 => ?_) (fun h21_1 => ?_)
              · refine zs ?_
                refine zR ?_
                refine zLG [.bool _, .bool _, .bool _, .bool _, .bool _, .bool _, .bool _, .bool _] ?_
                refine zst (.agg [.bool _, .bool _, .bool _, .bool _, .bool _, .bool _, .bool _, .bool _]) [_, _, _, _, _, _, _, _] [[_, _, _, _, _, _, _, _]] ?_
                refine zLB ?_
                refine zn ?_
                refine zt ?_
                refine ends (l := [.agg [.bool _, .bool _, .bool _, .bool _, .bool _, .bool _, .bool _, .bool _], .bool _]) (q := .tup [.agg [.bool _, .bool _, .bool _, .bool _, .bool _, .bool _, .bool _, .bool _], .bool _]) (.inr rfl) rfl ⟨rfl, trivial, trivial⟩ rfl rfl ?_
                simp_all [usesC, ofU, inB]; try omega
              · refine zs ?_
                refine zR ?_
                refine zLB ?_
                refine zLB ?_
                refine zn ?_
                refine W_cond (b := _) rfl (fun h24_1 => ?_) (fun h24_1 => ?_)
                · refine zs ?_
                  refine zR ?_
                  refine zLG [.bool _, .bool _, .bool _, .bool _, .bool _, .bool _, .bool _, .bool _] ?_
                  refine zst (.agg [.bool _, .bool _, .bool _, .bool _, .bool _, .bool _, .bool _, .bool _]) [_, _, _, _, _, _, _, _] [[_, _, _, _, _, _, _, _]] ?_
                  refine zLB ?_
                  refine zn ?_
                  refine zt ?_
                  refine ends (l := [.agg [.bool _, .bool _, .bool _, .bool _, .bool _, .bool _, .bool _, .bool _], .bool _]) (q := .tup [.agg [.bool _, .bool _, .bool _, .bool _, .bool _, .bool _, .bool _, .bool _], .bool _]) (.inr rfl) rfl ⟨rfl, trivial, trivial⟩ rfl rfl ?_
                  simp_all [usesC, ofU, inB]; try omega
                · refine zk ?_
                  refine zs ?_
                  refine zR ?_
                  refine zLG [.bool _, .bool _, .bool _, .bool _, .bool _, .bool _, .bool _, .bool _] ?_
                  refine zst (.agg [.bool _, .bool _, .bool _, .bool _, .bool _, .bool _, .bool _, .bool _]) [_, _, _, _, _, _, _, _] [[_, _, _, _, _, _, _, _]] ?_
                  refine zLB ?_
                  refine zn ?_
                  refine zt ?_
                  refine ends (l := [.agg [.bool _, .bool _, .bool _, .bool _, .bool _, .bool _, .bool _, .bool _], .bool _]) (q := .tup [.agg [.bool _, .bool _, .bool _, .bool _, .bool _, .bool _, .bool _, .bool _], .bool _]) (.inr rfl) rfl ⟨rfl, trivial, trivial⟩ rfl rfl ?_
                  simp_all [usesC, ofU, inB]; try omega
def bare1 (o : MOp) : MOp := { o with Kind := 0, A := 0, Lo := 0, Hi := 0 }
def bare2 (u : Uses) (o : MOp) : MOp := bif u.b then { bare1 o with B := 0 } else bare1 o
def bare3 (u : Uses) (o : MOp) : MOp := bif u.m then { bare2 u o with M := 0 } else bare2 u o
def bare4 (u : Uses) (o : MOp) : MOp := bif u.win then { bare3 u o with Win := ⟨0, 0, 0, 0, (bare3 u o).Win.Top, (bare3 u o).Win.Left, (bare3 u o).Win.Bottom, (bare3 u o).Win.Right⟩ } else bare3 u o
def bare5 (u : Uses) (o : MOp) : MOp := bif u.pads then { bare4 u o with Win := ⟨0, 0, 0, 0, 0, 0, 0, 0⟩ } else bare4 u o
def bare6 (u : Uses) (o : MOp) : MOp := bif u.weights then { bare5 u o with Weights := [], Bias := [] } else bare5 u o
def bare7 (u : Uses) (o : MOp) : MOp := bif u.sa then { bare6 u o with SA := ⟨0, 0⟩, Zero := 0 } else bare6 u o
def bare8 (u : Uses) (o : MOp) : MOp := bif u.sb then { bare7 u o with SB := ⟨0, 0⟩ } else bare7 u o
def bareF (u : Uses) (o : MOp) : MOp := bif u.pad then { bare8 u o with Pad := 0 } else bare8 u o
theorem model_bare (o : MOp) (u : Uses) : Ok Try.prog 87 [.agg (opC o), .agg (usesC u)] (.agg (opC (bareF u o))) := by
  refine fn_ok Tb_ok (fn := Try.f87) Try.func87 rfl rfl (e := [(0, _), (1, _)]) rfl (by decide) rfl ?_
  refine zs ?_
  refine zR ?_
  refine zbx [.int _ _, .int _ _, .int _ _, .int _ _, .int _ _, .int _ _, .int _ _, .int _ _, .int _ _, .int _ _, .int _ _, .int _ _, _, _, .int _ _, .int _ _, .int _ _, .int _ _, .int _ _, .int _ _, .int _ _, .int _ _] 22 ?_
  refine zbx [.bool _, .bool _, .bool _, .bool _, .bool _, .bool _, .bool _, .bool _] 8 ?_
  refine zal [.int .i64 0, .int .i64 0, .int .i64 0, .int .i64 0, .int .i64 0, .int .i64 0, .int .i64 0, .int .i64 0, .int .i64 0, .int .i64 0, .int .i64 0, .int .i64 0, .nils, .nils, .int .i64 0, .int .i64 0, .int .i64 0, .int .i64 0, .int .i64 0, .int .i64 0, .int .i64 0, .int .i64 0] 22 ?_
  refine zn ?_
  refine zs ?_
  refine zR ?_
  refine zLP ?_
  refine zst (.int _ _) [_] [[_, _, _, _, _, _, _, _, _, _, _, _, _, _, _, _, _, _, _, _, _, _]] ?_
  refine zLP ?_
  refine zst (.int _ _) [_] [[_, _, _, _, _, _, _, _, _, _, _, _, _, _, _, _, _, _, _, _, _, _]] ?_
  refine zLP ?_
  refine zst (.int _ _) [_] [[_, _, _, _, _, _, _, _, _, _, _, _, _, _, _, _, _, _, _, _, _, _]] ?_
  refine zLP ?_
  refine zst (.int _ _) [_] [[_, _, _, _, _, _, _, _, _, _, _, _, _, _, _, _, _, _, _, _, _, _]] ?_
  refine zn ?_
  refine zs ?_
  refine zs ?_
  refine zR ?_
  refine zLP ?_
  refine zLB ?_
  refine zn ?_
  refine W_ift (b := _) (M := ⟨[(2, .ptr 0 0 0), (3, .ptr 1 0 0), (4, .ptr 2 0 0)], [(0, some ⟨42, 22, 0, [opC ((bif u.b then { bare1 o with B := 0 } else bare1 o))]⟩), (1, some ⟨144, 8, 0, [usesC u]⟩), (2, some ⟨42, 22, 0, [[.int .i64 0, .int .i64 0, .int .i64 0, .int .i64 0, .int .i64 0, .int .i64 0, .int .i64 0, .int .i64 0, .int .i64 0, .int .i64 0, .int .i64 0, .int .i64 0, .nils, .nils, .int .i64 0, .int .i64 0, .int .i64 0, .int .i64 0, .int .i64 0, .int .i64 0, .int .i64 0, .int .i64 0]]⟩)], [], 3⟩) (p := True) rfl (fun h11 => ?_) (fun h11 => ?_) (fun m11 => ?_)
  · refine zR ?_
    refine zLP ?_
    refine zst (.int _ _) [_] [[_, _, _, _, _, _, _, _, _, _, _, _, _, _, _, _, _, _, _, _, _, _]] ?_
    refine zn ?_
    exact ⟨trivial, le_t (F := fun X => ⟨[(2, .ptr 0 0 0), (3, .ptr 1 0 0), (4, .ptr 2 0 0)], [(0, some ⟨42, 22, 0, [opC (X)]⟩), (1, some ⟨144, 8, 0, [usesC u]⟩), (2, some ⟨42, 22, 0, [[.int .i64 0, .int .i64 0, .int .i64 0, .int .i64 0, .int .i64 0, .int .i64 0, .int .i64 0, .int .i64 0, .int .i64 0, .int .i64 0, .int .i64 0, .int .i64 0, .nils, .nils, .int .i64 0, .int .i64 0, .int .i64 0, .int .i64 0, .int .i64 0, .int .i64 0, .int .i64 0, .int .i64 0]]⟩)], [], 3⟩) (x := { bare1 o with B := 0 }) (y := bare1 o) h11 (le_fit ⟨rfl, rfl, rfl, trivial⟩ ⟨.inr rfl, .inr rfl, .inr rfl, trivial⟩ trivial rfl rfl rfl rfl rfl)⟩
  · refine zk ?_
    exact ⟨trivial, le_f (F := fun X => ⟨[(2, .ptr 0 0 0), (3, .ptr 1 0 0), (4, .ptr 2 0 0)], [(0, some ⟨42, 22, 0, [opC (X)]⟩), (1, some ⟨144, 8, 0, [usesC u]⟩), (2, some ⟨42, 22, 0, [[.int .i64 0, .int .i64 0, .int .i64 0, .int .i64 0, .int .i64 0, .int .i64 0, .int .i64 0, .int .i64 0, .int .i64 0, .int .i64 0, .int .i64 0, .int .i64 0, .nils, .nils, .int .i64 0, .int .i64 0, .int .i64 0, .int .i64 0, .int .i64 0, .int .i64 0, .int .i64 0, .int .i64 0]]⟩)], [], 3⟩) (x := { bare1 o with B := 0 }) (y := bare1 o) h11 (le_fit ⟨rfl, rfl, rfl, trivial⟩ ⟨.inr rfl, .inr rfl, .inr rfl, trivial⟩ trivial rfl rfl rfl rfl rfl)⟩
  refine zs ?_
  refine zs ?_
  refine zR ?_
  refine zLP ?_
  refine zLB ?_
  refine zn ?_
  refine W_ift (b := _) (M := ⟨[(2, .ptr 0 0 0), (3, .ptr 1 0 0), (4, .ptr 2 0 0)], [(0, some ⟨42, 22, 0, [opC ((bif u.m then { bare2 u o with M := 0 } else bare2 u o))]⟩), (1, some ⟨144, 8, 0, [usesC u]⟩), (2, some ⟨42, 22, 0, [[.int .i64 0, .int .i64 0, .int .i64 0, .int .i64 0, .int .i64 0, .int .i64 0, .int .i64 0, .int .i64 0, .int .i64 0, .int .i64 0, .int .i64 0, .int .i64 0, .nils, .nils, .int .i64 0, .int .i64 0, .int .i64 0, .int .i64 0, .int .i64 0, .int .i64 0, .int .i64 0, .int .i64 0]]⟩)], [], 3⟩) (p := True) rfl (fun h14 => ?_) (fun h14 => ?_) (fun m14 => ?_)
  · refine zR ?_
    refine zLP ?_
    refine zst (.int _ _) [_] [[_, _, _, _, _, _, _, _, _, _, _, _, _, _, _, _, _, _, _, _, _, _]] ?_
    refine zn ?_
    exact ⟨trivial, le_t (F := fun X => ⟨[(2, .ptr 0 0 0), (3, .ptr 1 0 0), (4, .ptr 2 0 0)], [(0, some ⟨42, 22, 0, [opC (X)]⟩), (1, some ⟨144, 8, 0, [usesC u]⟩), (2, some ⟨42, 22, 0, [[.int .i64 0, .int .i64 0, .int .i64 0, .int .i64 0, .int .i64 0, .int .i64 0, .int .i64 0, .int .i64 0, .int .i64 0, .int .i64 0, .int .i64 0, .int .i64 0, .nils, .nils, .int .i64 0, .int .i64 0, .int .i64 0, .int .i64 0, .int .i64 0, .int .i64 0, .int .i64 0, .int .i64 0]]⟩)], [], 3⟩) (x := { bare2 u o with M := 0 }) (y := bare2 u o) h14 (le_fit ⟨rfl, rfl, rfl, trivial⟩ ⟨.inr rfl, .inr rfl, .inr rfl, trivial⟩ trivial rfl rfl rfl rfl rfl)⟩
  · refine zk ?_
    exact ⟨trivial, le_f (F := fun X => ⟨[(2, .ptr 0 0 0), (3, .ptr 1 0 0), (4, .ptr 2 0 0)], [(0, some ⟨42, 22, 0, [opC (X)]⟩), (1, some ⟨144, 8, 0, [usesC u]⟩), (2, some ⟨42, 22, 0, [[.int .i64 0, .int .i64 0, .int .i64 0, .int .i64 0, .int .i64 0, .int .i64 0, .int .i64 0, .int .i64 0, .int .i64 0, .int .i64 0, .int .i64 0, .int .i64 0, .nils, .nils, .int .i64 0, .int .i64 0, .int .i64 0, .int .i64 0, .int .i64 0, .int .i64 0, .int .i64 0, .int .i64 0]]⟩)], [], 3⟩) (x := { bare2 u o with M := 0 }) (y := bare2 u o) h14 (le_fit ⟨rfl, rfl, rfl, trivial⟩ ⟨.inr rfl, .inr rfl, .inr rfl, trivial⟩ trivial rfl rfl rfl rfl rfl)⟩
  refine zs ?_
  refine zs ?_
  refine zR ?_
  refine zLP ?_
  refine zLB ?_
  refine zn ?_
  refine W_ift (b := _) (M := ⟨[(2, .ptr 0 0 0), (3, .ptr 1 0 0), (4, .ptr 2 0 0)], [(0, some ⟨42, 22, 0, [opC ((bif u.win then { bare3 u o with Win := ⟨0, 0, 0, 0, (bare3 u o).Win.Top, (bare3 u o).Win.Left, (bare3 u o).Win.Bottom, (bare3 u o).Win.Right⟩ } else bare3 u o))]⟩), (1, some ⟨144, 8, 0, [usesC u]⟩), (2, some ⟨42, 22, 0, [[.int .i64 0, .int .i64 0, .int .i64 0, .int .i64 0, .int .i64 0, .int .i64 0, .int .i64 0, .int .i64 0, .int .i64 0, .int .i64 0, .int .i64 0, .int .i64 0, .nils, .nils, .int .i64 0, .int .i64 0, .int .i64 0, .int .i64 0, .int .i64 0, .int .i64 0, .int .i64 0, .int .i64 0]]⟩)], [], 3⟩) (p := True) rfl (fun h17 => ?_) (fun h17 => ?_) (fun m17 => ?_)
  · refine zs ?_
    refine zR ?_
    refine zLP ?_
    refine zLG [.int _ _, .int _ _, .int _ _, .int _ _, .int _ _, .int _ _, .int _ _, .int _ _] ?_
    refine zal [.int .i64 0, .int .i64 0, .int .i64 0, .int .i64 0, .int .i64 0, .int .i64 0, .int .i64 0, .int .i64 0] 8 ?_
    refine zst (.agg [.int _ _, .int _ _, .int _ _, .int _ _, .int _ _, .int _ _, .int _ _, .int _ _]) [_, _, _, _, _, _, _, _] [[_, _, _, _, _, _, _, _]] ?_
    refine zn ?_
    refine zR ?_
    refine zLP ?_
    refine zLI ?_
    refine zLP ?_
    refine zLI ?_
    refine zLP ?_
    refine zLI ?_
    refine zLP ?_
    refine zLI ?_
    refine zLG [.int _ _, .int _ _, .int _ _, .int _ _, .int _ _, .int _ _, .int _ _, .int _ _] ?_
    refine zLP ?_
    refine zst (.agg [.int _ _, .int _ _, .int _ _, .int _ _, .int _ _, .int _ _, .int _ _, .int _ _]) [_, _, _, _, _, _, _, _] [[_, _, _, _, _, _, _, _, _, _, _, _, _, _, _, _, _, _, _, _, _, _]] ?_
    refine zn ?_
    exact ⟨trivial, le_t (F := fun X => ⟨[(2, .ptr 0 0 0), (3, .ptr 1 0 0), (4, .ptr 2 0 0)], [(0, some ⟨42, 22, 0, [opC (X)]⟩), (1, some ⟨144, 8, 0, [usesC u]⟩), (2, some ⟨42, 22, 0, [[.int .i64 0, .int .i64 0, .int .i64 0, .int .i64 0, .int .i64 0, .int .i64 0, .int .i64 0, .int .i64 0, .int .i64 0, .int .i64 0, .int .i64 0, .int .i64 0, .nils, .nils, .int .i64 0, .int .i64 0, .int .i64 0, .int .i64 0, .int .i64 0, .int .i64 0, .int .i64 0, .int .i64 0]]⟩)], [], 3⟩) (x := { bare3 u o with Win := ⟨0, 0, 0, 0, (bare3 u o).Win.Top, (bare3 u o).Win.Left, (bare3 u o).Win.Bottom, (bare3 u o).Win.Right⟩ }) (y := bare3 u o) h17 (le_fit ⟨rfl, rfl, rfl, trivial⟩ ⟨.inr rfl, .inr rfl, .inr rfl, trivial⟩ trivial rfl rfl rfl rfl rfl)⟩
  · refine zk ?_
    exact ⟨trivial, le_f (F := fun X => ⟨[(2, .ptr 0 0 0), (3, .ptr 1 0 0), (4, .ptr 2 0 0)], [(0, some ⟨42, 22, 0, [opC (X)]⟩), (1, some ⟨144, 8, 0, [usesC u]⟩), (2, some ⟨42, 22, 0, [[.int .i64 0, .int .i64 0, .int .i64 0, .int .i64 0, .int .i64 0, .int .i64 0, .int .i64 0, .int .i64 0, .int .i64 0, .int .i64 0, .int .i64 0, .int .i64 0, .nils, .nils, .int .i64 0, .int .i64 0, .int .i64 0, .int .i64 0, .int .i64 0, .int .i64 0, .int .i64 0, .int .i64 0]]⟩)], [], 3⟩) (x := { bare3 u o with Win := ⟨0, 0, 0, 0, (bare3 u o).Win.Top, (bare3 u o).Win.Left, (bare3 u o).Win.Bottom, (bare3 u o).Win.Right⟩ }) (y := bare3 u o) h17 (le_fit ⟨rfl, rfl, rfl, trivial⟩ ⟨.inr rfl, .inr rfl, .inr rfl, trivial⟩ trivial rfl rfl rfl rfl rfl)⟩
  refine zs ?_
  refine zs ?_
  refine zR ?_
  refine zLP ?_
  refine zLB ?_
  refine zn ?_
  refine W_ift (b := _) (M := ⟨[(2, .ptr 0 0 0), (3, .ptr 1 0 0), (4, .ptr 2 0 0)], [(0, some ⟨42, 22, 0, [opC ((bif u.pads then { bare4 u o with Win := ⟨0, 0, 0, 0, 0, 0, 0, 0⟩ } else bare4 u o))]⟩), (1, some ⟨144, 8, 0, [usesC u]⟩), (2, some ⟨42, 22, 0, [[.int .i64 0, .int .i64 0, .int .i64 0, .int .i64 0, .int .i64 0, .int .i64 0, .int .i64 0, .int .i64 0, .int .i64 0, .int .i64 0, .int .i64 0, .int .i64 0, .nils, .nils, .int .i64 0, .int .i64 0, .int .i64 0, .int .i64 0, .int .i64 0, .int .i64 0, .int .i64 0, .int .i64 0]]⟩)], [], 3⟩) (p := True) rfl (fun h31 => ?_) (fun h31 => ?_) (fun m31 => ?_)
  · refine zR ?_
    refine zLG [.int _ _, .int _ _, .int _ _, .int _ _, .int _ _, .int _ _, .int _ _, .int _ _] ?_
    refine zLP ?_
    refine zst (.agg [.int _ _, .int _ _, .int _ _, .int _ _, .int _ _, .int _ _, .int _ _, .int _ _]) [_, _, _, _, _, _, _, _] [[_, _, _, _, _, _, _, _, _, _, _, _, _, _, _, _, _, _, _, _, _, _]] ?_
    refine zn ?_
    exact ⟨trivial, le_t (F := fun X => ⟨[(2, .ptr 0 0 0), (3, .ptr 1 0 0), (4, .ptr 2 0 0)], [(0, some ⟨42, 22, 0, [opC (X)]⟩), (1, some ⟨144, 8, 0, [usesC u]⟩), (2, some ⟨42, 22, 0, [[.int .i64 0, .int .i64 0, .int .i64 0, .int .i64 0, .int .i64 0, .int .i64 0, .int .i64 0, .int .i64 0, .int .i64 0, .int .i64 0, .int .i64 0, .int .i64 0, .nils, .nils, .int .i64 0, .int .i64 0, .int .i64 0, .int .i64 0, .int .i64 0, .int .i64 0, .int .i64 0, .int .i64 0]]⟩)], [], 3⟩) (x := { bare4 u o with Win := ⟨0, 0, 0, 0, 0, 0, 0, 0⟩ }) (y := bare4 u o) h31 (le_fit ⟨rfl, rfl, rfl, trivial⟩ ⟨.inr rfl, .inr rfl, .inr rfl, trivial⟩ trivial rfl rfl rfl rfl rfl)⟩
  · refine zk ?_
    exact ⟨trivial, le_f (F := fun X => ⟨[(2, .ptr 0 0 0), (3, .ptr 1 0 0), (4, .ptr 2 0 0)], [(0, some ⟨42, 22, 0, [opC (X)]⟩), (1, some ⟨144, 8, 0, [usesC u]⟩), (2, some ⟨42, 22, 0, [[.int .i64 0, .int .i64 0, .int .i64 0, .int .i64 0, .int .i64 0, .int .i64 0, .int .i64 0, .int .i64 0, .int .i64 0, .int .i64 0, .int .i64 0, .int .i64 0, .nils, .nils, .int .i64 0, .int .i64 0, .int .i64 0, .int .i64 0, .int .i64 0, .int .i64 0, .int .i64 0, .int .i64 0]]⟩)], [], 3⟩) (x := { bare4 u o with Win := ⟨0, 0, 0, 0, 0, 0, 0, 0⟩ }) (y := bare4 u o) h31 (le_fit ⟨rfl, rfl, rfl, trivial⟩ ⟨.inr rfl, .inr rfl, .inr rfl, trivial⟩ trivial rfl rfl rfl rfl rfl)⟩
  refine zs ?_
  refine zs ?_
  refine zR ?_
  refine zLP ?_
  refine zLB ?_
  refine zn ?_
  refine W_ift (b := _) (M := ⟨[(2, .ptr 0 0 0), (3, .ptr 1 0 0), (4, .ptr 2 0 0)], [(0, some ⟨42, 22, 0, [opC ((bif u.weights then { bare5 u o with Weights := [], Bias := [] } else bare5 u o))]⟩), (1, some ⟨144, 8, 0, [usesC u]⟩), (2, some ⟨42, 22, 0, [[.int .i64 0, .int .i64 0, .int .i64 0, .int .i64 0, .int .i64 0, .int .i64 0, .int .i64 0, .int .i64 0, .int .i64 0, .int .i64 0, .int .i64 0, .int .i64 0, .nils, .nils, .int .i64 0, .int .i64 0, .int .i64 0, .int .i64 0, .int .i64 0, .int .i64 0, .int .i64 0, .int .i64 0]]⟩)], [], 3⟩) (p := True) rfl (fun h35 => ?_) (fun h35 => ?_) (fun m35 => ?_)
  · refine zR ?_
    refine zLP ?_
    refine L_store_nil Tb_ok (es' := [[_, _, _, _, _, _, _, _, _, _, _, _, _, _, _, _, _, _, _, _, _, _]]) rfl rfl rfl rfl rfl rfl rfl ⟨trivial, trivial⟩ ?_
    refine zLP ?_
    refine L_store_nil Tb_ok (es' := [[_, _, _, _, _, _, _, _, _, _, _, _, _, _, _, _, _, _, _, _, _, _]]) rfl rfl rfl rfl rfl rfl rfl ⟨trivial, trivial⟩ ?_
    refine zn ?_
    exact ⟨trivial, le_t (F := fun X => ⟨[(2, .ptr 0 0 0), (3, .ptr 1 0 0), (4, .ptr 2 0 0)], [(0, some ⟨42, 22, 0, [opC (X)]⟩), (1, some ⟨144, 8, 0, [usesC u]⟩), (2, some ⟨42, 22, 0, [[.int .i64 0, .int .i64 0, .int .i64 0, .int .i64 0, .int .i64 0, .int .i64 0, .int .i64 0, .int .i64 0, .int .i64 0, .int .i64 0, .int .i64 0, .int .i64 0, .nils, .nils, .int .i64 0, .int .i64 0, .int .i64 0, .int .i64 0, .int .i64 0, .int .i64 0, .int .i64 0, .int .i64 0]]⟩)], [], 3⟩) (x := { bare5 u o with Weights := [], Bias := [] }) (y := bare5 u o) h35 (le_fit ⟨rfl, rfl, rfl, trivial⟩ ⟨.inr rfl, .inr rfl, .inr rfl, trivial⟩ trivial rfl rfl rfl rfl rfl)⟩
  · refine zk ?_
    exact ⟨trivial, le_f (F := fun X => ⟨[(2, .ptr 0 0 0), (3, .ptr 1 0 0), (4, .ptr 2 0 0)], [(0, some ⟨42, 22, 0, [opC (X)]⟩), (1, some ⟨144, 8, 0, [usesC u]⟩), (2, some ⟨42, 22, 0, [[.int .i64 0, .int .i64 0, .int .i64 0, .int .i64 0, .int .i64 0, .int .i64 0, .int .i64 0, .int .i64 0, .int .i64 0, .int .i64 0, .int .i64 0, .int .i64 0, .nils, .nils, .int .i64 0, .int .i64 0, .int .i64 0, .int .i64 0, .int .i64 0, .int .i64 0, .int .i64 0, .int .i64 0]]⟩)], [], 3⟩) (x := { bare5 u o with Weights := [], Bias := [] }) (y := bare5 u o) h35 (le_fit ⟨rfl, rfl, rfl, trivial⟩ ⟨.inr rfl, .inr rfl, .inr rfl, trivial⟩ trivial rfl rfl rfl rfl rfl)⟩
  refine zs ?_
  refine zs ?_
  refine zR ?_
  refine zLP ?_
  refine zLB ?_
  refine zn ?_
  refine W_ift (b := _) (M := ⟨[(2, .ptr 0 0 0), (3, .ptr 1 0 0), (4, .ptr 2 0 0)], [(0, some ⟨42, 22, 0, [opC ((bif u.sa then { bare6 u o with SA := ⟨0, 0⟩, Zero := 0 } else bare6 u o))]⟩), (1, some ⟨144, 8, 0, [usesC u]⟩), (2, some ⟨42, 22, 0, [[.int .i64 0, .int .i64 0, .int .i64 0, .int .i64 0, .int .i64 0, .int .i64 0, .int .i64 0, .int .i64 0, .int .i64 0, .int .i64 0, .int .i64 0, .int .i64 0, .nils, .nils, .int .i64 0, .int .i64 0, .int .i64 0, .int .i64 0, .int .i64 0, .int .i64 0, .int .i64 0, .int .i64 0]]⟩)], [], 3⟩) (p := True) rfl (fun h39 => ?_) (fun h39 => ?_) (fun m39 => ?_)
  · refine zR ?_
    refine zLG [.int _ _, .int _ _] ?_
    refine zLP ?_
    refine zst (.agg [.int _ _, .int _ _]) [_, _] [[_, _, _, _, _, _, _, _, _, _, _, _, _, _, _, _, _, _, _, _, _, _]] ?_
    refine zLP ?_
    refine zst (.int _ _) [_] [[_, _, _, _, _, _, _, _, _, _, _, _, _, _, _, _, _, _, _, _, _, _]] ?_
    refine zn ?_
    exact ⟨trivial, le_t (F := fun X => ⟨[(2, .ptr 0 0 0), (3, .ptr 1 0 0), (4, .ptr 2 0 0)], [(0, some ⟨42, 22, 0, [opC (X)]⟩), (1, some ⟨144, 8, 0, [usesC u]⟩), (2, some ⟨42, 22, 0, [[.int .i64 0, .int .i64 0, .int .i64 0, .int .i64 0, .int .i64 0, .int .i64 0, .int .i64 0, .int .i64 0, .int .i64 0, .int .i64 0, .int .i64 0, .int .i64 0, .nils, .nils, .int .i64 0, .int .i64 0, .int .i64 0, .int .i64 0, .int .i64 0, .int .i64 0, .int .i64 0, .int .i64 0]]⟩)], [], 3⟩) (x := { bare6 u o with SA := ⟨0, 0⟩, Zero := 0 }) (y := bare6 u o) h39 (le_fit ⟨rfl, rfl, rfl, trivial⟩ ⟨.inr rfl, .inr rfl, .inr rfl, trivial⟩ trivial rfl rfl rfl rfl rfl)⟩
  · refine zk ?_
    exact ⟨trivial, le_f (F := fun X => ⟨[(2, .ptr 0 0 0), (3, .ptr 1 0 0), (4, .ptr 2 0 0)], [(0, some ⟨42, 22, 0, [opC (X)]⟩), (1, some ⟨144, 8, 0, [usesC u]⟩), (2, some ⟨42, 22, 0, [[.int .i64 0, .int .i64 0, .int .i64 0, .int .i64 0, .int .i64 0, .int .i64 0, .int .i64 0, .int .i64 0, .int .i64 0, .int .i64 0, .int .i64 0, .int .i64 0, .nils, .nils, .int .i64 0, .int .i64 0, .int .i64 0, .int .i64 0, .int .i64 0, .int .i64 0, .int .i64 0, .int .i64 0]]⟩)], [], 3⟩) (x := { bare6 u o with SA := ⟨0, 0⟩, Zero := 0 }) (y := bare6 u o) h39 (le_fit ⟨rfl, rfl, rfl, trivial⟩ ⟨.inr rfl, .inr rfl, .inr rfl, trivial⟩ trivial rfl rfl rfl rfl rfl)⟩
  refine zs ?_
  refine zs ?_
  refine zR ?_
  refine zLP ?_
  refine zLB ?_
  refine zn ?_
  refine W_ift (b := _) (M := ⟨[(2, .ptr 0 0 0), (3, .ptr 1 0 0), (4, .ptr 2 0 0)], [(0, some ⟨42, 22, 0, [opC ((bif u.sb then { bare7 u o with SB := ⟨0, 0⟩ } else bare7 u o))]⟩), (1, some ⟨144, 8, 0, [usesC u]⟩), (2, some ⟨42, 22, 0, [[.int .i64 0, .int .i64 0, .int .i64 0, .int .i64 0, .int .i64 0, .int .i64 0, .int .i64 0, .int .i64 0, .int .i64 0, .int .i64 0, .int .i64 0, .int .i64 0, .nils, .nils, .int .i64 0, .int .i64 0, .int .i64 0, .int .i64 0, .int .i64 0, .int .i64 0, .int .i64 0, .int .i64 0]]⟩)], [], 3⟩) (p := True) rfl (fun h44 => ?_) (fun h44 => ?_) (fun m44 => ?_)
  · refine zR ?_
    refine zLG [.int _ _, .int _ _] ?_
    refine zLP ?_
    refine zst (.agg [.int _ _, .int _ _]) [_, _] [[_, _, _, _, _, _, _, _, _, _, _, _, _, _, _, _, _, _, _, _, _, _]] ?_
    refine zn ?_
    exact ⟨trivial, le_t (F := fun X => ⟨[(2, .ptr 0 0 0), (3, .ptr 1 0 0), (4, .ptr 2 0 0)], [(0, some ⟨42, 22, 0, [opC (X)]⟩), (1, some ⟨144, 8, 0, [usesC u]⟩), (2, some ⟨42, 22, 0, [[.int .i64 0, .int .i64 0, .int .i64 0, .int .i64 0, .int .i64 0, .int .i64 0, .int .i64 0, .int .i64 0, .int .i64 0, .int .i64 0, .int .i64 0, .int .i64 0, .nils, .nils, .int .i64 0, .int .i64 0, .int .i64 0, .int .i64 0, .int .i64 0, .int .i64 0, .int .i64 0, .int .i64 0]]⟩)], [], 3⟩) (x := { bare7 u o with SB := ⟨0, 0⟩ }) (y := bare7 u o) h44 (le_fit ⟨rfl, rfl, rfl, trivial⟩ ⟨.inr rfl, .inr rfl, .inr rfl, trivial⟩ trivial rfl rfl rfl rfl rfl)⟩
  · refine zk ?_
    exact ⟨trivial, le_f (F := fun X => ⟨[(2, .ptr 0 0 0), (3, .ptr 1 0 0), (4, .ptr 2 0 0)], [(0, some ⟨42, 22, 0, [opC (X)]⟩), (1, some ⟨144, 8, 0, [usesC u]⟩), (2, some ⟨42, 22, 0, [[.int .i64 0, .int .i64 0, .int .i64 0, .int .i64 0, .int .i64 0, .int .i64 0, .int .i64 0, .int .i64 0, .int .i64 0, .int .i64 0, .int .i64 0, .int .i64 0, .nils, .nils, .int .i64 0, .int .i64 0, .int .i64 0, .int .i64 0, .int .i64 0, .int .i64 0, .int .i64 0, .int .i64 0]]⟩)], [], 3⟩) (x := { bare7 u o with SB := ⟨0, 0⟩ }) (y := bare7 u o) h44 (le_fit ⟨rfl, rfl, rfl, trivial⟩ ⟨.inr rfl, .inr rfl, .inr rfl, trivial⟩ trivial rfl rfl rfl rfl rfl)⟩
  refine zs ?_
  refine zs ?_
  refine zR ?_
  refine zLP ?_
  refine zLB ?_
  refine zn ?_
  refine W_ift (b := _) (M := ⟨[(2, .ptr 0 0 0), (3, .ptr 1 0 0), (4, .ptr 2 0 0)], [(0, some ⟨42, 22, 0, [opC ((bif u.pad then { bare8 u o with Pad := 0 } else bare8 u o))]⟩), (1, some ⟨144, 8, 0, [usesC u]⟩), (2, some ⟨42, 22, 0, [[.int .i64 0, .int .i64 0, .int .i64 0, .int .i64 0, .int .i64 0, .int .i64 0, .int .i64 0, .int .i64 0, .int .i64 0, .int .i64 0, .int .i64 0, .int .i64 0, .nils, .nils, .int .i64 0, .int .i64 0, .int .i64 0, .int .i64 0, .int .i64 0, .int .i64 0, .int .i64 0, .int .i64 0]]⟩)], [], 3⟩) (p := True) rfl (fun h48 => ?_) (fun h48 => ?_) (fun m48 => ?_)
  · refine zR ?_
    refine zLP ?_
    refine zst (.int _ _) [_] [[_, _, _, _, _, _, _, _, _, _, _, _, _, _, _, _, _, _, _, _, _, _]] ?_
    refine zn ?_
    exact ⟨trivial, le_t (F := fun X => ⟨[(2, .ptr 0 0 0), (3, .ptr 1 0 0), (4, .ptr 2 0 0)], [(0, some ⟨42, 22, 0, [opC (X)]⟩), (1, some ⟨144, 8, 0, [usesC u]⟩), (2, some ⟨42, 22, 0, [[.int .i64 0, .int .i64 0, .int .i64 0, .int .i64 0, .int .i64 0, .int .i64 0, .int .i64 0, .int .i64 0, .int .i64 0, .int .i64 0, .int .i64 0, .int .i64 0, .nils, .nils, .int .i64 0, .int .i64 0, .int .i64 0, .int .i64 0, .int .i64 0, .int .i64 0, .int .i64 0, .int .i64 0]]⟩)], [], 3⟩) (x := { bare8 u o with Pad := 0 }) (y := bare8 u o) h48 (le_fit ⟨rfl, rfl, rfl, trivial⟩ ⟨.inr rfl, .inr rfl, .inr rfl, trivial⟩ trivial rfl rfl rfl rfl rfl)⟩
  · refine zk ?_
    exact ⟨trivial, le_f (F := fun X => ⟨[(2, .ptr 0 0 0), (3, .ptr 1 0 0), (4, .ptr 2 0 0)], [(0, some ⟨42, 22, 0, [opC (X)]⟩), (1, some ⟨144, 8, 0, [usesC u]⟩), (2, some ⟨42, 22, 0, [[.int .i64 0, .int .i64 0, .int .i64 0, .int .i64 0, .int .i64 0, .int .i64 0, .int .i64 0, .int .i64 0, .int .i64 0, .int .i64 0, .int .i64 0, .int .i64 0, .nils, .nils, .int .i64 0, .int .i64 0, .int .i64 0, .int .i64 0, .int .i64 0, .int .i64 0, .int .i64 0, .int .i64 0]]⟩)], [], 3⟩) (x := { bare8 u o with Pad := 0 }) (y := bare8 u o) h48 (le_fit ⟨rfl, rfl, rfl, trivial⟩ ⟨.inr rfl, .inr rfl, .inr rfl, trivial⟩ trivial rfl rfl rfl rfl rfl)⟩
  refine zs ?_
  refine zR ?_
  refine zLG [.int _ _, .int _ _, .int _ _, .int _ _, .int _ _, .int _ _, .int _ _, .int _ _, .int _ _, .int _ _, .int _ _, .int _ _, _, _, .int _ _, .int _ _, .int _ _, .int _ _, .int _ _, .int _ _, .int _ _, .int _ _] ?_
  refine zst (.agg [.int _ _, .int _ _, .int _ _, .int _ _, .int _ _, .int _ _, .int _ _, .int _ _, .int _ _, .int _ _, .int _ _, .int _ _, _, _, .int _ _, .int _ _, .int _ _, .int _ _, .int _ _, .int _ _, .int _ _, .int _ _]) [_, _, _, _, _, _, _, _, _, _, _, _, _, _, _, _, _, _, _, _, _, _] [[_, _, _, _, _, _, _, _, _, _, _, _, _, _, _, _, _, _, _, _, _, _]] ?_
  refine zn ?_
  refine zt ?_
  refine ends (l := [.agg [.int _ _, .int _ _, .int _ _, .int _ _, .int _ _, .int _ _, .int _ _, .int _ _, .int _ _, .int _ _, .int _ _, .int _ _, _, _, .int _ _, .int _ _, .int _ _, .int _ _, .int _ _, .int _ _, .int _ _, .int _ _]]) (q := .agg [.int _ _, .int _ _, .int _ _, .int _ _, .int _ _, .int _ _, .int _ _, .int _ _, .int _ _, .int _ _, .int _ _, .int _ _, _, _, .int _ _, .int _ _, .int _ _, .int _ _, .int _ _, .int _ _, .int _ _, .int _ _]) (.inr rfl) rfl ⟨rfl, trivial⟩ rfl rfl ?_
  rfl
def winEq (a b : Window) : Bool := a.KH == b.KH && (a.KW == b.KW && (a.SH == b.SH && (a.SW == b.SW && (a.Top == b.Top && (a.Left == b.Left && (a.Bottom == b.Bottom && a.Right == b.Right))))))
def shapeEq (a b : Shape) : Bool := a.H == b.H && (a.W == b.W && a.C == b.C)
def emptyB (o : MOp) : Bool := o.Kind == 0 && o.A == 0 && o.B == 0 && o.M == 0 && winEq o.Win ⟨0, 0, 0, 0, 0, 0, 0, 0⟩ && (o.Weights.length : Int) == 0 && (o.Bias.length : Int) == 0 && (o.SA.Mult == 0 && o.SA.Shift == 0) && (o.SB.Mult == 0 && o.SB.Shift == 0) && o.Zero == 0 && o.Pad == 0 && o.Lo == 0 && o.Hi == 0
theorem model_empty (o : MOp) : Ok Try.prog 86 [.agg (opC o)] (.bool (emptyB o)) := by
  refine fn_ok Tb_ok (fn := Try.f86) Try.func86 rfl rfl (e := [(0, _)]) rfl (by decide) rfl ?_
  refine zs ?_
  refine zR ?_
  refine zbx [.int _ _, .int _ _, .int _ _, .int _ _, .int _ _, .int _ _, .int _ _, .int _ _, .int _ _, .int _ _, .int _ _, .int _ _, _, _, .int _ _, .int _ _, .int _ _, .int _ _, .int _ _, .int _ _, .int _ _, .int _ _] 22 ?_
  refine zLB ?_
  refine zn ?_
  refine zs ?_
  refine zR ?_
  refine zLP ?_
  refine zLI ?_
  refine zLB ?_
  refine zLB ?_
  refine zgLP ?_
  refine zgLI ?_
  refine zgLB ?_
  refine zpLB ?_
  refine zLB ?_
  refine zgLP ?_
  refine zgLI ?_
  refine zgLB ?_
  refine zpLB ?_
  refine zLB ?_
  refine zgLP ?_
  refine zgLI ?_
  refine zgLB ?_
  refine zpLB ?_
  refine zLB ?_
  refine zgLP ?_
  refine zgLG [.int _ _, .int _ _, .int _ _, .int _ _, .int _ _, .int _ _, .int _ _, .int _ _] ?_
  refine zgLG [.int _ _, .int _ _, .int _ _, .int _ _, .int _ _, .int _ _, .int _ _, .int _ _] ?_
  refine zgLB ?_
  refine zpLB ?_
  refine zLB ?_
  refine zgLP ?_
  refine zgLO ?_
  refine zgLI ?_
  refine zgLB ?_
  refine zpLB ?_
  refine zLB ?_
  refine zgLP ?_
  refine zgLO ?_
  refine zgLI ?_
  refine zgLB ?_
  refine zpLB ?_
  refine zLB ?_
  refine zgLP ?_
  refine zgLG [.int _ _, .int _ _] ?_
  refine zgLG [.int _ _, .int _ _] ?_
  refine zgLB ?_
  refine zpLB ?_
  refine zLB ?_
  refine zgLP ?_
  refine zgLG [.int _ _, .int _ _] ?_
  refine zgLG [.int _ _, .int _ _] ?_
  refine zgLB ?_
  refine zpLB ?_
  refine zLB ?_
  refine zgLP ?_
  refine zgLI ?_
  refine zgLB ?_
  refine zpLB ?_
  refine zLB ?_
  refine zgLP ?_
  refine zgLI ?_
  refine zgLB ?_
  refine zpLB ?_
  refine zLB ?_
  refine zgLP ?_
  refine zgLI ?_
  refine zgLB ?_
  refine zpLB ?_
  refine zLB ?_
  refine zgLP ?_
  refine zgLI ?_
  refine zgLB ?_
  refine zpLB ?_
  refine zLB ?_
  refine zn ?_
  refine zt ?_
  refine ends (l := [.bool _]) (q := .bool _) (.inr rfl) rfl ⟨trivial, trivial⟩ rfl rfl ?_
  simp [emptyB, winEq]
end Go.AM
end
section
open Go Go.AM Go.Proofs
set_option maxRecDepth 10000
set_option linter.unusedVariables false
set_option linter.unusedSimpArgs false
namespace Go.AM
theorem w_succ {k n : Nat} (h : k < n) (hn : n ≤ 4611686018427387904) : IntKind.i64.wrap ((k : Int) + 1) = ((k + 1 : Nat) : Int) := by rw [IntKind.wrap_i64]; omega
def bytesB (l : List Int) : Bool := l.all fun n => inB n (-128) 127
theorem bytesB_at {l : List Int} {k : Nat} (hk : k < l.length) (h : (l.take k).all (fun n => inB n (-128) 127) = true) (hn : inB (l.getD k 0) (-128) 127 = true) : (l.take (k + 1)).all (fun n => inB n (-128) 127) = true := by
  rw [List.take_add_one, List.all_append, h]
  simp only [List.getD_eq_getElem?_getD, List.getElem?_eq_getElem hk, Option.getD_some] at hn
  simp [List.getElem?_eq_getElem hk, hn]
theorem bytesB_no {l : List Int} {k : Nat} (hk : k < l.length) (hn : inB (l.getD k 0) (-128) 127 = false) : bytesB l = false := by
  simp only [List.getD_eq_getElem?_getD, List.getElem?_eq_getElem hk, Option.getD_some] at hn
  simp only [bytesB, List.all_eq_false]
  exact ⟨l[k], List.getElem_mem hk, by simp [hn]⟩
theorem model_byte8 (l : List Int) (hl : l.length ≤ 4611686018427387904) : Ok Try.prog 78 [.ro (l.map intC)] (.bool (bytesB l)) := by
  refine fn_ok Tb_ok (fn := Try.f78) Try.func78 rfl rfl (e := [(0, _)]) rfl (by decide) rfl ?_
  refine zs ?_
  refine zR ?_
  refine zLB ?_
  refine zn ?_
  refine zs ?_
  refine zs ?_
  refine zR ?_
  refine zLO ?_
  refine zLI ?_
  refine zLI ?_
  refine zn ?_
  refine W_block ?_
  refine W_inv (ι := {k : Nat // k ≤ l.length ∧ (l.take k).all (fun n => inB n (-128) 127) = true}) (fun k => ⟨[(5, .ro (l.map intC)), (6, .int .i64 ((l.map intC).length : Int)), (7, .int .i64 (k.1 : Int))], [], [], 0⟩) (fun k => l.length - k.1) ⟨0, by simp, by simp⟩ (le_fit ⟨rfl, rfl, rfl, trivial⟩ trivial trivial rfl rfl rfl rfl rfl) ?_
  rintro ⟨k, hk, ha⟩
  refine zs ?_
  refine zR ?_
  refine zLB ?_
  refine zn ?_
  refine zs ?_
  refine W_cond (b := _) rfl (fun h8 => ?_) (fun h8 => ?_)
  · refine zk ?_
    refine zs ?_
    refine W_block ?_
    refine zs ?_
    refine zR ?_
    (refine L_v Tb_ok (v := _) (ave_index_ro rfl rfl rfl (fun _ => rfl) rfl (by first | omega | assumption | decide | (simp_all; done) | (simp_all; omega)) (by first | omega | assumption | decide | (simp_all; done) | (simp_all; omega)) trivial) rfl ?_)
    refine zLI ?_
    refine zLI ?_
    refine zn ?_
    refine zs ?_
    refine zR ?_
    refine zLI ?_
    refine zLB ?_
    refine zLB ?_
    refine zgLI ?_
    refine zgLB ?_
    refine zpLB ?_
    refine zn ?_
    refine W_cond (b := _) rfl (fun h16 => ?_) (fun h16 => ?_)
    · refine zs ?_
      refine zR ?_
      refine zLB ?_
      refine zn ?_
      refine zt ?_
      refine ends (l := [.bool _]) (q := .bool _) (.inr rfl) rfl ⟨trivial, trivial⟩ rfl rfl ?_
      first
      | (have he : k = l.length := (by simp at h8; omega)
         rw [he, List.take_length] at ha
         rw [bytesB, ha]; done)
      | (rw [bytesB_no (k := k) (by simpa using h8) (by simp_all [inB]; try omega)])
    · refine zk ?_
      refine zR ?_
      refine zLI ?_
      refine zLI ?_
      refine zn ?_
      have hlt : k < l.length := by simpa using h8
      refine round_end ⟨k + 1, by omega, bytesB_at hlt ha (by simp_all [inB]; try omega)⟩ (by dsimp only; omega) (le_fit ⟨rfl, rfl, congrArg _ (w_succ hlt hl), trivial⟩ trivial trivial rfl rfl rfl rfl rfl)
  · refine W_exit ?_
    repeat (first | refine pass_then ?_ | refine pass_round ?_)
    refine blockQ_hit ?_
    refine zs ?_
    refine zR ?_
    refine zLB ?_
    refine zn ?_
    refine zt ?_
    refine ends (l := [.bool _]) (q := .bool _) (.inr rfl) rfl ⟨trivial, trivial⟩ rfl rfl ?_
    first
    | (have he : k = l.length := (by simp at h8; omega)
       rw [he, List.take_length] at ha
       rw [bytesB, ha]; done)
    | (rw [bytesB_no (k := k) (by simpa using h8) (by simp_all [inB]; try omega)])
def mkX (o : MOp) (a : Shape) : Shape × Int := bif (ofU o.Kind).win then (⟨outH a o.Win, outW a o.Win, a.C⟩, w64 (o.Win.KH * o.Win.KW)) else (a, 1)
def mkE (o : MOp) (a : Shape) : Int := bif (ofU o.Kind).win then outE a o.Win else 0
def mkS (o : MOp) (a : Shape) : Shape := if mkE o a = 0 then if o.Kind = 1 then ⟨1, 1, o.M⟩ else if o.Kind = 2 then { (mkX o a).1 with C := o.M } else (mkX o a).1 else ⟨0, 0, 0⟩
def mkL (o : MOp) (a : Shape) : Int := if mkE o a = 0 then if o.Kind = 1 then w64 (w64 (a.H * a.W) * a.C) else if o.Kind = 2 then w64 ((mkX o a).2 * a.C) else if o.Kind = 3 ∨ o.Kind = 4 then (mkX o a).2 else 0 else 0
def mkT (o : MOp) (a : Shape) : Int := if o.Kind = 1 ∨ o.Kind = 2 then mkL o a else (mkX o a).2
def mkW (o : MOp) (a : Shape) : Int := if mkE o a = 0 then w64 (w64 (w64 ((mkS o a).H * (mkS o a).W) * (mkS o a).C) * mkT o a) else 0
theorem model_makes (o : MOp) (a : Shape) : Ok Try.prog 88 [.agg (opC o), .agg (shapeC a)] (.tup [.agg (shapeC (mkS o a)), .int .i64 (mkL o a), .int .i64 (mkW o a), .int .i64 (mkE o a)]) := by
  refine fn_ok Tb_ok (fn := Try.f88) Try.func88 rfl rfl (e := [(0, _), (1, _)]) rfl (by decide) rfl ?_
  refine zs ?_
  refine zR ?_
  refine zbx [.int _ _, .int _ _, .int _ _, .int _ _, .int _ _, .int _ _, .int _ _, .int _ _, .int _ _, .int _ _, .int _ _, .int _ _, _, _, .int _ _, .int _ _, .int _ _, .int _ _, .int _ _, .int _ _, .int _ _, .int _ _] 22 ?_
  refine zbx [.int _ _, .int _ _, .int _ _] 3 ?_
  refine zal [.int .i64 0, .int .i64 0, .int .i64 0] 3 ?_
  refine zLI ?_
  refine zLI ?_
  refine zLI ?_
  refine zn ?_
  refine zs ?_
  refine zR ?_
  refine zLP ?_
  refine zLI ?_
  refine zLc (model_of o.Kind) ?_
  refine zLT [_, _] ?_
  refine zLG [.bool _, .bool _, .bool _, .bool _, .bool _, .bool _, .bool _, .bool _] ?_
  refine zLB ?_
  refine zal [.bool false, .bool false, .bool false, .bool false, .bool false, .bool false, .bool false, .bool false] 8 ?_
  refine zst (.agg [.bool _, .bool _, .bool _, .bool _, .bool _, .bool _, .bool _, .bool _]) [_, _, _, _, _, _, _, _] [[_, _, _, _, _, _, _, _]] ?_
  refine zLB ?_
  refine zn ?_
  refine zs ?_
  refine zR ?_
  refine zLG [.int _ _, .int _ _, .int _ _] ?_
  refine zal [.int .i64 0, .int .i64 0, .int .i64 0] 3 ?_
  refine zst (.agg [.int _ _, .int _ _, .int _ _]) [_, _, _] [[_, _, _]] ?_
  refine zLI ?_
  refine zn ?_
  refine zs ?_
  refine zs ?_
  refine zR ?_
  refine zLP ?_
  refine zLB ?_
  refine zn ?_
  refine W_ift (b := _) (M := ⟨[(2, .ptr 0 0 0), (3, .ptr 1 0 0), (4, .ptr 2 0 0), (10, .ptr 4 0 0), (11, .int .i64 ((bif (ofU o.Kind).win then (⟨outH a o.Win, outW a o.Win, a.C⟩, w64 (o.Win.KH * o.Win.KW)) else (a, (1 : Int)))).2)], [(0, some ⟨42, 22, 0, [opC o]⟩), (1, some ⟨23, 3, 0, [shapeC a]⟩), (2, some ⟨23, 3, 0, [[.int .i64 0, .int .i64 0, .int .i64 0]]⟩), (4, some ⟨23, 3, 0, [shapeC ((bif (ofU o.Kind).win then (⟨outH a o.Win, outW a o.Win, a.C⟩, w64 (o.Win.KH * o.Win.KW)) else (a, (1 : Int)))).1]⟩)], [], 5⟩) (p := mkE o a = 0) rfl (fun h24 => ?_) (fun h24 => ?_) (fun m24 => ?_)
  · refine zs ?_
    refine zR ?_
    refine zLG [.int _ _, .int _ _, .int _ _] ?_
    refine zLP ?_
    refine zLG [.int _ _, .int _ _, .int _ _, .int _ _, .int _ _, .int _ _, .int _ _, .int _ _] ?_
    refine zLc (window_Out a o.Win) ?_
    refine zLT [_, _, _] ?_
    refine zLI ?_
    refine zLI ?_
    refine zLI ?_
    refine zLI ?_
    refine zLI ?_
    refine zLI ?_
    refine zn ?_
    refine zs ?_
    refine zs ?_
    refine zR ?_
    refine zLI ?_
    refine zLB ?_
    refine zn ?_
    refine W_cond (b := _) rfl (fun h34 => ?_) (fun h34 => ?_)
    · refine zs ?_
      refine zR ?_
      refine zLG [.int _ _, .int _ _, .int _ _] ?_
      refine zLI ?_
      refine zst (.agg [.int _ _, .int _ _, .int _ _]) [_, _, _] [[_, _, _]] ?_
      refine zLI ?_
      refine zLI ?_
      refine zLI ?_
      refine zn ?_
      refine zt ?_
      refine ends (l := [.agg [.int _ _, .int _ _, .int _ _], .int _ _, .int _ _, .int _ _]) (q := .tup [.agg [.int _ _, .int _ _, .int _ _], .int _ _, .int _ _, .int _ _]) (.inr rfl) rfl ⟨rfl, trivial, trivial, trivial, trivial⟩ rfl rfl ?_
      (simp_all [mkX, mkE, mkS, mkL, mkT, mkW, w64, shapeC]; done)
    · refine zk ?_
      refine W_drawF (fun e => [idOf (get e 10)]) 10 [[10, 11, 12, 13]] Tb_mixed rfl (by decide) (by kernel_rfl) ?_
      refine zSI ?_
      refine zSI ?_
      refine zSP ?_
      refine zSP ?_
      refine zSI ?_
      refine zSP ?_
      refine zSP ?_
      refine zSI ?_
      refine zSI ?_
      refine zSP ?_
      refine S_nil ?_
      refine TT_one ?_
      refine TT_store Tb_ok (OSub_forget _ _) rfl (v := .int _ _) (cs := [_]) (es' := [[_, _, _]]) rfl rfl rfl rfl rfl rfl rfl rfl rfl rfl rfl ⟨trivial, trivial⟩ (fun ht1 => ?_)
      refine TT_v Tb_ok ht1 rfl (v := .ptr _ _ _) (av rfl ⟨trivial, trivial⟩) rfl (fun ht2 => ?_)
      refine TT_store Tb_ok ht2 rfl (v := .int _ _) (cs := [_]) (es' := [[_, _, _]]) rfl rfl rfl rfl rfl rfl rfl rfl rfl rfl rfl ⟨trivial, trivial⟩ (fun ht3 => ?_)
      refine TT_v Tb_ok ht3 rfl (v := .int _ _) (av rfl ⟨trivial, trivial⟩) rfl (fun ht4 => ?_)
      refine TT_nil ?_
      clear ht1 ht2 ht3 ht4
      exact ⟨by simp_all [mkE], le_t (F := fun X => ⟨[(2, .ptr 0 0 0), (3, .ptr 1 0 0), (4, .ptr 2 0 0), (10, .ptr 4 0 0), (11, .int .i64 (X).2)], [(0, some ⟨42, 22, 0, [opC o]⟩), (1, some ⟨23, 3, 0, [shapeC a]⟩), (2, some ⟨23, 3, 0, [[.int .i64 0, .int .i64 0, .int .i64 0]]⟩), (4, some ⟨23, 3, 0, [shapeC (X).1]⟩)], [], 5⟩) (x := (⟨outH a o.Win, outW a o.Win, a.C⟩, w64 (o.Win.KH * o.Win.KW))) (y := (a, (1 : Int))) h24 (le_fit ⟨rfl, rfl, rfl, rfl, rfl, trivial⟩ ⟨.inr rfl, .inr rfl, .inr rfl, .inr rfl, trivial⟩ trivial rfl rfl rfl rfl rfl)⟩
  · refine zk ?_
    exact ⟨by simp_all [mkE], le_f (F := fun X => ⟨[(2, .ptr 0 0 0), (3, .ptr 1 0 0), (4, .ptr 2 0 0), (10, .ptr 4 0 0), (11, .int .i64 (X).2)], [(0, some ⟨42, 22, 0, [opC o]⟩), (1, some ⟨23, 3, 0, [shapeC a]⟩), (2, some ⟨23, 3, 0, [[.int .i64 0, .int .i64 0, .int .i64 0]]⟩), (4, some ⟨23, 3, 0, [shapeC (X).1]⟩)], [], 5⟩) (x := (⟨outH a o.Win, outW a o.Win, a.C⟩, w64 (o.Win.KH * o.Win.KW))) (y := (a, (1 : Int))) h24 (le_fit ⟨rfl, rfl, rfl, rfl, rfl, trivial⟩ ⟨.inr rfl, .inr rfl, .inr rfl, .inr rfl, trivial⟩ trivial rfl rfl rfl rfl rfl)⟩
  refine zs ?_
  refine zR ?_
  refine zLI ?_
  refine zn ?_
  refine zs ?_
  refine zs ?_
  refine zR ?_
  refine zLP ?_
  refine zLI ?_
  refine zn ?_
  refine W_block ?_
  refine zs ?_
  refine zR ?_
  refine zLB ?_
  refine zLB ?_
  refine zn ?_
  refine W_cond (b := _) rfl (fun h50 => ?_) (fun h50 => ?_)
  · refine zs ?_
    refine W_draw 12 Tb_mixed rfl (by decide) (by kernel_rfl) (by kernel_rfl) ?_
    refine zEP ?_
    refine zEI ?_
    refine zEP ?_
    refine zEI ?_
    refine zEI ?_
    refine zEP ?_
    refine zEI ?_
    refine zEI ?_
    refine zEP ?_
    refine zEI ?_
    refine zEG [.int _ _, .int _ _, .int _ _] ?_
    refine zEI ?_
    refine LexE_nil ?_
    refine zst (.agg [.int _ _, .int _ _, .int _ _]) [_, _, _] [[_, _, _]] ?_
    refine zn ?_
    refine zR ?_
    refine zLI ?_
    refine zLI ?_
    refine zn ?_
    refine zs ?_
    refine W_drawF (fun e => [idOf (get e 4)]) 12 [[12, 13, 14, 15]] Tb_mixed rfl (by decide) (by kernel_rfl) ?_
    refine zSG [.int _ _, .int _ _, .int _ _] ?_
    refine zSI ?_
    refine zSP ?_
    refine zSI ?_
    refine zSP ?_
    refine zSI ?_
    refine zSI ?_
    refine zSP ?_
    refine zSI ?_
    refine zSI ?_
    refine zSI ?_
    refine zSI ?_
    refine S_nil ?_
    refine TT_one ?_
    refine TT_store Tb_ok (OSub_forget _ _) rfl (v := .agg [.int _ _, .int _ _, .int _ _]) (cs := [_, _, _]) (es' := [[_, _, _]]) rfl rfl rfl rfl rfl rfl rfl rfl rfl rfl rfl ⟨trivial, trivial⟩ (fun ht1 => ?_)
    refine TT_v Tb_ok ht1 rfl (v := .int _ _) (av rfl ⟨trivial, trivial⟩) rfl (fun ht2 => ?_)
    refine TT_v Tb_ok ht2 rfl (v := .int _ _) (av rfl ⟨trivial, trivial⟩) rfl (fun ht3 => ?_)
    refine TT_v Tb_ok ht3 rfl (v := .int _ _) (av rfl ⟨trivial, trivial⟩) rfl (fun ht4 => ?_)
    refine TT_nil ?_
    clear ht1 ht2 ht3 ht4
    refine zt ?_
    refine ends (l := [.agg [.int _ _, .int _ _, .int _ _], .int _ _, .int _ _, .int _ _]) (q := .tup [.agg [.int _ _, .int _ _, .int _ _], .int _ _, .int _ _, .int _ _]) (.inr rfl) rfl ⟨rfl, trivial, trivial, trivial, trivial⟩ rfl rfl ?_
    (simp_all [mkX, mkE, mkS, mkL, mkT, mkW, w64, shapeC]; done)
  · refine zs ?_
    refine zR ?_
    refine zLB ?_
    refine zLB ?_
    refine zn ?_
    refine W_cond (b := _) rfl (fun h64 => ?_) (fun h64 => ?_)
    · refine zs ?_
      refine zR ?_
      refine zLI ?_
      refine zLP ?_
      refine zLI ?_
      refine zLI ?_
      refine zLI ?_
      refine zn ?_
      refine W_draw 5 Tb_mixed rfl (by decide) (by kernel_rfl) (by kernel_rfl) ?_
      refine zEI ?_
      refine zEP ?_
      refine zEI ?_
      refine zEI ?_
      refine zEP ?_
      refine LexE_nil ?_
      refine zst (.int _ _) [_] [[_, _, _]] ?_
      refine zn ?_
      refine zs ?_
      refine W_drawF (fun e => [idOf (get e 4)]) 12 [[12, 13, 14, 15]] Tb_mixed rfl (by decide) (by kernel_rfl) ?_
      refine zSG [.int _ _, .int _ _, .int _ _] ?_
      refine zSI ?_
      refine zSP ?_
      refine zSI ?_
      refine zSP ?_
      refine zSI ?_
      refine zSI ?_
      refine zSP ?_
      refine zSI ?_
      refine zSI ?_
      refine zSI ?_
      refine zSI ?_
      refine S_nil ?_
      refine TT_one ?_
      refine TT_store Tb_ok (OSub_forget _ _) rfl (v := .agg [.int _ _, .int _ _, .int _ _]) (cs := [_, _, _]) (es' := [[_, _, _]]) rfl rfl rfl rfl rfl rfl rfl rfl rfl rfl rfl ⟨trivial, trivial⟩ (fun ht1 => ?_)
      refine TT_v Tb_ok ht1 rfl (v := .int _ _) (av rfl ⟨trivial, trivial⟩) rfl (fun ht2 => ?_)
      refine TT_v Tb_ok ht2 rfl (v := .int _ _) (av rfl ⟨trivial, trivial⟩) rfl (fun ht3 => ?_)
      refine TT_v Tb_ok ht3 rfl (v := .int _ _) (av rfl ⟨trivial, trivial⟩) rfl (fun ht4 => ?_)
      refine TT_nil ?_
      clear ht1 ht2 ht3 ht4
      refine zt ?_
      refine ends (l := [.agg [.int _ _, .int _ _, .int _ _], .int _ _, .int _ _, .int _ _]) (q := .tup [.agg [.int _ _, .int _ _, .int _ _], .int _ _, .int _ _, .int _ _]) (.inr rfl) rfl ⟨rfl, trivial, trivial, trivial, trivial⟩ rfl rfl ?_
      (simp_all [mkX, mkE, mkS, mkL, mkT, mkW, w64, shapeC]; done)
    · refine zs ?_
      refine zs ?_
      refine zR ?_
      refine zLB ?_
      refine zLB ?_
      refine zn ?_
      refine W_cond (b := _) rfl (fun h74 => ?_) (fun h74 => ?_)
      · refine zk ?_
        refine W_cond (b := _) rfl (fun h74_1 => ?_) (fun h74_1 => ?_)
        · refine zR ?_
          refine zLI ?_
          refine zLI ?_
          refine zn ?_
          refine zs ?_
          refine W_drawF (fun e => [idOf (get e 4)]) 12 [[12, 13, 14, 15]] Tb_mixed rfl (by decide) (by kernel_rfl) ?_
          refine zSG [.int _ _, .int _ _, .int _ _] ?_
          refine zSI ?_
          refine zSP ?_
          refine zSI ?_
          refine zSP ?_
          refine zSI ?_
          refine zSI ?_
          refine zSP ?_
          refine zSI ?_
          refine zSI ?_
          refine zSI ?_
          refine zSI ?_
          refine S_nil ?_
          refine TT_one ?_
          refine TT_store Tb_ok (OSub_forget _ _) rfl (v := .agg [.int _ _, .int _ _, .int _ _]) (cs := [_, _, _]) (es' := [[_, _, _]]) rfl rfl rfl rfl rfl rfl rfl rfl rfl rfl rfl ⟨trivial, trivial⟩ (fun ht1 => ?_)
          refine TT_v Tb_ok ht1 rfl (v := .int _ _) (av rfl ⟨trivial, trivial⟩) rfl (fun ht2 => ?_)
          refine TT_v Tb_ok ht2 rfl (v := .int _ _) (av rfl ⟨trivial, trivial⟩) rfl (fun ht3 => ?_)
          refine TT_v Tb_ok ht3 rfl (v := .int _ _) (av rfl ⟨trivial, trivial⟩) rfl (fun ht4 => ?_)
          refine TT_nil ?_
          clear ht1 ht2 ht3 ht4
          refine zt ?_
          refine ends (l := [.agg [.int _ _, .int _ _, .int _ _], .int _ _, .int _ _, .int _ _]) (q := .tup [.agg [.int _ _, .int _ _, .int _ _], .int _ _, .int _ _, .int _ _]) (.inr rfl) rfl ⟨rfl, trivial, trivial, trivial, trivial⟩ rfl rfl ?_
          (simp_all [mkX, mkE, mkS, mkL, mkT, mkW, w64, shapeC]; done)
        · refine zk ?_
          refine zs ?_
          refine W_drawF (fun e => [idOf (get e 4)]) 12 [[12, 13, 14, 15]] Tb_mixed rfl (by decide) (by kernel_rfl) ?_
          refine zSG [.int _ _, .int _ _, .int _ _] ?_
          refine zSI ?_
          refine zSP ?_
          refine zSI ?_
          refine zSP ?_
          refine zSI ?_
          refine zSI ?_
          refine zSP ?_
          refine zSI ?_
          refine zSI ?_
          refine zSI ?_
          refine zSI ?_
          refine S_nil ?_
          refine TT_one ?_
          refine TT_store Tb_ok (OSub_forget _ _) rfl (v := .agg [.int _ _, .int _ _, .int _ _]) (cs := [_, _, _]) (es' := [[_, _, _]]) rfl rfl rfl rfl rfl rfl rfl rfl rfl rfl rfl ⟨trivial, trivial⟩ (fun ht1 => ?_)
          refine TT_v Tb_ok ht1 rfl (v := .int _ _) (av rfl ⟨trivial, trivial⟩) rfl (fun ht2 => ?_)
          refine TT_v Tb_ok ht2 rfl (v := .int _ _) (av rfl ⟨trivial, trivial⟩) rfl (fun ht3 => ?_)
          refine TT_v Tb_ok ht3 rfl (v := .int _ _) (av rfl ⟨trivial, trivial⟩) rfl (fun ht4 => ?_)
          refine TT_nil ?_
          clear ht1 ht2 ht3 ht4
          refine zt ?_
          refine ends (l := [.agg [.int _ _, .int _ _, .int _ _], .int _ _, .int _ _, .int _ _]) (q := .tup [.agg [.int _ _, .int _ _, .int _ _], .int _ _, .int _ _, .int _ _]) (.inr rfl) rfl ⟨rfl, trivial, trivial, trivial, trivial⟩ rfl rfl ?_
          (simp_all [mkX, mkE, mkS, mkL, mkT, mkW, w64, shapeC]; done)
      · refine zR ?_
        refine zLB ?_
        refine zLB ?_
        refine zn ?_
        refine W_cond (b := _) rfl (fun h74_2 => ?_) (fun h74_2 => ?_)
        · refine zR ?_
          refine zLI ?_
          refine zLI ?_
          refine zn ?_
          refine zs ?_
          refine W_drawF (fun e => [idOf (get e 4)]) 12 [[12, 13, 14, 15]] Tb_mixed rfl (by decide) (by kernel_rfl) ?_
          refine zSG [.int _ _, .int _ _, .int _ _] ?_
          refine zSI ?_
          refine zSP ?_
          refine zSI ?_
          refine zSP ?_
          refine zSI ?_
          refine zSI ?_
          refine zSP ?_
          refine zSI ?_
          refine zSI ?_
          refine zSI ?_
          refine zSI ?_
          refine S_nil ?_
          refine TT_one ?_
          refine TT_store Tb_ok (OSub_forget _ _) rfl (v := .agg [.int _ _, .int _ _, .int _ _]) (cs := [_, _, _]) (es' := [[_, _, _]]) rfl rfl rfl rfl rfl rfl rfl rfl rfl rfl rfl ⟨trivial, trivial⟩ (fun ht1 => ?_)
          refine TT_v Tb_ok ht1 rfl (v := .int _ _) (av rfl ⟨trivial, trivial⟩) rfl (fun ht2 => ?_)
          refine TT_v Tb_ok ht2 rfl (v := .int _ _) (av rfl ⟨trivial, trivial⟩) rfl (fun ht3 => ?_)
          refine TT_v Tb_ok ht3 rfl (v := .int _ _) (av rfl ⟨trivial, trivial⟩) rfl (fun ht4 => ?_)
          refine TT_nil ?_
          clear ht1 ht2 ht3 ht4
          refine zt ?_
          refine ends (l := [.agg [.int _ _, .int _ _, .int _ _], .int _ _, .int _ _, .int _ _]) (q := .tup [.agg [.int _ _, .int _ _, .int _ _], .int _ _, .int _ _, .int _ _]) (.inr rfl) rfl ⟨rfl, trivial, trivial, trivial, trivial⟩ rfl rfl ?_
          (simp_all [mkX, mkE, mkS, mkL, mkT, mkW, w64, shapeC]; done)
        · refine zk ?_
          refine zs ?_
          refine W_drawF (fun e => [idOf (get e 4)]) 12 [[12, 13, 14, 15]] Tb_mixed rfl (by decide) (by kernel_rfl) ?_
          refine zSG [.int _ _, .int _ _, .int _ _] ?_
          refine zSI ?_
          refine zSP ?_
          refine zSI ?_
          refine zSP ?_
          refine zSI ?_
          refine zSI ?_
          refine zSP ?_
          refine zSI ?_
          refine zSI ?_
          refine zSI ?_
          refine zSI ?_
          refine S_nil ?_
          refine TT_one ?_
          refine TT_store Tb_ok (OSub_forget _ _) rfl (v := .agg [.int _ _, .int _ _, .int _ _]) (cs := [_, _, _]) (es' := [[_, _, _]]) rfl rfl rfl rfl rfl rfl rfl rfl rfl rfl rfl ⟨trivial, trivial⟩ (fun ht1 => ?_)
          refine TT_v Tb_ok ht1 rfl (v := .int _ _) (av rfl ⟨trivial, trivial⟩) rfl (fun ht2 => ?_)
          refine TT_v Tb_ok ht2 rfl (v := .int _ _) (av rfl ⟨trivial, trivial⟩) rfl (fun ht3 => ?_)
          refine TT_v Tb_ok ht3 rfl (v := .int _ _) (av rfl ⟨trivial, trivial⟩) rfl (fun ht4 => ?_)
          refine TT_nil ?_
          clear ht1 ht2 ht3 ht4
          refine zt ?_
          refine ends (l := [.agg [.int _ _, .int _ _, .int _ _], .int _ _, .int _ _, .int _ _]) (q := .tup [.agg [.int _ _, .int _ _, .int _ _], .int _ _, .int _ _, .int _ _]) (.inr rfl) rfl ⟨rfl, trivial, trivial, trivial, trivial⟩ rfl rfl ?_
          (simp_all [mkX, mkE, mkS, mkL, mkT, mkW, w64, shapeC]; done)

end Go.AM
end
section
open Go Go.AM Go.Proofs
set_option maxRecDepth 10000
set_option linter.unusedVariables false
set_option linter.unusedSimpArgs false
namespace Go.AM
def op1 (o : MOp) : Bool := !inB o.Kind 1 8
def op2 (o : MOp) (l : List Shape) : Bool := bif bif decide (o.A < 0) then true else decide (o.A ≥ ((l.map shapeC).length : Int)) then true else bif (ofU o.Kind).b then bif decide (o.B < 0) then true else decide (o.B ≥ ((l.map shapeC).length : Int)) else false
def op3 (o : MOp) : Bool := !emptyB (bareF (ofU o.Kind) o)
def op4 (o : MOp) : Bool := bif (ofU o.Kind).m then bif decide (o.M < 1) then true else decide (o.M > 1024) else false
def inA (o : MOp) (l : List Shape) : Shape := l.getD o.A.toNat default
def inS (o : MOp) (l : List Shape) : Shape := l.getD o.B.toNat default
def op5 (o : MOp) (l : List Shape) : Bool := mkE o (inA o l) != 0
def shapeQ (a b : Shape) : Bool := a.H == b.H && (a.W == b.W && (a.C == b.C && true))
def op6 (o : MOp) (l : List Shape) : Bool := bif shapeE (mkS o (inA o l)) != 0 then true else bif (ofU o.Kind).b then !shapeQ (inS o l) (inA o l) else false
def opR (o : MOp) (l : List Shape) : Int := bif (ofU o.Kind).weights then (mkS o (inA o l)).C else 0
def op7 (o : MOp) (l : List Shape) : Bool := decide (mkL o (inA o l) > 512)
def op8 (o : MOp) (l : List Shape) : Bool := bif ((o.Weights.map i16C).length : Int) != w64 (opR o l * mkL o (inA o l)) then true else ((o.Bias.map i32C).length : Int) != opR o l
def scaleB (s : Scale) : Bool := inB s.Mult 1 2147483647 && inB s.Shift 0 62
def op9 (o : MOp) : Bool := bif bif (ofU o.Kind).sa then !scaleB o.SA else false then true else bif (ofU o.Kind).sb then !scaleB o.SB else false
def op10 (o : MOp) : Bool := bif !bytesB [o.Lo, o.Hi, o.Zero, o.Pad] then true else decide (o.Lo > o.Hi)
/-- the op's error -/
def opE (o : MOp) (l : List Shape) : Int := if op1 o then 81 else if op2 o l then 82 else if op3 o then 83 else if op4 o then 2 else if op5 o l then mkE o (inA o l) else if op6 o l then 50 else if op7 o l then 84 else if op8 o l then 70 else if op9 o then 20 else if op10 o then 85 else 0
def opS (o : MOp) (l : List Shape) : Shape := if op1 o then ⟨0, 0, 0⟩ else if op2 o l then ⟨0, 0, 0⟩ else if op3 o then ⟨0, 0, 0⟩ else if op4 o then ⟨0, 0, 0⟩ else if op5 o l then ⟨0, 0, 0⟩ else if op6 o l then ⟨0, 0, 0⟩ else if op7 o l then ⟨0, 0, 0⟩ else if op8 o l then ⟨0, 0, 0⟩ else if op9 o then ⟨0, 0, 0⟩ else if op10 o then ⟨0, 0, 0⟩ else mkS o (inA o l)
def opW (o : MOp) (l : List Shape) : Int := if op1 o then 0 else if op2 o l then 0 else if op3 o then 0 else if op4 o then 0 else if op5 o l then 0 else if op6 o l then 0 else if op7 o l then 0 else if op8 o l then 0 else if op9 o then 0 else if op10 o then 0 else mkW o (inA o l)
theorem model_op (o : MOp) (l : List Shape) : Ok Try.prog 79 [.agg (opC o), .ro (l.map shapeC)] (.tup [.agg (shapeC (opS o l)), .int .i64 (opW o l), .int .i64 (opE o l)]) := by
  refine fn_ok Tb_ok (fn := Try.f79) Try.func79 rfl rfl (e := [(0, _), (1, _)]) rfl (by decide) rfl ?_
  refine zs ?_
  refine zR ?_
  refine zbx [.int _ _, .int _ _, .int _ _, .int _ _, .int _ _, .int _ _, .int _ _, .int _ _, .int _ _, .int _ _, .int _ _, .int _ _, _, _, .int _ _, .int _ _, .int _ _, .int _ _, .int _ _, .int _ _, .int _ _, .int _ _] 22 ?_
  refine zal [.int .i64 0, .int .i64 0, .int .i64 0] 3 ?_
  refine zLI ?_
  refine zLI ?_
  refine zn ?_
  refine zs ?_
  refine zR ?_
  refine zLG [.int _ _, .int _ _, .int _ _] ?_
  refine zal [.int .i64 0, .int .i64 0, .int .i64 0] 3 ?_
  refine zst (.agg [.int _ _, .int _ _, .int _ _]) [_, _, _] [[_, _, _]] ?_
  refine zn ?_
  refine zs ?_
  refine zR ?_
  refine zLP ?_
  refine zLI ?_
  refine zLc (model_of o.Kind) ?_
  refine zLT [_, _] ?_
  refine zLG [.bool _, .bool _, .bool _, .bool _, .bool _, .bool _, .bool _, .bool _] ?_
  refine zLB ?_
  refine zal [.bool false, .bool false, .bool false, .bool false, .bool false, .bool false, .bool false, .bool false] 8 ?_
  refine zst (.agg [.bool _, .bool _, .bool _, .bool _, .bool _, .bool _, .bool _, .bool _]) [_, _, _, _, _, _, _, _] [[_, _, _, _, _, _, _, _]] ?_
  refine zLB ?_
  refine zn ?_
  refine zs ?_
  refine W_block ?_
  refine zs ?_
  refine zR ?_
  refine zLB ?_
  refine zLB ?_
  refine zLB ?_
  refine zn ?_
  refine W_cond (b := _) rfl (fun h25 => ?_) (fun h25 => ?_)
  · refine zs ?_
    refine zR ?_
    refine zLG [.int _ _, .int _ _, .int _ _] ?_
    refine zst (.agg [.int _ _, .int _ _, .int _ _]) [_, _, _] [[_, _, _]] ?_
    refine zLI ?_
    refine zLI ?_
    refine zn ?_
    refine zt ?_
    refine ends (l := [.agg [.int _ _, .int _ _, .int _ _], .int _ _, .int _ _]) (q := .tup [.agg [.int _ _, .int _ _, .int _ _], .int _ _, .int _ _]) (.inr rfl) rfl ⟨rfl, trivial, trivial, trivial⟩ rfl rfl ?_
    try replace h25 : op1 o = true := h25
    try replace h25 : op1 o = false := h25
    try replace h29 : op2 o l = true := h29
    try replace h29 : op2 o l = false := h29
    try replace h57 : op3 o = true := h57
    try replace h57 : op3 o = false := h57
    try replace h64 : op4 o = true := h64
    try replace h64 : op4 o = false := h64
    try replace h92 : op5 o l = true := h92
    try replace h92 : op5 o l = false := h92
    try replace h114 : op6 o l = true := h114
    try replace h114 : op6 o l = false := h114
    try replace h120 : op7 o l = true := h120
    try replace h120 : op7 o l = false := h120
    try replace h124 : op8 o l = true := h124
    try replace h124 : op8 o l = false := h124
    try replace h140 : op9 o = true := h140
    try replace h140 : op9 o = false := h140
    try replace h160 : op10 o = true := h160
    try replace h160 : op10 o = false := h160
    simp [opE, opS, opW, *, shapeC] <;> simp [inA]
  · refine zs ?_
    refine zR ?_
    refine zLP ?_
    refine zLI ?_
    refine zLB ?_
    refine zLB ?_
    refine zgLP ?_
    refine zgLI ?_
    refine zgLO ?_
    refine zgLI ?_
    refine zgLB ?_
    refine zpLB ?_
    refine zLB ?_
    refine zgLP ?_
    refine zgLB ?_
    refine zgLB ?_
    refine zgLP ?_
    refine zgLI ?_
    refine zgLB ?_
    refine zgLB ?_
    refine zgLP ?_
    refine zgLI ?_
    refine zgLO ?_
    refine zgLI ?_
    refine zgLB ?_
    refine zqLB ?_
    refine zqLB ?_
    refine zpLB ?_
    refine zLB ?_
    refine zn ?_
    refine W_cond (b := _) rfl (fun h29 => ?_) (fun h29 => ?_)
    · refine zs ?_
      refine zR ?_
      refine zLG [.int _ _, .int _ _, .int _ _] ?_
      refine zst (.agg [.int _ _, .int _ _, .int _ _]) [_, _, _] [[_, _, _]] ?_
      refine zLI ?_
      refine zLI ?_
      refine zn ?_
      refine zt ?_
      refine ends (l := [.agg [.int _ _, .int _ _, .int _ _], .int _ _, .int _ _]) (q := .tup [.agg [.int _ _, .int _ _, .int _ _], .int _ _, .int _ _]) (.inr rfl) rfl ⟨rfl, trivial, trivial, trivial⟩ rfl rfl ?_
      try replace h25 : op1 o = true := h25
      try replace h25 : op1 o = false := h25
      try replace h29 : op2 o l = true := h29
      try replace h29 : op2 o l = false := h29
      try replace h57 : op3 o = true := h57
      try replace h57 : op3 o = false := h57
      try replace h64 : op4 o = true := h64
      try replace h64 : op4 o = false := h64
      try replace h92 : op5 o l = true := h92
      try replace h92 : op5 o l = false := h92
      try replace h114 : op6 o l = true := h114
      try replace h114 : op6 o l = false := h114
      try replace h120 : op7 o l = true := h120
      try replace h120 : op7 o l = false := h120
      try replace h124 : op8 o l = true := h124
      try replace h124 : op8 o l = false := h124
      try replace h140 : op9 o = true := h140
      try replace h140 : op9 o = false := h140
      try replace h160 : op10 o = true := h160
      try replace h160 : op10 o = false := h160
      simp [opE, opS, opW, *, shapeC] <;> simp [inA]
    · refine zs ?_
      refine zR ?_
      refine zLG [.int _ _, .int _ _, .int _ _, .int _ _, .int _ _, .int _ _, .int _ _, .int _ _, .int _ _, .int _ _, .int _ _, .int _ _, _, _, .int _ _, .int _ _, .int _ _, .int _ _, .int _ _, .int _ _, .int _ _, .int _ _] ?_
      refine zLG [.bool _, .bool _, .bool _, .bool _, .bool _, .bool _, .bool _, .bool _] ?_
      refine zLc (model_bare o (ofU o.Kind)) ?_
      refine zLc (model_empty (bareF (ofU o.Kind) o)) ?_
      refine zLB ?_
      refine zLB ?_
      refine zn ?_
      refine W_cond (b := _) rfl (fun h57 => ?_) (fun h57 => ?_)
      · refine zs ?_
        refine zR ?_
        refine zLG [.int _ _, .int _ _, .int _ _] ?_
        refine zst (.agg [.int _ _, .int _ _, .int _ _]) [_, _, _] [[_, _, _]] ?_
        refine zLI ?_
        refine zLI ?_
        refine zn ?_
        refine zt ?_
        refine ends (l := [.agg [.int _ _, .int _ _, .int _ _], .int _ _, .int _ _]) (q := .tup [.agg [.int _ _, .int _ _, .int _ _], .int _ _, .int _ _]) (.inr rfl) rfl ⟨rfl, trivial, trivial, trivial⟩ rfl rfl ?_
        try replace h25 : op1 o = true := h25
        try replace h25 : op1 o = false := h25
        try replace h29 : op2 o l = true := h29
        try replace h29 : op2 o l = false := h29
        try replace h57 : op3 o = true := h57
        try replace h57 : op3 o = false := h57
        try replace h64 : op4 o = true := h64
        try replace h64 : op4 o = false := h64
        try replace h92 : op5 o l = true := h92
        try replace h92 : op5 o l = false := h92
        try replace h114 : op6 o l = true := h114
        try replace h114 : op6 o l = false := h114
        try replace h120 : op7 o l = true := h120
        try replace h120 : op7 o l = false := h120
        try replace h124 : op8 o l = true := h124
        try replace h124 : op8 o l = false := h124
        try replace h140 : op9 o = true := h140
        try replace h140 : op9 o = false := h140
        try replace h160 : op10 o = true := h160
        try replace h160 : op10 o = false := h160
        simp [opE, opS, opW, *, shapeC] <;> simp [inA]
      · refine zs ?_
        refine zR ?_
        refine zLP ?_
        refine zLB ?_
        refine zLB ?_
        refine zgLP ?_
        refine zgLI ?_
        refine zgLB ?_
        refine zgLB ?_
        refine zgLP ?_
        refine zgLI ?_
        refine zgLB ?_
        refine zqLB ?_
        refine zpLB ?_
        refine zLB ?_
        refine zn ?_
        refine W_cond (b := _) rfl (fun h64 => ?_) (fun h64 => ?_)
        · refine zs ?_
          refine zR ?_
          refine zLG [.int _ _, .int _ _, .int _ _] ?_
          refine zst (.agg [.int _ _, .int _ _, .int _ _]) [_, _, _] [[_, _, _]] ?_
          refine zLI ?_
          refine zLI ?_
          refine zn ?_
          refine zt ?_
          refine ends (l := [.agg [.int _ _, .int _ _, .int _ _], .int _ _, .int _ _]) (q := .tup [.agg [.int _ _, .int _ _, .int _ _], .int _ _, .int _ _]) (.inr rfl) rfl ⟨rfl, trivial, trivial, trivial⟩ rfl rfl ?_
          try replace h25 : op1 o = true := h25
          try replace h25 : op1 o = false := h25
          try replace h29 : op2 o l = true := h29
          try replace h29 : op2 o l = false := h29
          try replace h57 : op3 o = true := h57
          try replace h57 : op3 o = false := h57
          try replace h64 : op4 o = true := h64
          try replace h64 : op4 o = false := h64
          try replace h92 : op5 o l = true := h92
          try replace h92 : op5 o l = false := h92
          try replace h114 : op6 o l = true := h114
          try replace h114 : op6 o l = false := h114
          try replace h120 : op7 o l = true := h120
          try replace h120 : op7 o l = false := h120
          try replace h124 : op8 o l = true := h124
          try replace h124 : op8 o l = false := h124
          try replace h140 : op9 o = true := h140
          try replace h140 : op9 o = false := h140
          try replace h160 : op10 o = true := h160
          try replace h160 : op10 o = false := h160
          simp [opE, opS, opW, *, shapeC] <;> simp [inA]
        · refine zk ?_
          refine zs ?_
          refine zR ?_
          refine zLO ?_
          refine zLP ?_
          refine zLI ?_
          (refine L_v Tb_ok (v := _) (ave_index_ro rfl rfl rfl (fun _ => rfl) rfl (by first | omega | assumption | decide | (simp_all; done) | (simp_all; omega)) (by first | omega | assumption | decide | (simp_all; done) | (simp_all; omega)) trivial) rfl ?_)
          refine zLG [.int _ _, .int _ _, .int _ _] ?_
          refine zal [.int .i64 0, .int .i64 0, .int .i64 0] 3 ?_
          refine zst (.agg [.int _ _, .int _ _, .int _ _]) [_, _, _] [[_, _, _]] ?_
          refine zn ?_
          refine zs ?_
          refine zR ?_
          refine zLG [.int _ _, .int _ _, .int _ _, .int _ _, .int _ _, .int _ _, .int _ _, .int _ _, .int _ _, .int _ _, .int _ _, .int _ _, _, _, .int _ _, .int _ _, .int _ _, .int _ _, .int _ _, .int _ _, .int _ _, .int _ _] ?_
          refine zLG [.int _ _, .int _ _, .int _ _] ?_
          refine zLc (model_makes o _) ?_
          refine zLT [_, _, _, _] ?_
          refine zLG [.int _ _, .int _ _, .int _ _] ?_
          refine zLI ?_
          refine zLI ?_
          refine zLI ?_
          refine zal [.int .i64 0, .int .i64 0, .int .i64 0] 3 ?_
          refine zst (.agg [.int _ _, .int _ _, .int _ _]) [_, _, _] [[_, _, _]] ?_
          refine zLI ?_
          refine zLI ?_
          refine zLI ?_
          refine zn ?_
          refine zs ?_
          refine zs ?_
          refine zR ?_
          refine zLI ?_
          refine zLB ?_
          refine zn ?_
          refine W_cond (b := _) rfl (fun h92 => ?_) (fun h92 => ?_)
          · refine zs ?_
            refine zR ?_
            refine zLG [.int _ _, .int _ _, .int _ _] ?_
            refine zLI ?_
            refine zst (.agg [.int _ _, .int _ _, .int _ _]) [_, _, _] [[_, _, _]] ?_
            refine zLI ?_
            refine zLI ?_
            refine zn ?_
            refine zt ?_
            refine ends (l := [.agg [.int _ _, .int _ _, .int _ _], .int _ _, .int _ _]) (q := .tup [.agg [.int _ _, .int _ _, .int _ _], .int _ _, .int _ _]) (.inr rfl) rfl ⟨rfl, trivial, trivial, trivial⟩ rfl rfl ?_
            try replace h25 : op1 o = true := h25
            try replace h25 : op1 o = false := h25
            try replace h29 : op2 o l = true := h29
            try replace h29 : op2 o l = false := h29
            try replace h57 : op3 o = true := h57
            try replace h57 : op3 o = false := h57
            try replace h64 : op4 o = true := h64
            try replace h64 : op4 o = false := h64
            try replace h92 : op5 o l = true := h92
            try replace h92 : op5 o l = false := h92
            try replace h114 : op6 o l = true := h114
            try replace h114 : op6 o l = false := h114
            try replace h120 : op7 o l = true := h120
            try replace h120 : op7 o l = false := h120
            try replace h124 : op8 o l = true := h124
            try replace h124 : op8 o l = false := h124
            try replace h140 : op9 o = true := h140
            try replace h140 : op9 o = false := h140
            try replace h160 : op10 o = true := h160
            try replace h160 : op10 o = false := h160
            simp [opE, opS, opW, *, shapeC] <;> simp [inA]
          · refine zk ?_
            refine zs ?_
            refine zs ?_
            refine zR ?_
            refine zLG [.int _ _, .int _ _, .int _ _] ?_
            refine zLc (shape_Elems _) ?_
            refine zLT [_, _] ?_
            refine zLI ?_
            refine zLI ?_
            refine zLI ?_
            refine zLI ?_
            refine zn ?_
            refine zs ?_
            refine W_draw 15 Tb_mixed rfl (by decide) (by kernel_rfl) (by kernel_rfl) ?_
            refine zEI ?_
            refine zEB ?_
            refine zEB ?_
            refine zgEP ?_
            refine zgEB ?_
            refine zgEB ?_
            refine zgEO ?_
            refine zgEP ?_
            refine zgEI ?_
            (refine E_g Tb_ok (v := _) rfl rfl ((fun hg => (ave_index_ro rfl rfl rfl (fun _ => rfl) rfl (by first | omega | assumption | decide | (simp_all; done) | (simp_all; omega)) (by first | omega | assumption | decide | (simp_all; done) | (simp_all; omega)) ⟨⟨(by first | exact hg | (simp_all; done) | (simp at hg ⊢; simp [hg])), True.intro⟩, ⟨⟨(by first | exact hg | (simp_all; done) | (simp at hg ⊢; simp [hg])), True.intro⟩, True.intro⟩⟩))) rfl rfl ?_)
            refine zgEG [.int _ _, .int _ _, .int _ _] ?_
            refine zgEG [.int _ _, .int _ _, .int _ _] ?_
            refine zgEB ?_
            refine zqEB ?_
            refine zpEB ?_
            refine LexE_nil ?_
            refine zn ?_
            refine W_cond (b := _) rfl (fun h114 => ?_) (fun h114 => ?_)
            · refine zs ?_
              refine zR ?_
              refine zLG [.int _ _, .int _ _, .int _ _] ?_
              refine zst (.agg [.int _ _, .int _ _, .int _ _]) [_, _, _] [[_, _, _]] ?_
              refine zLI ?_
              refine zLI ?_
              refine zn ?_
              refine zt ?_
              refine ends (l := [.agg [.int _ _, .int _ _, .int _ _], .int _ _, .int _ _]) (q := .tup [.agg [.int _ _, .int _ _, .int _ _], .int _ _, .int _ _]) (.inr rfl) rfl ⟨rfl, trivial, trivial, trivial⟩ rfl rfl ?_
              try replace h25 : op1 o = true := h25
              try replace h25 : op1 o = false := h25
              try replace h29 : op2 o l = true := h29
              try replace h29 : op2 o l = false := h29
              try replace h57 : op3 o = true := h57
              try replace h57 : op3 o = false := h57
              try replace h64 : op4 o = true := h64
              try replace h64 : op4 o = false := h64
              try replace h92 : op5 o l = true := h92
              try replace h92 : op5 o l = false := h92
              try replace h114 : op6 o l = true := h114
              try replace h114 : op6 o l = false := h114
              try replace h120 : op7 o l = true := h120
              try replace h120 : op7 o l = false := h120
              try replace h124 : op8 o l = true := h124
              try replace h124 : op8 o l = false := h124
              try replace h140 : op9 o = true := h140
              try replace h140 : op9 o = false := h140
              try replace h160 : op10 o = true := h160
              try replace h160 : op10 o = false := h160
              simp [opE, opS, opW, *, shapeC] <;> simp [inA]
            · refine zk ?_
              refine zs ?_
              refine zR ?_
              refine zLI ?_
              refine zn ?_
              refine zs ?_
              refine zs ?_
              refine zR ?_
              refine zLP ?_
              refine zLB ?_
              refine zn ?_
              refine W_ift (b := _) (M := ⟨[(1, .ro (l.map shapeC)), (2, .ptr 0 0 0), (4, .ptr 1 0 0), (7, .ptr 2 0 0), (8, .ptr 3 0 0), (11, .ptr 5 0 0), (12, .int .i64 (mkL o (l.getD o.A.toNat default))), (13, .int .i64 (mkW o (l.getD o.A.toNat default))), (17, .int .i64 (bif (ofU o.Kind).weights then (mkS o (l.getD o.A.toNat default)).C else 0))], [(0, some ⟨42, 22, 0, [opC o]⟩), (1, some ⟨23, 3, 0, [shapeC ⟨0, 0, 0⟩]⟩), (2, some ⟨23, 3, 0, [shapeC ⟨0, 0, 0⟩]⟩), (3, some ⟨144, 8, 0, [usesC (ofU o.Kind)]⟩), (5, some ⟨23, 3, 0, [shapeC (mkS o (l.getD o.A.toNat default))]⟩)], [], 6⟩) (p := True) rfl (fun h117 => ?_) (fun h117 => ?_) (fun m117 => ?_)
              · refine zR ?_
                refine zLP ?_
                refine zLI ?_
                refine zLI ?_
                refine zn ?_
                exact ⟨trivial, le_fit ⟨rfl, rfl, rfl, rfl, rfl, rfl, rfl, rfl, mi1 h117 rfl, trivial⟩ ⟨.inr rfl, .inr rfl, .inr rfl, .inr rfl, .inr rfl, trivial⟩ trivial rfl rfl rfl rfl rfl⟩
              · refine zk ?_
                exact ⟨trivial, le_fit ⟨rfl, rfl, rfl, rfl, rfl, rfl, rfl, rfl, mi2 h117 rfl, trivial⟩ ⟨.inr rfl, .inr rfl, .inr rfl, .inr rfl, .inr rfl, trivial⟩ trivial rfl rfl rfl rfl rfl⟩
              refine zs ?_
              refine W_block ?_
              refine zs ?_
              refine zR ?_
              refine zLI ?_
              refine zLB ?_
              refine zLB ?_
              refine zn ?_
              refine W_cond (b := _) rfl (fun h120 => ?_) (fun h120 => ?_)
              · refine zs ?_
                refine zR ?_
                refine zLG [.int _ _, .int _ _, .int _ _] ?_
                refine zst (.agg [.int _ _, .int _ _, .int _ _]) [_, _, _] [[_, _, _]] ?_
                refine zLI ?_
                refine zLI ?_
                refine zn ?_
                refine zt ?_
                refine ends (l := [.agg [.int _ _, .int _ _, .int _ _], .int _ _, .int _ _]) (q := .tup [.agg [.int _ _, .int _ _, .int _ _], .int _ _, .int _ _]) (.inr rfl) rfl ⟨rfl, trivial, trivial, trivial⟩ rfl rfl ?_
                try replace h25 : op1 o = true := h25
                try replace h25 : op1 o = false := h25
                try replace h29 : op2 o l = true := h29
                try replace h29 : op2 o l = false := h29
                try replace h57 : op3 o = true := h57
                try replace h57 : op3 o = false := h57
                try replace h64 : op4 o = true := h64
                try replace h64 : op4 o = false := h64
                try replace h92 : op5 o l = true := h92
                try replace h92 : op5 o l = false := h92
                try replace h114 : op6 o l = true := h114
                try replace h114 : op6 o l = false := h114
                try replace h120 : op7 o l = true := h120
                try replace h120 : op7 o l = false := h120
                try replace h124 : op8 o l = true := h124
                try replace h124 : op8 o l = false := h124
                try replace h140 : op9 o = true := h140
                try replace h140 : op9 o = false := h140
                try replace h160 : op10 o = true := h160
                try replace h160 : op10 o = false := h160
                simp [opE, opS, opW, *, shapeC] <;> simp [inA]
              · refine zs ?_
                refine zR ?_
                refine zLP ?_
                refine zLO ?_
                refine zLI ?_
                refine zLI ?_
                refine zLI ?_
                refine zLI ?_
                refine zLB ?_
                refine zLB ?_
                refine zgLP ?_
                refine zgLO ?_
                refine zgLI ?_
                refine zgLI ?_
                refine zgLB ?_
                refine zpLB ?_
                refine zLB ?_
                refine zn ?_
                refine W_cond (b := _) rfl (fun h124 => ?_) (fun h124 => ?_)
                · refine zs ?_
                  refine zR ?_
                  refine zLG [.int _ _, .int _ _, .int _ _] ?_
                  refine zst (.agg [.int _ _, .int _ _, .int _ _]) [_, _, _] [[_, _, _]] ?_
                  refine zLI ?_
                  refine zLI ?_
                  refine zn ?_
                  refine zt ?_
                  refine ends (l := [.agg [.int _ _, .int _ _, .int _ _], .int _ _, .int _ _]) (q := .tup [.agg [.int _ _, .int _ _, .int _ _], .int _ _, .int _ _]) (.inr rfl) rfl ⟨rfl, trivial, trivial, trivial⟩ rfl rfl ?_
                  try replace h25 : op1 o = true := h25
                  try replace h25 : op1 o = false := h25
                  try replace h29 : op2 o l = true := h29
                  try replace h29 : op2 o l = false := h29
                  try replace h57 : op3 o = true := h57
                  try replace h57 : op3 o = false := h57
                  try replace h64 : op4 o = true := h64
                  try replace h64 : op4 o = false := h64
                  try replace h92 : op5 o l = true := h92
                  try replace h92 : op5 o l = false := h92
                  try replace h114 : op6 o l = true := h114
                  try replace h114 : op6 o l = false := h114
                  try replace h120 : op7 o l = true := h120
                  try replace h120 : op7 o l = false := h120
                  try replace h124 : op8 o l = true := h124
                  try replace h124 : op8 o l = false := h124
                  try replace h140 : op9 o = true := h140
                  try replace h140 : op9 o = false := h140
                  try replace h160 : op10 o = true := h160
                  try replace h160 : op10 o = false := h160
                  simp [opE, opS, opW, *, shapeC] <;> simp [inA]
                · refine zs ?_
                  refine zR ?_
                  refine zLP ?_
                  refine zLB ?_
                  refine zLB ?_
                  refine zgLP ?_
                  refine zgLG [.int _ _, .int _ _] ?_
                  refine L_callg (hr := fun hg => fixq_Valid _) rfl rfl rfl rfl rfl (fun hg => ⟨⟨(by exact hg), True.intro⟩, True.intro⟩) rfl rfl ?_
                  refine zgLB ?_
                  refine zpLB ?_
                  refine zLB ?_
                  refine zgLP ?_
                  refine zgLB ?_
                  refine zgLB ?_
                  refine zgLP ?_
                  refine zgLG [.int _ _, .int _ _] ?_
                  refine L_callg (hr := fun hg => fixq_Valid _) rfl rfl rfl rfl rfl (fun hg => ⟨⟨(by exact hg), True.intro⟩, True.intro⟩) rfl rfl ?_
                  refine zgLB ?_
                  refine zqLB ?_
                  refine zpLB ?_
                  refine zLB ?_
                  refine zn ?_
                  refine W_cond (b := _) rfl (fun h140 => ?_) (fun h140 => ?_)
                  · refine zs ?_
                    refine zR ?_
                    refine zLG [.int _ _, .int _ _, .int _ _] ?_
                    refine zst (.agg [.int _ _, .int _ _, .int _ _]) [_, _, _] [[_, _, _]] ?_
                    refine zLI ?_
                    refine zLI ?_
                    refine zn ?_
                    refine zt ?_
                    refine ends (l := [.agg [.int _ _, .int _ _, .int _ _], .int _ _, .int _ _]) (q := .tup [.agg [.int _ _, .int _ _, .int _ _], .int _ _, .int _ _]) (.inr rfl) rfl ⟨rfl, trivial, trivial, trivial⟩ rfl rfl ?_
                    try replace h25 : op1 o = true := h25
                    try replace h25 : op1 o = false := h25
                    try replace h29 : op2 o l = true := h29
                    try replace h29 : op2 o l = false := h29
                    try replace h57 : op3 o = true := h57
                    try replace h57 : op3 o = false := h57
                    try replace h64 : op4 o = true := h64
                    try replace h64 : op4 o = false := h64
                    try replace h92 : op5 o l = true := h92
                    try replace h92 : op5 o l = false := h92
                    try replace h114 : op6 o l = true := h114
                    try replace h114 : op6 o l = false := h114
                    try replace h120 : op7 o l = true := h120
                    try replace h120 : op7 o l = false := h120
                    try replace h124 : op8 o l = true := h124
                    try replace h124 : op8 o l = false := h124
                    try replace h140 : op9 o = true := h140
                    try replace h140 : op9 o = false := h140
                    try replace h160 : op10 o = true := h160
                    try replace h160 : op10 o = false := h160
                    simp [opE, opS, opW, *, shapeC] <;> simp [inA]
                  · refine zs ?_
                    refine zR ?_
                    refine zLP ?_
                    refine zLI ?_
                    refine zLP ?_
                    refine zLI ?_
                    refine zLP ?_
                    refine zLI ?_
                    refine zLP ?_
                    refine zLI ?_
                    refine L_build Tb_ok (t := 90) (len := 4) (el := 3) (sz := 1) (es := [[_], [_], [_], [_]]) (z := [.int .i64 0]) rfl rfl rfl rfl rfl (by decide) trivial rfl rfl rfl rfl rfl ?_
                    refine L_freeze (t := 169) (l := _) rfl rfl rfl rfl rfl rfl rfl ?_
                    refine zLc (model_byte8 [o.Lo, o.Hi, o.Zero, o.Pad] (by simp)) ?_
                    refine zLB ?_
                    refine zLB ?_
                    refine zgLP ?_
                    refine zgLI ?_
                    refine zgLP ?_
                    refine zgLI ?_
                    refine zgLB ?_
                    refine zpLB ?_
                    refine zLB ?_
                    refine zn ?_
                    refine W_cond (b := _) rfl (fun h160 => ?_) (fun h160 => ?_)
                    · refine zs ?_
                      refine zR ?_
                      refine zLG [.int _ _, .int _ _, .int _ _] ?_
                      refine zst (.agg [.int _ _, .int _ _, .int _ _]) [_, _, _] [[_, _, _]] ?_
                      refine zLI ?_
                      refine zLI ?_
                      refine zn ?_
                      refine zt ?_
                      refine ends (l := [.agg [.int _ _, .int _ _, .int _ _], .int _ _, .int _ _]) (q := .tup [.agg [.int _ _, .int _ _, .int _ _], .int _ _, .int _ _]) (.inr rfl) rfl ⟨rfl, trivial, trivial, trivial⟩ rfl rfl ?_
                      try replace h25 : op1 o = true := h25
                      try replace h25 : op1 o = false := h25
                      try replace h29 : op2 o l = true := h29
                      try replace h29 : op2 o l = false := h29
                      try replace h57 : op3 o = true := h57
                      try replace h57 : op3 o = false := h57
                      try replace h64 : op4 o = true := h64
                      try replace h64 : op4 o = false := h64
                      try replace h92 : op5 o l = true := h92
                      try replace h92 : op5 o l = false := h92
                      try replace h114 : op6 o l = true := h114
                      try replace h114 : op6 o l = false := h114
                      try replace h120 : op7 o l = true := h120
                      try replace h120 : op7 o l = false := h120
                      try replace h124 : op8 o l = true := h124
                      try replace h124 : op8 o l = false := h124
                      try replace h140 : op9 o = true := h140
                      try replace h140 : op9 o = false := h140
                      try replace h160 : op10 o = true := h160
                      try replace h160 : op10 o = false := h160
                      simp [opE, opS, opW, *, shapeC] <;> simp [inA]
                    · refine zk ?_
                      refine zs ?_
                      refine zR ?_
                      refine zLG [.int _ _, .int _ _, .int _ _] ?_
                      refine zLI ?_
                      refine zst (.agg [.int _ _, .int _ _, .int _ _]) [_, _, _] [[_, _, _]] ?_
                      refine zLI ?_
                      refine zLI ?_
                      refine zn ?_
                      refine zt ?_
                      refine ends (l := [.agg [.int _ _, .int _ _, .int _ _], .int _ _, .int _ _]) (q := .tup [.agg [.int _ _, .int _ _, .int _ _], .int _ _, .int _ _]) (.inr rfl) rfl ⟨rfl, trivial, trivial, trivial⟩ rfl rfl ?_
                      try replace h25 : op1 o = true := h25
                      try replace h25 : op1 o = false := h25
                      try replace h29 : op2 o l = true := h29
                      try replace h29 : op2 o l = false := h29
                      try replace h57 : op3 o = true := h57
                      try replace h57 : op3 o = false := h57
                      try replace h64 : op4 o = true := h64
                      try replace h64 : op4 o = false := h64
                      try replace h92 : op5 o l = true := h92
                      try replace h92 : op5 o l = false := h92
                      try replace h114 : op6 o l = true := h114
                      try replace h114 : op6 o l = false := h114
                      try replace h120 : op7 o l = true := h120
                      try replace h120 : op7 o l = false := h120
                      try replace h124 : op8 o l = true := h124
                      try replace h124 : op8 o l = false := h124
                      try replace h140 : op9 o = true := h140
                      try replace h140 : op9 o = false := h140
                      try replace h160 : op10 o = true := h160
                      try replace h160 : op10 o = false := h160
                      simp [opE, opS, opW, *, shapeC] <;> simp [inA]
end Go.AM
end
section
open Go Go.AM Go.Proofs
set_option maxRecDepth 10000
set_option linter.unusedVariables false
set_option linter.unusedSimpArgs false
namespace Go.AM
def wbig (o : MOp) (l : List Shape) (s : Int) : Bool := bif opE o l == 0 then decide (w64 (s + opW o l) > 131072) else false
def werr (o : MOp) (l : List Shape) (s : Int) : Int := bif wbig o l s then 86 else opE o l
/-- the ops, one behind another -/
def wgo : List MOp → Nat → List Shape → Int → List Shape × Int × Fault
  | [], _, l, s => (l, s, ⟨0, 0, 0⟩)
  | o :: r, k, l, s => bif werr o l s != 0 then ([], 0, ⟨werr o l s, w64 ((k : Int) + 1), 0⟩) else wgo r (k + 1) (l ++ [opS o l]) (w64 (s + opW o l))
def wh1 (m : Model) : Bool := shapeE m.In != 0
def wh2 (m : Model) : Bool := bif !bytesB [m.Lo, m.Hi] then true else decide (m.Lo > m.Hi)
def wh3 (m : Model) : Bool := decide (((m.Ops.map opC).length : Int) > 64)
def wh4 (m : Model) : Bool := bif decide (m.Out < 0) then true else decide (m.Out > ((m.Ops.map opC).length : Int))
/-- shapes, work and fault -/
def wholeF (m : Model) : List Shape × Int × Fault :=
  if wh1 m then ([], 0, ⟨shapeE m.In, 0, 0⟩) else if wh2 m then ([], 0, ⟨85, 0, 0⟩) else if wh3 m then ([], 0, ⟨80, 0, 0⟩) else if wh4 m then ([], 0, ⟨3, 0, 0⟩) else wgo m.Ops 0 [m.In] 0
structure WI (m : Model) where
  (k : Nat) (l : List Shape) (s : Int)
  (hk : k ≤ m.Ops.length)
  (hl : l.length = k + 1)
  (hm : m.Ops.length ≤ 64)
  (h : wholeF m = wgo (m.Ops.drop k) k l s)
theorem wgo_step {m : Model} {k : Nat} {l : List Shape} {s : Int} (hk : k < m.Ops.length) : wgo (m.Ops.drop k) k l s =
    bif werr (m.Ops.getD k default) l s != 0 then ([], 0, ⟨werr (m.Ops.getD k default) l s, w64 ((k : Int) + 1), 0⟩) else wgo (m.Ops.drop (k + 1)) (k + 1) (l ++ [opS (m.Ops.getD k default) l]) (w64 (s + opW (m.Ops.getD k default) l)) := by
  have e : m.Ops.drop k = m.Ops.getD k default :: m.Ops.drop (k + 1) := by rw [List.drop_eq_getElem_cons hk]; simp [hk]
  rw [e, wgo]
theorem werr_big {o : MOp} {l : List Shape} {s : Int} (h : wbig o l s = true) : werr o l s = 86 := by rw [werr, h]; rfl
theorem werr_ok {o : MOp} {l : List Shape} {s : Int} (h : wbig o l s = false) : werr o l s = opE o l := by rw [werr, h]; rfl
theorem wgo_bad {m : Model} {k : Nat} {l : List Shape} {s e : Int} (hk : k < m.Ops.length) (h : werr (m.Ops.getD k default) l s = e) (hn : (e != 0) = true) : wgo (m.Ops.drop k) k l s = ([], 0, ⟨e, w64 ((k : Int) + 1), 0⟩) := by rw [wgo_step hk, h, hn]; rfl
theorem wgo_good {m : Model} {k : Nat} {l : List Shape} {s e : Int} (hk : k < m.Ops.length) (h : werr (m.Ops.getD k default) l s = e) (hn : (e != 0) = false) : wgo (m.Ops.drop k) k l s = wgo (m.Ops.drop (k + 1)) (k + 1) (l ++ [opS (m.Ops.getD k default) l]) (w64 (s + opW (m.Ops.getD k default) l)) := by rw [wgo_step hk, h, hn]; rfl
theorem model_whole (m : Model) : Ok Try.prog 60 [.agg (modelC m)] (.tup [.ro ((wholeF m).1.map shapeC), .int .i64 (wholeF m).2.1, .agg (faultC (wholeF m).2.2)]) := by
  refine fn_ok Tb_ok (fn := Try.f60) Try.func60 rfl rfl (e := [(0, _)]) rfl (by decide) rfl ?_
  refine zs ?_
  refine zR ?_
  refine zbx [.int _ _, .int _ _, .int _ _, .int _ _, .int _ _, _, .int _ _] 7 ?_
  refine zLN ?_
  refine zLI ?_
  refine zal [.int .i64 0, .int .i64 0, .int .i64 0] 3 ?_
  refine zn ?_
  refine zs ?_
  refine zR ?_
  refine zLP ?_
  refine zLG [.int _ _, .int _ _, .int _ _] ?_
  refine zLc (shape_Elems m.In) ?_
  refine zLT [_, _] ?_
  refine zLI ?_
  refine zLI ?_
  refine zLI ?_
  refine zLI ?_
  refine zn ?_
  refine zs ?_
  refine W_block ?_
  refine zs ?_
  refine zR ?_
  refine zLI ?_
  refine zLB ?_
  refine zLB ?_
  refine zn ?_
  refine W_cond (b := _) rfl (fun h20 => ?_) (fun h20 => ?_)
  · refine zs ?_
    refine zR ?_
    refine zLI ?_
    refine zLG [.int _ _, .int _ _, .int _ _] ?_
    refine zLN ?_
    refine zLI ?_
    refine zst (.agg [.int _ _, .int _ _, .int _ _]) [_, _, _] [[_, _, _]] ?_
    refine zn ?_
    refine zt ?_
    (refine ends (l := [.nils, .int _ _, .agg [.int _ _, .int _ _, .int _ _]]) (q := .tup [.ro _, .int _ _, .agg [.int _ _, .int _ _, .int _ _]]) (.inr rfl) rfl ⟨trivial, trivial, rfl, trivial⟩ rfl rfl ?_)
    try replace h20 : wh1 m = true := h20
    try replace h20 : wh1 m = false := h20
    try replace h25 : wh2 m = true := h25
    try replace h25 : wh2 m = false := h25
    try replace h41 : wh3 m = true := h41
    try replace h41 : wh3 m = false := h41
    try replace h47 : wh4 m = true := h47
    try replace h47 : wh4 m = false := h47
    first
    | (simp [wholeF, *, faultC]; done)
    | (simp only [List.length_map] at h67
       rcases Nat.lt_or_ge k m.Ops.length with hlt | hge
       · first
         | (rw [hw, wgo_bad hlt (werr_big (show wbig (m.Ops.getD k default) l s = true from h86)) (show ((86 : Int) != 0) = true from h88)]; rfl)
         | (rw [hw, wgo_bad hlt (werr_ok (show wbig (m.Ops.getD k default) l s = false from h86)) (show (opE (m.Ops.getD k default) l != 0) = true from h88_1)]; rfl)
         | (simp at h67; omega)
       · have he : k = m.Ops.length := Nat.le_antisymm hk hge
         subst he
         first | (rw [hw, List.drop_length, wgo]; rfl) | (simp at h67; done))
  · refine zs ?_
    refine zR ?_
    refine zLP ?_
    refine zLI ?_
    refine zLP ?_
    refine zLI ?_
    refine L_build Tb_ok (t := 90) (len := 2) (el := 3) (sz := 1) (es := [[_], [_]]) (z := [.int .i64 0]) rfl rfl rfl rfl rfl (by decide) trivial rfl rfl rfl rfl rfl ?_
    refine L_freeze (t := 30) (l := _) rfl rfl rfl rfl rfl rfl rfl ?_
    refine zLc (model_byte8 [m.Lo, m.Hi] (by simp)) ?_
    refine zLB ?_
    refine zLB ?_
    refine zgLP ?_
    refine zgLI ?_
    refine zgLP ?_
    refine zgLI ?_
    refine zgLB ?_
    refine zpLB ?_
    refine zLB ?_
    refine zn ?_
    refine W_cond (b := _) rfl (fun h25 => ?_) (fun h25 => ?_)
    · refine zs ?_
      refine zR ?_
      refine zLG [.int _ _, .int _ _, .int _ _] ?_
      refine zLN ?_
      refine zLI ?_
      refine zst (.agg [.int _ _, .int _ _, .int _ _]) [_, _, _] [[_, _, _]] ?_
      refine zn ?_
      refine zt ?_
      (refine ends (l := [.nils, .int _ _, .agg [.int _ _, .int _ _, .int _ _]]) (q := .tup [.ro _, .int _ _, .agg [.int _ _, .int _ _, .int _ _]]) (.inr rfl) rfl ⟨trivial, trivial, rfl, trivial⟩ rfl rfl ?_)
      try replace h20 : wh1 m = true := h20
      try replace h20 : wh1 m = false := h20
      try replace h25 : wh2 m = true := h25
      try replace h25 : wh2 m = false := h25
      try replace h41 : wh3 m = true := h41
      try replace h41 : wh3 m = false := h41
      try replace h47 : wh4 m = true := h47
      try replace h47 : wh4 m = false := h47
      first
      | (simp [wholeF, *, faultC]; done)
      | (simp only [List.length_map] at h67
         rcases Nat.lt_or_ge k m.Ops.length with hlt | hge
         · first
           | (rw [hw, wgo_bad hlt (werr_big (show wbig (m.Ops.getD k default) l s = true from h86)) (show ((86 : Int) != 0) = true from h88)]; rfl)
           | (rw [hw, wgo_bad hlt (werr_ok (show wbig (m.Ops.getD k default) l s = false from h86)) (show (opE (m.Ops.getD k default) l != 0) = true from h88_1)]; rfl)
           | (simp at h67; omega)
         · have he : k = m.Ops.length := Nat.le_antisymm hk hge
           subst he
           first | (rw [hw, List.drop_length, wgo]; rfl) | (simp at h67; done))
    · refine zs ?_
      refine zR ?_
      refine zLP ?_
      refine zLO ?_
      refine zLI ?_
      refine zLB ?_
      refine zLB ?_
      refine zn ?_
      refine W_cond (b := _) rfl (fun h41 => ?_) (fun h41 => ?_)
      · refine zs ?_
        refine zR ?_
        refine zLG [.int _ _, .int _ _, .int _ _] ?_
        refine zLN ?_
        refine zLI ?_
        refine zst (.agg [.int _ _, .int _ _, .int _ _]) [_, _, _] [[_, _, _]] ?_
        refine zn ?_
        refine zt ?_
        (refine ends (l := [.nils, .int _ _, .agg [.int _ _, .int _ _, .int _ _]]) (q := .tup [.ro _, .int _ _, .agg [.int _ _, .int _ _, .int _ _]]) (.inr rfl) rfl ⟨trivial, trivial, rfl, trivial⟩ rfl rfl ?_)
        try replace h20 : wh1 m = true := h20
        try replace h20 : wh1 m = false := h20
        try replace h25 : wh2 m = true := h25
        try replace h25 : wh2 m = false := h25
        try replace h41 : wh3 m = true := h41
        try replace h41 : wh3 m = false := h41
        try replace h47 : wh4 m = true := h47
        try replace h47 : wh4 m = false := h47
        first
        | (simp [wholeF, *, faultC]; done)
        | (simp only [List.length_map] at h67
           rcases Nat.lt_or_ge k m.Ops.length with hlt | hge
           · first
             | (rw [hw, wgo_bad hlt (werr_big (show wbig (m.Ops.getD k default) l s = true from h86)) (show ((86 : Int) != 0) = true from h88)]; rfl)
             | (rw [hw, wgo_bad hlt (werr_ok (show wbig (m.Ops.getD k default) l s = false from h86)) (show (opE (m.Ops.getD k default) l != 0) = true from h88_1)]; rfl)
             | (simp at h67; omega)
           · have he : k = m.Ops.length := Nat.le_antisymm hk hge
             subst he
             first | (rw [hw, List.drop_length, wgo]; rfl) | (simp at h67; done))
      · refine zs ?_
        refine zR ?_
        refine zLP ?_
        refine zLI ?_
        refine zLB ?_
        refine zLB ?_
        refine zgLP ?_
        refine zgLI ?_
        refine zgLP ?_
        refine zgLO ?_
        refine zgLI ?_
        refine zgLB ?_
        refine zpLB ?_
        refine zLB ?_
        refine zn ?_
        refine W_cond (b := _) rfl (fun h47 => ?_) (fun h47 => ?_)
        · refine zs ?_
          refine zR ?_
          refine zLG [.int _ _, .int _ _, .int _ _] ?_
          refine zLN ?_
          refine zLI ?_
          refine zst (.agg [.int _ _, .int _ _, .int _ _]) [_, _, _] [[_, _, _]] ?_
          refine zn ?_
          refine zt ?_
          (refine ends (l := [.nils, .int _ _, .agg [.int _ _, .int _ _, .int _ _]]) (q := .tup [.ro _, .int _ _, .agg [.int _ _, .int _ _, .int _ _]]) (.inr rfl) rfl ⟨trivial, trivial, rfl, trivial⟩ rfl rfl ?_)
          try replace h20 : wh1 m = true := h20
          try replace h20 : wh1 m = false := h20
          try replace h25 : wh2 m = true := h25
          try replace h25 : wh2 m = false := h25
          try replace h41 : wh3 m = true := h41
          try replace h41 : wh3 m = false := h41
          try replace h47 : wh4 m = true := h47
          try replace h47 : wh4 m = false := h47
          first
          | (simp [wholeF, *, faultC]; done)
          | (simp only [List.length_map] at h67
             rcases Nat.lt_or_ge k m.Ops.length with hlt | hge
             · first
               | (rw [hw, wgo_bad hlt (werr_big (show wbig (m.Ops.getD k default) l s = true from h86)) (show ((86 : Int) != 0) = true from h88)]; rfl)
               | (rw [hw, wgo_bad hlt (werr_ok (show wbig (m.Ops.getD k default) l s = false from h86)) (show (opE (m.Ops.getD k default) l != 0) = true from h88_1)]; rfl)
               | (simp at h67; omega)
             · have he : k = m.Ops.length := Nat.le_antisymm hk hge
               subst he
               first | (rw [hw, List.drop_length, wgo]; rfl) | (simp at h67; done))
        · refine zk ?_
          refine zs ?_
          refine zR ?_
          refine zLP ?_
          refine zLG [.int _ _, .int _ _, .int _ _] ?_
          refine L_build Tb_ok (t := 93) (len := 1) (el := 23) (sz := 3) (es := [[_, _, _]]) (z := [.int .i64 0, .int .i64 0, .int .i64 0]) rfl rfl rfl rfl rfl (by decide) trivial rfl rfl rfl rfl rfl ?_
          refine zLW ?_
          refine zLI ?_
          refine zn ?_
          refine zs ?_
          refine zs ?_
          refine zR ?_
          refine zLP ?_
          refine zLO ?_
          refine zLI ?_
          refine zLI ?_
          refine zn ?_
          refine W_block ?_
          refine W_tok (t := 7) (id := 4) (ty := 23) (sz := 3) (fz := 0) (es := [shapeC m.In]) (l := [shapeC m.In]) rfl rfl rfl rfl rfl rfl rfl ?_
          refine W_inv (ι := WI m) (fun i => ⟨[(1, .ptr 0 0 0), (4, .ptr 1 0 0), (7, .app 5 (i.l.map shapeC)), (8, .int .i64 i.s), (64, .ro (m.Ops.map opC)), (65, .int .i64 ((m.Ops.map opC).length : Int)), (66, .int .i64 (i.k : Int))], [(0, some ⟨26, 7, 0, [modelC m]⟩), (1, some ⟨95, 3, 0, [[.int .i64 0, .int .i64 0, .int .i64 0]]⟩)], [(5, some (23, 3, i.l.length))], 6⟩) (fun i => m.Ops.length - i.k) ⟨0, [m.In], 0, Nat.zero_le _, rfl, by simp at h41; omega, ?_⟩ (le_fit ⟨rfl, rfl, rfl, rfl, rfl, rfl, rfl, trivial⟩ ⟨.inr rfl, .inr rfl, trivial⟩ ⟨.inr rfl, trivial⟩ rfl rfl rfl rfl rfl) ?_
          · replace h20 : wh1 m = false := h20
            replace h25 : wh2 m = false := h25
            replace h41 : wh3 m = false := h41
            replace h47 : wh4 m = false := h47
            simp [wholeF, *]
          rintro ⟨k, l, s, hk, hl, hm, hw⟩
          refine zs ?_
          refine zR ?_
          refine zLB ?_
          refine zn ?_
          refine zs ?_
          refine W_cond (b := _) rfl (fun h67 => ?_) (fun h67 => ?_)
          · refine zk ?_
            refine zs ?_
            refine W_block ?_
            refine zs ?_
            refine zR ?_
            refine zLI ?_
            (refine L_v Tb_ok (v := _) (ave_index_ro rfl rfl rfl (fun _ => rfl) rfl (by first | omega | assumption | decide | (simp_all; done) | (simp_all; omega)) (by first | omega | assumption | decide | (simp_all; done) | (simp_all; omega)) trivial) rfl ?_)
            refine zLG [.int _ _, .int _ _, .int _ _, .int _ _, .int _ _, .int _ _, .int _ _, .int _ _, .int _ _, .int _ _, .int _ _, .int _ _, _, _, .int _ _, .int _ _, .int _ _, .int _ _, .int _ _, .int _ _, .int _ _, .int _ _] ?_
            refine zal [.int .i64 0, .int .i64 0, .int .i64 0, .int .i64 0, .int .i64 0, .int .i64 0, .int .i64 0, .int .i64 0, .int .i64 0, .int .i64 0, .int .i64 0, .int .i64 0, .nils, .nils, .int .i64 0, .int .i64 0, .int .i64 0, .int .i64 0, .int .i64 0, .int .i64 0, .int .i64 0, .int .i64 0] 22 ?_
            refine zLI ?_
            refine zst (.agg [.int _ _, .int _ _, .int _ _, .int _ _, .int _ _, .int _ _, .int _ _, .int _ _, .int _ _, .int _ _, .int _ _, .int _ _, _, _, .int _ _, .int _ _, .int _ _, .int _ _, .int _ _, .int _ _, .int _ _, .int _ _]) [_, _, _, _, _, _, _, _, _, _, _, _, _, _, _, _, _, _, _, _, _, _] [[_, _, _, _, _, _, _, _, _, _, _, _, _, _, _, _, _, _, _, _, _, _]] ?_
            refine zn ?_
            refine zs ?_
            refine zR ?_
            refine zLG [.int _ _, .int _ _, .int _ _, .int _ _, .int _ _, .int _ _, .int _ _, .int _ _, .int _ _, .int _ _, .int _ _, .int _ _, _, _, .int _ _, .int _ _, .int _ _, .int _ _, .int _ _, .int _ _, .int _ _, .int _ _] ?_
            refine zLA ?_
            refine zLc (model_op (m.Ops.getD k default) l) ?_
            refine zLT [_, _, _] ?_
            refine zLG [.int _ _, .int _ _, .int _ _] ?_
            refine zLI ?_
            refine zLI ?_
            refine zal [.int .i64 0, .int .i64 0, .int .i64 0] 3 ?_
            refine zst (.agg [.int _ _, .int _ _, .int _ _]) [_, _, _] [[_, _, _]] ?_
            refine zLI ?_
            refine zLI ?_
            refine zn ?_
            refine zs ?_
            refine zR ?_
            refine zLI ?_
            refine zLI ?_
            refine zLI ?_
            refine zLI ?_
            refine zn ?_
            refine zs ?_
            refine zs ?_
            refine zR ?_
            refine zLI ?_
            refine zLB ?_
            refine zLB ?_
            refine zgLI ?_
            refine zgLB ?_
            refine zpLB ?_
            refine zn ?_
            refine W_cond (b := _) rfl (fun h86 => ?_) (fun h86 => ?_)
            · refine zR ?_
              refine zLI ?_
              refine zn ?_
              refine zs ?_
              refine zs ?_
              refine zR ?_
              refine zLI ?_
              refine zLB ?_
              refine zn ?_
              refine W_cond (b := _) rfl (fun h88 => ?_) (fun h88 => ?_)
              · refine zs ?_
                refine zR ?_
                refine zLI ?_
                refine zLI ?_
                refine zLI ?_
                refine zLG [.int _ _, .int _ _, .int _ _] ?_
                refine zLN ?_
                refine zLI ?_
                refine zst (.agg [.int _ _, .int _ _, .int _ _]) [_, _, _] [[_, _, _]] ?_
                refine zn ?_
                refine zt ?_
                (refine ends (l := [.nils, .int _ _, .agg [.int _ _, .int _ _, .int _ _]]) (q := .tup [.ro _, .int _ _, .agg [.int _ _, .int _ _, .int _ _]]) (.inr rfl) rfl ⟨trivial, trivial, rfl, trivial⟩ rfl rfl ?_)
                try replace h20 : wh1 m = true := h20
                try replace h20 : wh1 m = false := h20
                try replace h25 : wh2 m = true := h25
                try replace h25 : wh2 m = false := h25
                try replace h41 : wh3 m = true := h41
                try replace h41 : wh3 m = false := h41
                try replace h47 : wh4 m = true := h47
                try replace h47 : wh4 m = false := h47
                first
                | (simp [wholeF, *, faultC]; done)
                | (simp only [List.length_map] at h67
                   rcases Nat.lt_or_ge k m.Ops.length with hlt | hge
                   · first
                     | (rw [hw, wgo_bad hlt (werr_big (show wbig (m.Ops.getD k default) l s = true from h86)) (show ((86 : Int) != 0) = true from h88)]; rfl)
                     | (rw [hw, wgo_bad hlt (werr_ok (show wbig (m.Ops.getD k default) l s = false from h86)) (show (opE (m.Ops.getD k default) l != 0) = true from h88_1)]; rfl)
                     | (simp at h67; omega)
                   · have he : k = m.Ops.length := Nat.le_antisymm hk hge
                     subst he
                     (simp at h67; done))
              · refine zk ?_
                refine zR ?_
                refine zLA ?_
                refine zLG [.int _ _, .int _ _, .int _ _] ?_
                refine L_build Tb_ok (t := 93) (len := 1) (el := 23) (sz := 3) (es := [[_, _, _]]) (z := [.int .i64 0, .int .i64 0, .int .i64 0]) rfl rfl rfl rfl rfl (by decide) trivial rfl rfl rfl rfl rfl ?_
                refine L_app1 Tb_ok (xs := l) (v := opS (m.Ops.getD k default) l) (el := 23) (sz := 3) rfl rfl rfl rfl rfl ⟨trivial, trivial⟩ (fun _ => ⟨rfl, rfl⟩) (by rw [show (Tb.at 23).bytes = 24 from rfl]; omega) rfl ?_
                refine zLA ?_
                refine zn ?_
                refine zR ?_
                refine zLI ?_
                refine zLI ?_
                refine zn ?_
                have hlt : k < m.Ops.length := by simpa using h67
                refine round_end ⟨k + 1, l ++ [opS (m.Ops.getD k default) l], w64 (s + opW (m.Ops.getD k default) l), hlt, by simp [hl], hm, ?_⟩ (by dsimp only; omega) (le_fit ⟨rfl, rfl, rfl, rfl, rfl, rfl, congrArg _ (w_succ hlt (by omega)), trivial⟩ ⟨.inr rfl, .inr rfl, trivial⟩ ⟨.inr rfl, trivial⟩ rfl rfl rfl rfl rfl)
                first
                | (rw [hw]; exact wgo_good hlt (werr_big (show wbig (m.Ops.getD k default) l s = true from h86)) (show ((86 : Int) != 0) = false from h88))
                | (rw [hw]; exact wgo_good hlt (werr_ok (show wbig (m.Ops.getD k default) l s = false from h86)) (show (opE (m.Ops.getD k default) l != 0) = false from h88_1))
            · refine zk ?_
              refine zs ?_
              refine zs ?_
              refine zR ?_
              refine zLI ?_
              refine zLB ?_
              refine zn ?_
              refine W_cond (b := _) rfl (fun h88_1 => ?_) (fun h88_1 => ?_)
              · refine zs ?_
                refine zR ?_
                refine zLI ?_
                refine zLI ?_
                refine zLI ?_
                refine zLG [.int _ _, .int _ _, .int _ _] ?_
                refine zLN ?_
                refine zLI ?_
                refine zst (.agg [.int _ _, .int _ _, .int _ _]) [_, _, _] [[_, _, _]] ?_
                refine zn ?_
                refine zt ?_
                (refine ends (l := [.nils, .int _ _, .agg [.int _ _, .int _ _, .int _ _]]) (q := .tup [.ro _, .int _ _, .agg [.int _ _, .int _ _, .int _ _]]) (.inr rfl) rfl ⟨trivial, trivial, rfl, trivial⟩ rfl rfl ?_)
                try replace h20 : wh1 m = true := h20
                try replace h20 : wh1 m = false := h20
                try replace h25 : wh2 m = true := h25
                try replace h25 : wh2 m = false := h25
                try replace h41 : wh3 m = true := h41
                try replace h41 : wh3 m = false := h41
                try replace h47 : wh4 m = true := h47
                try replace h47 : wh4 m = false := h47
                first
                | (simp [wholeF, *, faultC]; done)
                | (simp only [List.length_map] at h67
                   rcases Nat.lt_or_ge k m.Ops.length with hlt | hge
                   · first
                     | (rw [hw, wgo_bad hlt (werr_big (show wbig (m.Ops.getD k default) l s = true from h86)) (show ((86 : Int) != 0) = true from h88)]; rfl)
                     | (rw [hw, wgo_bad hlt (werr_ok (show wbig (m.Ops.getD k default) l s = false from h86)) (show (opE (m.Ops.getD k default) l != 0) = true from h88_1)]; rfl)
                     | (simp at h67; omega)
                   · have he : k = m.Ops.length := Nat.le_antisymm hk hge
                     subst he
                     (simp at h67; done))
              · refine zk ?_
                refine zR ?_
                refine zLA ?_
                refine zLG [.int _ _, .int _ _, .int _ _] ?_
                refine L_build Tb_ok (t := 93) (len := 1) (el := 23) (sz := 3) (es := [[_, _, _]]) (z := [.int .i64 0, .int .i64 0, .int .i64 0]) rfl rfl rfl rfl rfl (by decide) trivial rfl rfl rfl rfl rfl ?_
                refine L_app1 Tb_ok (xs := l) (v := opS (m.Ops.getD k default) l) (el := 23) (sz := 3) rfl rfl rfl rfl rfl ⟨trivial, trivial⟩ (fun _ => ⟨rfl, rfl⟩) (by rw [show (Tb.at 23).bytes = 24 from rfl]; omega) rfl ?_
                refine zLA ?_
                refine zn ?_
                refine zR ?_
                refine zLI ?_
                refine zLI ?_
                refine zn ?_
                have hlt : k < m.Ops.length := by simpa using h67
                refine round_end ⟨k + 1, l ++ [opS (m.Ops.getD k default) l], w64 (s + opW (m.Ops.getD k default) l), hlt, by simp [hl], hm, ?_⟩ (by dsimp only; omega) (le_fit ⟨rfl, rfl, rfl, rfl, rfl, rfl, congrArg _ (w_succ hlt (by omega)), trivial⟩ ⟨.inr rfl, .inr rfl, trivial⟩ ⟨.inr rfl, trivial⟩ rfl rfl rfl rfl rfl)
                first
                | (rw [hw]; exact wgo_good hlt (werr_big (show wbig (m.Ops.getD k default) l s = true from h86)) (show ((86 : Int) != 0) = false from h88))
                | (rw [hw]; exact wgo_good hlt (werr_ok (show wbig (m.Ops.getD k default) l s = false from h86)) (show (opE (m.Ops.getD k default) l != 0) = false from h88_1))
          · refine W_exit ?_
            repeat (first | refine pass_then ?_ | refine pass_round ?_)
            refine blockQ_hit ?_
            refine zs ?_
            refine zR ?_
            refine zLA ?_
            refine zLI ?_
            refine zLG [.int _ _, .int _ _, .int _ _] ?_
            refine zLA ?_
            refine zLI ?_
            refine zst (.agg [.int _ _, .int _ _, .int _ _]) [_, _, _] [[_, _, _]] ?_
            refine zn ?_
            refine zt ?_
            (refine ends (l := [.app _ _, .int _ _, .agg [.int _ _, .int _ _, .int _ _]]) (q := .tup [.ro _, .int _ _, .agg [.int _ _, .int _ _, .int _ _]]) (.inr rfl) rfl ⟨trivial, trivial, rfl, trivial⟩ rfl rfl ?_)
            try replace h20 : wh1 m = true := h20
            try replace h20 : wh1 m = false := h20
            try replace h25 : wh2 m = true := h25
            try replace h25 : wh2 m = false := h25
            try replace h41 : wh3 m = true := h41
            try replace h41 : wh3 m = false := h41
            try replace h47 : wh4 m = true := h47
            try replace h47 : wh4 m = false := h47
            first
            | (simp [wholeF, *, faultC]; done)
            | (simp only [List.length_map] at h67
               rcases Nat.lt_or_ge k m.Ops.length with hlt | hge
               · first
                 | (rw [hw, wgo_bad hlt (werr_big (show wbig (m.Ops.getD k default) l s = true from h86)) (show ((86 : Int) != 0) = true from h88)]; rfl)
                 | (rw [hw, wgo_bad hlt (werr_ok (show wbig (m.Ops.getD k default) l s = false from h86)) (show (opE (m.Ops.getD k default) l != 0) = true from h88_1)]; rfl)
                 | (simp at h67; omega)
               · have he : k = m.Ops.length := Nat.le_antisymm hk hge
                 subst he
                 (rw [hw, List.drop_length, wgo]; rfl))
end Go.AM
end
section
open Go Go.AM Go.Proofs
set_option maxRecDepth 10000
set_option linter.unusedVariables false
set_option linter.unusedSimpArgs false
namespace Go.AM
theorem opE_ok {o : MOp} {l : List Shape} (h : opE o l = 0) : op1 o = false ∧ op2 o l = false ∧ op3 o = false ∧ op4 o = false ∧ mkE o (inA o l) = 0 ∧ op6 o l = false ∧ op7 o l = false ∧ op8 o l = false ∧ op9 o = false ∧ op10 o = false := by
  unfold opE at h
  cases h1 : op1 o <;> simp only [h1, if_true, if_false, Bool.false_eq_true] at h <;> try omega
  cases h2 : op2 o l <;> simp only [h2, if_true, if_false, Bool.false_eq_true] at h <;> try omega
  cases h3 : op3 o <;> simp only [h3, if_true, if_false, Bool.false_eq_true] at h <;> try omega
  cases h4 : op4 o <;> simp only [h4, if_true, if_false, Bool.false_eq_true] at h <;> try omega
  cases h5 : op5 o l <;> simp only [h5, if_true, if_false, Bool.false_eq_true] at h
  · have h5' : mkE o (inA o l) = 0 := by simpa [op5] using h5
    cases h6 : op6 o l <;> simp only [h6, if_true, if_false, Bool.false_eq_true] at h <;> try omega
    cases h7 : op7 o l <;> simp only [h7, if_true, if_false, Bool.false_eq_true] at h <;> try omega
    cases h8 : op8 o l <;> simp only [h8, if_true, if_false, Bool.false_eq_true] at h <;> try omega
    cases h9 : op9 o <;> simp only [h9, if_true, if_false, Bool.false_eq_true] at h <;> try omega
    cases h10 : op10 o <;> simp only [h10, if_true, if_false, Bool.false_eq_true] at h <;> try omega
    exact ⟨rfl, rfl, rfl, rfl, h5', rfl, rfl, rfl, rfl, rfl⟩
  · simp [op5, h] at h5
theorem opS_ok {o : MOp} {l : List Shape} (h : opE o l = 0) : opS o l = mkS o (inA o l) := by
  obtain ⟨h1, h2, h3, h4, h5, h6, h7, h8, h9, h10⟩ := opE_ok h
  have h5' : op5 o l = false := by simp [op5, h5]
  simp [opS, h1, h2, h3, h4, h5', h6, h7, h8, h9, h10]
theorem werr_zero {o : MOp} {l : List Shape} {s : Int} (h : (werr o l s != 0) = false) : opE o l = 0 := by
  cases hb : wbig o l s
  · rw [werr_ok hb] at h; simpa using h
  · rw [werr_big hb] at h; simp at h
theorem wgo_ok : ∀ (r : List MOp) (k : Nat) (l : List Shape) (s : Int), k + r.length < 1000 → (wgo r k l s).2.2.Err = 0 → ∃ L, (wgo r k l s).1 = l ++ L ∧ L.length = r.length ∧ ∀ i, i < r.length → opE (r.getD i default) (l ++ L.take i) = 0 ∧ L.getD i default = opS (r.getD i default) (l ++ L.take i)
  | [], k, l, s, _, h => ⟨[], by simp [wgo], rfl, fun i hi => by simp at hi⟩
  | o :: r, k, l, s, hk, h => by
    rw [wgo] at h ⊢
    cases hw : werr o l s != 0 with
    | true =>
      rw [hw] at h
      simp at hw
      exact absurd h hw
    | false =>
      rw [hw] at h
      obtain ⟨L, h1, h2, h3⟩ := wgo_ok r (k + 1) _ _ (by simp at hk; omega) h
      refine ⟨opS o l :: L, ?_, by simp [h2], fun i hi => ?_⟩
      · show (wgo r (k + 1) (l ++ [opS o l]) _).1 = _
        rw [h1]; simp
      · cases i with
        | zero => exact ⟨by simpa using werr_zero hw, by simp⟩
        | succ i =>
          have := h3 i (by simpa using hi)
          simpa using this
/-- a model without fault -/
theorem whole_ok {m : Model} (h : (wholeF m).2.2.Err = 0) : m.Ops.length ≤ 64 ∧ shapeE m.In = 0 ∧ (0 ≤ m.Out ∧ m.Out ≤ m.Ops.length) ∧ (wholeF m).1.length = m.Ops.length + 1 ∧ (wholeF m).1.getD 0 default = m.In ∧
    ∀ i, i < m.Ops.length → opE (m.Ops.getD i default) ((wholeF m).1.take (i + 1)) = 0 ∧ (wholeF m).1.getD (i + 1) default = opS (m.Ops.getD i default) ((wholeF m).1.take (i + 1)) := by
  unfold wholeF at h ⊢
  cases h1 : wh1 m <;> simp only [h1, if_true, if_false, Bool.false_eq_true] at h ⊢
  cases h2 : wh2 m <;> simp only [h2, if_true, if_false, Bool.false_eq_true] at h ⊢
  cases h3 : wh3 m <;> simp only [h3, if_true, if_false, Bool.false_eq_true] at h ⊢
  cases h4 : wh4 m <;> simp only [h4, if_true, if_false, Bool.false_eq_true] at h ⊢
  · have hl : m.Ops.length ≤ 64 := by simp [wh3] at h3; omega
    obtain ⟨L, e1, e2, e3⟩ := wgo_ok m.Ops 0 [m.In] 0 (by omega) h
    refine ⟨hl, by simpa [wh1] using h1, ?_, by rw [e1]; simp [e2], by rw [e1]; simp, fun i hi => ?_⟩
    · simp [wh4] at h4; omega
    · have := e3 i hi
      rw [e1]
      simpa [List.take_succ_cons] using this
  · omega
  · omega
  · omega
  · simp [wh1] at h1; omega
theorem op2_ok {o : MOp} {l : List Shape} (h : op2 o l = false) : 0 ≤ o.A ∧ o.A < l.length ∧ ((ofU o.Kind).b = true → 0 ≤ o.B ∧ o.B < l.length) := by
  unfold op2 at h
  simp at h
  refine ⟨by omega, by omega, fun hb => ?_⟩
  have := h.2 hb
  omega
theorem whole_A {m : Model} (h : (wholeF m).2.2.Err = 0) {i : Nat} (hi : i < m.Ops.length) : 0 ≤ (m.Ops.getD i default).A ∧ (m.Ops.getD i default).A < i + 1 := by
  obtain ⟨_, _, _, h4, _, h6⟩ := whole_ok h
  have h2 := op2_ok (opE_ok (h6 i hi).1).2.1
  rw [List.length_take, h4] at h2
  omega
end Go.AM
end
section
open Go Go.AM Go.Proofs
set_option maxRecDepth 10000
set_option linter.unusedVariables false
set_option linter.unusedSimpArgs false
namespace Go.AM
theorem model_Shapes (m : Model) : Ok Try.prog 46 [.agg (modelC m)] (.tup [.ro ((wholeF m).1.map shapeC), .agg (faultC (wholeF m).2.2)]) := by
  refine fn_ok Tb_ok (fn := Try.f46) Try.func46 rfl rfl (e := [(0, _)]) rfl (by decide) rfl ?_
  refine zs ?_
  refine zR ?_
  refine zbx [.int _ _, .int _ _, .int _ _, .int _ _, .int _ _, _, .int _ _] 7 ?_
  refine zLN ?_
  refine zal [.int .i64 0, .int .i64 0, .int .i64 0] 3 ?_
  refine zn ?_
  refine zs ?_
  refine zR ?_
  refine zLG [.int _ _, .int _ _, .int _ _, .int _ _, .int _ _, _, .int _ _] ?_
  refine zLc (model_whole m) ?_
  refine zLT [_, _, _] ?_
  refine zLO ?_
  refine zLI ?_
  refine zLG [.int _ _, .int _ _, .int _ _] ?_
  refine zal [.int .i64 0, .int .i64 0, .int .i64 0] 3 ?_
  refine zLO ?_
  refine zLI ?_
  refine zst (.agg [.int _ _, .int _ _, .int _ _]) [_, _, _] [[_, _, _]] ?_
  refine zn ?_
  refine zs ?_
  refine W_draw 3 Tb_mixed rfl (by decide) (by kernel_rfl) (by kernel_rfl) ?_
  refine zEO ?_
  refine zEG [.int _ _, .int _ _, .int _ _] ?_
  refine zEO ?_
  refine LexE_nil ?_
  refine zst (.agg [.int _ _, .int _ _, .int _ _]) [_, _, _] [[_, _, _]] ?_
  refine zn ?_
  refine zt ?_
  (refine ends (l := [.ro _, .agg [.int _ _, .int _ _, .int _ _]]) (q := .tup [.ro _, .agg [.int _ _, .int _ _, .int _ _]]) (.inr rfl) rfl ⟨trivial, rfl, trivial⟩ rfl rfl ?_)
  rfl
/-- an op that reduces, with its shapes -/
structure Site where
  (Op : MOp) (In Out : Shape) (Len : Int)
  deriving DecidableEq, Inhabited
def siteC (s : Site) : List AV := opC s.Op ++ (shapeC s.In ++ (shapeC s.Out ++ [.int .i64 s.Len]))
def site0 : Site := ⟨⟨0, 0, 0, 0, ⟨0, 0, 0, 0, 0, 0, 0, 0⟩, [], [], ⟨0, 0⟩, ⟨0, 0⟩, 0, 0, 0, 0⟩, ⟨0, 0, 0⟩, ⟨0, 0, 0⟩, 0⟩
def fi1 (m : Model) : Bool := (wholeF m).2.2.Err != 0
def fi2 (m : Model) (op : Int) : Bool := bif decide (op < 1) then true else decide (op > ((m.Ops.map opC).length : Int))
def opAt (m : Model) (op : Int) : MOp := m.Ops.getD (op - 1).toNat default
def fi3 (m : Model) (op : Int) : Bool := !inB (opAt m op).Kind 1 4
def findE (m : Model) (op : Int) : Int := if fi1 m then (wholeF m).2.2.Err else if fi2 m op then 3 else if fi3 m op then 81 else 0
def aAt (m : Model) (op : Int) : Shape := (wholeF m).1.getD (opAt m op).A.toNat default
def lenAt (m : Model) (op : Int) : Int := if (opAt m op).Kind = 1 then w64 (w64 ((aAt m op).H * (aAt m op).W) * (aAt m op).C) else if (opAt m op).Kind = 2 then w64 (w64 ((opAt m op).Win.KH * (opAt m op).Win.KW) * (aAt m op).C) else w64 ((opAt m op).Win.KH * (opAt m op).Win.KW)
def findS (m : Model) (op : Int) : Site := if fi1 m then site0 else if fi2 m op then site0 else if fi3 m op then site0 else ⟨opAt m op, aAt m op, (wholeF m).1.getD op.toNat default, lenAt m op⟩
theorem fi_ok {m : Model} {op : Int} (h1 : fi1 m = false) (h2 : fi2 m op = false) : 1 ≤ op ∧ op ≤ m.Ops.length ∧ IntKind.i64.wrap (op - 1) = op - 1 ∧ op < (wholeF m).1.length ∧ 0 ≤ (opAt m op).A ∧ (opAt m op).A < (wholeF m).1.length := by
  have he : (wholeF m).2.2.Err = 0 := by simpa [fi1] using h1
  obtain ⟨k1, _, _, k4, _, _⟩ := whole_ok he
  have ho : 1 ≤ op ∧ op ≤ m.Ops.length := by simp [fi2] at h2; omega
  have hA := whole_A he (i := (op - 1).toNat) (by omega)
  refine ⟨ho.1, ho.2, by rw [IntKind.wrap_i64]; omega, by rw [k4]; omega, hA.1, ?_⟩
  have := hA.2
  rw [k4]
  show (m.Ops.getD (op - 1).toNat default).A < _
  omega
theorem terms_find (m : Model) (op : Int) : Ok Try.prog 40 [.agg (modelC m), .int .i64 op] (.tup [.agg (siteC (findS m op)), .int .i64 (findE m op)]) := by
  refine fn_ok Tb_ok (fn := Try.f40) Try.func40 rfl rfl (e := [(0, _), (1, _)]) rfl (by decide) rfl ?_
  refine zs ?_
  refine zR ?_
  refine zbx [.int _ _, .int _ _, .int _ _, .int _ _, .int _ _, _, .int _ _] 7 ?_
  refine zal [.int .i64 0, .int .i64 0, .int .i64 0, .int .i64 0, .int .i64 0, .int .i64 0, .int .i64 0, .int .i64 0, .int .i64 0, .int .i64 0, .int .i64 0, .int .i64 0, .nils, .nils, .int .i64 0, .int .i64 0, .int .i64 0, .int .i64 0, .int .i64 0, .int .i64 0, .int .i64 0, .int .i64 0, .int .i64 0, .int .i64 0, .int .i64 0, .int .i64 0, .int .i64 0, .int .i64 0, .int .i64 0] 29 ?_
  refine zLI ?_
  refine zn ?_
  refine zs ?_
  refine zR ?_
  refine zLG [.int _ _, .int _ _, .int _ _, .int _ _, .int _ _, _, .int _ _] ?_
  refine zLc (model_Shapes m) ?_
  refine zLT [_, _] ?_
  refine zLO ?_
  refine zLG [.int _ _, .int _ _, .int _ _] ?_
  refine zal [.int .i64 0, .int .i64 0, .int .i64 0] 3 ?_
  refine zLO ?_
  refine zst (.agg [.int _ _, .int _ _, .int _ _]) [_, _, _] [[_, _, _]] ?_
  refine zn ?_
  refine zs ?_
  refine W_block ?_
  refine zs ?_
  refine zR ?_
  refine zLP ?_
  refine zLI ?_
  refine zLB ?_
  refine zLB ?_
  refine zn ?_
  refine W_cond (b := _) rfl (fun h14 => ?_) (fun h14 => ?_)
  · replace h14 : fi1 m = true := h14
    refine zs ?_
    refine W_drawF (fun e => [idOf (get e 4)]) 3 [[3, 4]] Tb_mixed rfl (by decide) (by kernel_rfl) ?_
    refine zSG [.int _ _, .int _ _, .int _ _, .int _ _, .int _ _, .int _ _, .int _ _, .int _ _, .int _ _, .int _ _, .int _ _, .int _ _, _, _, .int _ _, .int _ _, .int _ _, .int _ _, .int _ _, .int _ _, .int _ _, .int _ _, .int _ _, .int _ _, .int _ _, .int _ _, .int _ _, .int _ _, .int _ _] ?_
    refine zSP ?_
    refine zSI ?_
    refine S_nil ?_
    refine TT_one ?_
    refine TT_store Tb_ok (OSub_forget _ _) rfl (v := .agg [.int _ _, .int _ _, .int _ _, .int _ _, .int _ _, .int _ _, .int _ _, .int _ _, .int _ _, .int _ _, .int _ _, .int _ _, _, _, .int _ _, .int _ _, .int _ _, .int _ _, .int _ _, .int _ _, .int _ _, .int _ _, .int _ _, .int _ _, .int _ _, .int _ _, .int _ _, .int _ _, .int _ _]) (cs := [_, _, _, _, _, _, _, _, _, _, _, _, _, _, _, _, _, _, _, _, _, _, _, _, _, _, _, _, _]) (es' := [[_, _, _, _, _, _, _, _, _, _, _, _, _, _, _, _, _, _, _, _, _, _, _, _, _, _, _, _, _]]) rfl rfl rfl rfl rfl rfl rfl rfl rfl rfl rfl ⟨trivial, trivial⟩ (fun ht1 => ?_)
    refine TT_v Tb_ok ht1 rfl (v := .int _ _) (av rfl ⟨trivial, trivial⟩) rfl (fun ht2 => ?_)
    refine TT_nil ?_
    clear ht1 ht2
    refine zt ?_
    refine ends (l := [.agg [.int _ _, .int _ _, .int _ _, .int _ _, .int _ _, .int _ _, .int _ _, .int _ _, .int _ _, .int _ _, .int _ _, .int _ _, _, _, .int _ _, .int _ _, .int _ _, .int _ _, .int _ _, .int _ _, .int _ _, .int _ _, .int _ _, .int _ _, .int _ _, .int _ _, .int _ _, .int _ _, .int _ _], .int _ _]) (q := .tup [.agg [.int _ _, .int _ _, .int _ _, .int _ _, .int _ _, .int _ _, .int _ _, .int _ _, .int _ _, .int _ _, .int _ _, .int _ _, _, _, .int _ _, .int _ _, .int _ _, .int _ _, .int _ _, .int _ _, .int _ _, .int _ _, .int _ _, .int _ _, .int _ _, .int _ _, .int _ _, .int _ _, .int _ _], .int _ _]) (.inr rfl) rfl ⟨rfl, trivial, trivial⟩ rfl rfl ?_
    (simp [findS, findE, *, siteC, site0, opC, shapeC, demC]; done)
  · replace h14 : fi1 m = false := h14
    refine zs ?_
    refine zR ?_
    refine zLI ?_
    refine zLB ?_
    refine zLB ?_
    refine zgLI ?_
    refine zgLP ?_
    refine zgLO ?_
    refine zgLI ?_
    refine zgLB ?_
    refine zpLB ?_
    refine zLB ?_
    refine zn ?_
    refine W_cond (b := _) rfl (fun h21 => ?_) (fun h21 => ?_)
    · replace h21 : fi2 m op = true := h21
      refine zs ?_
      refine zR ?_
      refine zLG [.int _ _, .int _ _, .int _ _, .int _ _, .int _ _, .int _ _, .int _ _, .int _ _, .int _ _, .int _ _, .int _ _, .int _ _, _, _, .int _ _, .int _ _, .int _ _, .int _ _, .int _ _, .int _ _, .int _ _, .int _ _, .int _ _, .int _ _, .int _ _, .int _ _, .int _ _, .int _ _, .int _ _] ?_
      refine zst (.agg [.int _ _, .int _ _, .int _ _, .int _ _, .int _ _, .int _ _, .int _ _, .int _ _, .int _ _, .int _ _, .int _ _, .int _ _, _, _, .int _ _, .int _ _, .int _ _, .int _ _, .int _ _, .int _ _, .int _ _, .int _ _, .int _ _, .int _ _, .int _ _, .int _ _, .int _ _, .int _ _, .int _ _]) [_, _, _, _, _, _, _, _, _, _, _, _, _, _, _, _, _, _, _, _, _, _, _, _, _, _, _, _, _] [[_, _, _, _, _, _, _, _, _, _, _, _, _, _, _, _, _, _, _, _, _, _, _, _, _, _, _, _, _]] ?_
      refine zLI ?_
      refine zn ?_
      refine zt ?_
      refine ends (l := [.agg [.int _ _, .int _ _, .int _ _, .int _ _, .int _ _, .int _ _, .int _ _, .int _ _, .int _ _, .int _ _, .int _ _, .int _ _, _, _, .int _ _, .int _ _, .int _ _, .int _ _, .int _ _, .int _ _, .int _ _, .int _ _, .int _ _, .int _ _, .int _ _, .int _ _, .int _ _, .int _ _, .int _ _], .int _ _]) (q := .tup [.agg [.int _ _, .int _ _, .int _ _, .int _ _, .int _ _, .int _ _, .int _ _, .int _ _, .int _ _, .int _ _, .int _ _, .int _ _, _, _, .int _ _, .int _ _, .int _ _, .int _ _, .int _ _, .int _ _, .int _ _, .int _ _, .int _ _, .int _ _, .int _ _, .int _ _, .int _ _, .int _ _, .int _ _], .int _ _]) (.inr rfl) rfl ⟨rfl, trivial, trivial⟩ rfl rfl ?_
      (simp [findS, findE, *, siteC, site0, opC, shapeC, demC]; done)
    · replace h21 : fi2 m op = false := h21
      obtain ⟨o1, o2, o3, o4, o5, o6⟩ := fi_ok h14 h21
      have o7 : 0 ≤ (m.Ops.getD (IntKind.i64.wrap (op - 1)).toNat default).A ∧ (m.Ops.getD (IntKind.i64.wrap (op - 1)).toNat default).A < (wholeF m).1.length := by rw [o3]; exact ⟨o5, o6⟩
      obtain ⟨o7, o8⟩ := o7
      refine zs ?_
      refine zR ?_
      refine zLP ?_
      refine zLO ?_
      refine zLI ?_
      refine zLI ?_
      (refine L_v Tb_ok (v := _) (ave_index_ro rfl rfl rfl (fun _ => rfl) rfl (by first | omega | assumption | decide | (simp_all; done) | (simp_all; omega)) (by first | omega | assumption | decide | (simp_all; done) | (simp_all; omega)) trivial) rfl ?_)
      refine zLQ ?_
      refine zLI ?_
      refine zLc (model_Reduces _) ?_
      refine zLB ?_
      refine zLB ?_
      refine zn ?_
      refine W_cond (b := _) rfl (fun h32 => ?_) (fun h32 => ?_)
      · refine zs ?_
        refine zR ?_
        refine zLG [.int _ _, .int _ _, .int _ _, .int _ _, .int _ _, .int _ _, .int _ _, .int _ _, .int _ _, .int _ _, .int _ _, .int _ _, _, _, .int _ _, .int _ _, .int _ _, .int _ _, .int _ _, .int _ _, .int _ _, .int _ _, .int _ _, .int _ _, .int _ _, .int _ _, .int _ _, .int _ _, .int _ _] ?_
        refine zst (.agg [.int _ _, .int _ _, .int _ _, .int _ _, .int _ _, .int _ _, .int _ _, .int _ _, .int _ _, .int _ _, .int _ _, .int _ _, _, _, .int _ _, .int _ _, .int _ _, .int _ _, .int _ _, .int _ _, .int _ _, .int _ _, .int _ _, .int _ _, .int _ _, .int _ _, .int _ _, .int _ _, .int _ _]) [_, _, _, _, _, _, _, _, _, _, _, _, _, _, _, _, _, _, _, _, _, _, _, _, _, _, _, _, _] [[_, _, _, _, _, _, _, _, _, _, _, _, _, _, _, _, _, _, _, _, _, _, _, _, _, _, _, _, _]] ?_
        refine zLI ?_
        refine zn ?_
        refine zt ?_
        refine ends (l := [.agg [.int _ _, .int _ _, .int _ _, .int _ _, .int _ _, .int _ _, .int _ _, .int _ _, .int _ _, .int _ _, .int _ _, .int _ _, _, _, .int _ _, .int _ _, .int _ _, .int _ _, .int _ _, .int _ _, .int _ _, .int _ _, .int _ _, .int _ _, .int _ _, .int _ _, .int _ _, .int _ _, .int _ _], .int _ _]) (q := .tup [.agg [.int _ _, .int _ _, .int _ _, .int _ _, .int _ _, .int _ _, .int _ _, .int _ _, .int _ _, .int _ _, .int _ _, .int _ _, _, _, .int _ _, .int _ _, .int _ _, .int _ _, .int _ _, .int _ _, .int _ _, .int _ _, .int _ _, .int _ _, .int _ _, .int _ _, .int _ _, .int _ _, .int _ _], .int _ _]) (.inr rfl) rfl ⟨rfl, trivial, trivial⟩ rfl rfl ?_
        (simp_all [fi3, findS, findE, siteC, site0, lenAt, opC, shapeC, demC, opAt, aAt, w64]; done)
      · refine zk ?_
        refine zs ?_
        refine W_drawF (fun e => []) 11 [[11, 12]] Tb_mixed rfl (by decide) (by kernel_rfl) ?_
        refine zSP ?_
        refine zSO ?_
        refine zSI ?_
        refine zSI ?_
        (refine S_v Tb_ok (v := _) (ave_index_ro rfl rfl rfl (fun _ => rfl) rfl (by first | omega | assumption | decide | (simp_all; done) | (simp_all; omega)) (by first | omega | assumption | decide | (simp_all; done) | (simp_all; omega)) trivial) rfl ?_)
        refine zSG [.int _ _, .int _ _, .int _ _, .int _ _, .int _ _, .int _ _, .int _ _, .int _ _, .int _ _, .int _ _, .int _ _, .int _ _, _, _, .int _ _, .int _ _, .int _ _, .int _ _, .int _ _, .int _ _, .int _ _, .int _ _] ?_
        refine zSO ?_
        refine zSI ?_
        (refine S_v Tb_ok (v := _) (ave_index_ro rfl rfl rfl (fun _ => rfl) rfl (by first | omega | assumption | decide | (simp_all; done) | (simp_all; omega)) (by first | omega | assumption | decide | (simp_all; done) | (simp_all; omega)) trivial) rfl ?_)
        refine zSG [.int _ _, .int _ _, .int _ _] ?_
        refine zSG [.int _ _, .int _ _, .int _ _, .int _ _, .int _ _, .int _ _, .int _ _, .int _ _, .int _ _, .int _ _, .int _ _, .int _ _, _, _, .int _ _, .int _ _, .int _ _, .int _ _, .int _ _, .int _ _, .int _ _, .int _ _, .int _ _, .int _ _, .int _ _, .int _ _, .int _ _, .int _ _, .int _ _] ?_
        refine S_nil ?_
        refine TT_one ?_
        refine TT_alloc Tb_ok (OSub_forget _ _) rfl (z := [.int .i64 0, .int .i64 0, .int .i64 0, .int .i64 0, .int .i64 0, .int .i64 0, .int .i64 0, .int .i64 0, .int .i64 0, .int .i64 0, .int .i64 0, .int .i64 0, .nils, .nils, .int .i64 0, .int .i64 0, .int .i64 0, .int .i64 0, .int .i64 0, .int .i64 0, .int .i64 0, .int .i64 0, .int .i64 0, .int .i64 0, .int .i64 0, .int .i64 0, .int .i64 0, .int .i64 0, .int .i64 0]) (n := 29) rfl rfl rfl rfl rfl rfl (fun ht1 => ?_)
        refine TT_store Tb_ok ht1 rfl (v := .agg [.int _ _, .int _ _, .int _ _, .int _ _, .int _ _, .int _ _, .int _ _, .int _ _, .int _ _, .int _ _, .int _ _, .int _ _, _, _, .int _ _, .int _ _, .int _ _, .int _ _, .int _ _, .int _ _, .int _ _, .int _ _, .int _ _, .int _ _, .int _ _, .int _ _, .int _ _, .int _ _, .int _ _]) (cs := [_, _, _, _, _, _, _, _, _, _, _, _, _, _, _, _, _, _, _, _, _, _, _, _, _, _, _, _, _]) (es' := [[_, _, _, _, _, _, _, _, _, _, _, _, _, _, _, _, _, _, _, _, _, _, _, _, _, _, _, _, _]]) rfl rfl rfl rfl rfl rfl rfl rfl rfl rfl rfl ⟨trivial, trivial⟩ (fun ht2 => ?_)
        refine TT_nil ?_
        clear ht1 ht2
        refine zs ?_
        refine zR ?_
        refine zLO ?_
        refine zLP ?_
        refine zLP ?_
        refine zLI ?_
        (refine L_v Tb_ok (v := _) (ave_index_ro rfl rfl rfl (fun _ => rfl) rfl (by first | omega | assumption | decide | (simp_all; done) | (simp_all; omega)) (by first | omega | assumption | decide | (simp_all; done) | (simp_all; omega)) trivial) rfl ?_)
        refine zLG [.int _ _, .int _ _, .int _ _] ?_
        refine zLP ?_
        refine zst (.agg [.int _ _, .int _ _, .int _ _]) [_, _, _] [[_, _, _, _, _, _, _, _, _, _, _, _, _, _, _, _, _, _, _, _, _, _, _, _, _, _, _, _, _]] ?_
        refine zn ?_
        refine zs ?_
        refine zR ?_
        refine zLP ?_
        refine zLP ?_
        refine zLP ?_
        refine zLI ?_
        refine zLP ?_
        refine zLP ?_
        refine zLP ?_
        refine zLI ?_
        refine zLI ?_
        refine zLP ?_
        refine zst (.int _ _) [_] [[_, _, _, _, _, _, _, _, _, _, _, _, _, _, _, _, _, _, _, _, _, _, _, _, _, _, _, _, _]] ?_
        refine zn ?_
        refine zs ?_
        refine zs ?_
        refine zR ?_
        refine zLP ?_
        refine zLP ?_
        refine zLI ?_
        refine zn ?_
        refine W_block ?_
        refine zs ?_
        refine zR ?_
        refine zLB ?_
        refine zLB ?_
        refine zn ?_
        refine W_cond (b := _) rfl (fun h74 => ?_) (fun h74 => ?_)
        · refine zR ?_
          refine zLP ?_
          refine zLP ?_
          refine zLI ?_
          refine zLP ?_
          refine zLP ?_
          refine zLI ?_
          refine zLI ?_
          refine zLP ?_
          refine zLP ?_
          refine zLI ?_
          refine zLI ?_
          refine zLP ?_
          refine zst (.int _ _) [_] [[_, _, _, _, _, _, _, _, _, _, _, _, _, _, _, _, _, _, _, _, _, _, _, _, _, _, _, _, _]] ?_
          refine zn ?_
          refine zs ?_
          refine zR ?_
          refine zLG [.int _ _, .int _ _, .int _ _, .int _ _, .int _ _, .int _ _, .int _ _, .int _ _, .int _ _, .int _ _, .int _ _, .int _ _, _, _, .int _ _, .int _ _, .int _ _, .int _ _, .int _ _, .int _ _, .int _ _, .int _ _, .int _ _, .int _ _, .int _ _, .int _ _, .int _ _, .int _ _, .int _ _] ?_
          refine zst (.agg [.int _ _, .int _ _, .int _ _, .int _ _, .int _ _, .int _ _, .int _ _, .int _ _, .int _ _, .int _ _, .int _ _, .int _ _, _, _, .int _ _, .int _ _, .int _ _, .int _ _, .int _ _, .int _ _, .int _ _, .int _ _, .int _ _, .int _ _, .int _ _, .int _ _, .int _ _, .int _ _, .int _ _]) [_, _, _, _, _, _, _, _, _, _, _, _, _, _, _, _, _, _, _, _, _, _, _, _, _, _, _, _, _] [[_, _, _, _, _, _, _, _, _, _, _, _, _, _, _, _, _, _, _, _, _, _, _, _, _, _, _, _, _]] ?_
          refine zLI ?_
          refine zn ?_
          refine zt ?_
          refine ends (l := [.agg [.int _ _, .int _ _, .int _ _, .int _ _, .int _ _, .int _ _, .int _ _, .int _ _, .int _ _, .int _ _, .int _ _, .int _ _, _, _, .int _ _, .int _ _, .int _ _, .int _ _, .int _ _, .int _ _, .int _ _, .int _ _, .int _ _, .int _ _, .int _ _, .int _ _, .int _ _, .int _ _, .int _ _], .int _ _]) (q := .tup [.agg [.int _ _, .int _ _, .int _ _, .int _ _, .int _ _, .int _ _, .int _ _, .int _ _, .int _ _, .int _ _, .int _ _, .int _ _, _, _, .int _ _, .int _ _, .int _ _, .int _ _, .int _ _, .int _ _, .int _ _, .int _ _, .int _ _, .int _ _, .int _ _, .int _ _, .int _ _, .int _ _, .int _ _], .int _ _]) (.inr rfl) rfl ⟨rfl, trivial, trivial⟩ rfl rfl ?_
          (simp_all [fi3, findS, findE, siteC, site0, lenAt, opC, shapeC, demC, opAt, aAt, w64]; done)
        · refine zs ?_
          refine zR ?_
          refine zLB ?_
          refine zLB ?_
          refine zn ?_
          refine W_cond (b := _) rfl (fun h88 => ?_) (fun h88 => ?_)
          · refine zR ?_
            refine zLP ?_
            refine zLI ?_
            refine zLP ?_
            refine zLP ?_
            refine zLI ?_
            refine zLI ?_
            refine zLP ?_
            refine zst (.int _ _) [_] [[_, _, _, _, _, _, _, _, _, _, _, _, _, _, _, _, _, _, _, _, _, _, _, _, _, _, _, _, _]] ?_
            refine zn ?_
            refine zs ?_
            refine zR ?_
            refine zLG [.int _ _, .int _ _, .int _ _, .int _ _, .int _ _, .int _ _, .int _ _, .int _ _, .int _ _, .int _ _, .int _ _, .int _ _, _, _, .int _ _, .int _ _, .int _ _, .int _ _, .int _ _, .int _ _, .int _ _, .int _ _, .int _ _, .int _ _, .int _ _, .int _ _, .int _ _, .int _ _, .int _ _] ?_
            refine zst (.agg [.int _ _, .int _ _, .int _ _, .int _ _, .int _ _, .int _ _, .int _ _, .int _ _, .int _ _, .int _ _, .int _ _, .int _ _, _, _, .int _ _, .int _ _, .int _ _, .int _ _, .int _ _, .int _ _, .int _ _, .int _ _, .int _ _, .int _ _, .int _ _, .int _ _, .int _ _, .int _ _, .int _ _]) [_, _, _, _, _, _, _, _, _, _, _, _, _, _, _, _, _, _, _, _, _, _, _, _, _, _, _, _, _] [[_, _, _, _, _, _, _, _, _, _, _, _, _, _, _, _, _, _, _, _, _, _, _, _, _, _, _, _, _]] ?_
            refine zLI ?_
            refine zn ?_
            refine zt ?_
            refine ends (l := [.agg [.int _ _, .int _ _, .int _ _, .int _ _, .int _ _, .int _ _, .int _ _, .int _ _, .int _ _, .int _ _, .int _ _, .int _ _, _, _, .int _ _, .int _ _, .int _ _, .int _ _, .int _ _, .int _ _, .int _ _, .int _ _, .int _ _, .int _ _, .int _ _, .int _ _, .int _ _, .int _ _, .int _ _], .int _ _]) (q := .tup [.agg [.int _ _, .int _ _, .int _ _, .int _ _, .int _ _, .int _ _, .int _ _, .int _ _, .int _ _, .int _ _, .int _ _, .int _ _, _, _, .int _ _, .int _ _, .int _ _, .int _ _, .int _ _, .int _ _, .int _ _, .int _ _, .int _ _, .int _ _, .int _ _, .int _ _, .int _ _, .int _ _, .int _ _], .int _ _]) (.inr rfl) rfl ⟨rfl, trivial, trivial⟩ rfl rfl ?_
            (simp_all [fi3, findS, findE, siteC, site0, lenAt, opC, shapeC, demC, opAt, aAt, w64]; done)
          · refine zk ?_
            refine zs ?_
            refine zR ?_
            refine zLG [.int _ _, .int _ _, .int _ _, .int _ _, .int _ _, .int _ _, .int _ _, .int _ _, .int _ _, .int _ _, .int _ _, .int _ _, _, _, .int _ _, .int _ _, .int _ _, .int _ _, .int _ _, .int _ _, .int _ _, .int _ _, .int _ _, .int _ _, .int _ _, .int _ _, .int _ _, .int _ _, .int _ _] ?_
            refine zst (.agg [.int _ _, .int _ _, .int _ _, .int _ _, .int _ _, .int _ _, .int _ _, .int _ _, .int _ _, .int _ _, .int _ _, .int _ _, _, _, .int _ _, .int _ _, .int _ _, .int _ _, .int _ _, .int _ _, .int _ _, .int _ _, .int _ _, .int _ _, .int _ _, .int _ _, .int _ _, .int _ _, .int _ _]) [_, _, _, _, _, _, _, _, _, _, _, _, _, _, _, _, _, _, _, _, _, _, _, _, _, _, _, _, _] [[_, _, _, _, _, _, _, _, _, _, _, _, _, _, _, _, _, _, _, _, _, _, _, _, _, _, _, _, _]] ?_
            refine zLI ?_
            refine zn ?_
            refine zt ?_
            refine ends (l := [.agg [.int _ _, .int _ _, .int _ _, .int _ _, .int _ _, .int _ _, .int _ _, .int _ _, .int _ _, .int _ _, .int _ _, .int _ _, _, _, .int _ _, .int _ _, .int _ _, .int _ _, .int _ _, .int _ _, .int _ _, .int _ _, .int _ _, .int _ _, .int _ _, .int _ _, .int _ _, .int _ _, .int _ _], .int _ _]) (q := .tup [.agg [.int _ _, .int _ _, .int _ _, .int _ _, .int _ _, .int _ _, .int _ _, .int _ _, .int _ _, .int _ _, .int _ _, .int _ _, _, _, .int _ _, .int _ _, .int _ _, .int _ _, .int _ _, .int _ _, .int _ _, .int _ _, .int _ _, .int _ _, .int _ _, .int _ _, .int _ _, .int _ _, .int _ _], .int _ _]) (.inr rfl) rfl ⟨rfl, trivial, trivial⟩ rfl rfl ?_
            (simp_all [fi3, findS, findE, siteC, site0, lenAt, opC, shapeC, demC, opAt, aAt, w64]; done)
end Go.AM
end
section
open Go Go.AM Go.Proofs
set_option maxRecDepth 10000
set_option linter.unusedVariables false
set_option linter.unusedSimpArgs false
namespace Go.AM
theorem terms_Length (m : Model) (op : Int) : Ok Try.prog 38 [.agg (modelC m), .int .i64 op] (.tup [.int .i64 (findS m op).Len, .int .i64 (findE m op)]) := by
  refine fn_ok Tb_ok (fn := Try.f38) Try.func38 rfl rfl (e := [(0, _), (1, _)]) rfl (by decide) rfl ?_
  refine zs ?_
  refine zR ?_
  refine zbx [.int _ _, .int _ _, .int _ _, .int _ _, .int _ _, _, .int _ _] 7 ?_
  refine zLI ?_
  refine zLI ?_
  refine zn ?_
  refine zs ?_
  refine zR ?_
  refine zLG [.int _ _, .int _ _, .int _ _, .int _ _, .int _ _, _, .int _ _] ?_
  refine zLI ?_
  refine zLc (terms_find m op) ?_
  refine zLT [_, _] ?_
  refine zLG [.int _ _, .int _ _, .int _ _, .int _ _, .int _ _, .int _ _, .int _ _, .int _ _, .int _ _, .int _ _, .int _ _, .int _ _, _, _, .int _ _, .int _ _, .int _ _, .int _ _, .int _ _, .int _ _, .int _ _, .int _ _, .int _ _, .int _ _, .int _ _, .int _ _, .int _ _, .int _ _, .int _ _] ?_
  refine zLI ?_
  refine zal [.int .i64 0, .int .i64 0, .int .i64 0, .int .i64 0, .int .i64 0, .int .i64 0, .int .i64 0, .int .i64 0, .int .i64 0, .int .i64 0, .int .i64 0, .int .i64 0, .nils, .nils, .int .i64 0, .int .i64 0, .int .i64 0, .int .i64 0, .int .i64 0, .int .i64 0, .int .i64 0, .int .i64 0, .int .i64 0, .int .i64 0, .int .i64 0, .int .i64 0, .int .i64 0, .int .i64 0, .int .i64 0] 29 ?_
  refine zst (.agg [.int _ _, .int _ _, .int _ _, .int _ _, .int _ _, .int _ _, .int _ _, .int _ _, .int _ _, .int _ _, .int _ _, .int _ _, _, _, .int _ _, .int _ _, .int _ _, .int _ _, .int _ _, .int _ _, .int _ _, .int _ _, .int _ _, .int _ _, .int _ _, .int _ _, .int _ _, .int _ _, .int _ _]) [_, _, _, _, _, _, _, _, _, _, _, _, _, _, _, _, _, _, _, _, _, _, _, _, _, _, _, _, _] [[_, _, _, _, _, _, _, _, _, _, _, _, _, _, _, _, _, _, _, _, _, _, _, _, _, _, _, _, _]] ?_
  refine zLI ?_
  refine zn ?_
  refine zs ?_
  refine zR ?_
  refine zLP ?_
  refine zLI ?_
  refine zLI ?_
  refine zLI ?_
  refine zLI ?_
  refine zn ?_
  refine zt ?_
  refine ends (l := [.int _ _, .int _ _]) (q := .tup [.int _ _, .int _ _]) (.inr rfl) rfl ⟨trivial, trivial, trivial⟩ rfl rfl ?_
  rfl
theorem terms_Channels (m : Model) (op : Int) : Ok Try.prog 61 [.agg (modelC m), .int .i64 op] (.tup [.int .i64 (findS m op).Out.C, .int .i64 (findE m op)]) := by
  refine fn_ok Tb_ok (fn := Try.f61) Try.func61 rfl rfl (e := [(0, _), (1, _)]) rfl (by decide) rfl ?_
  refine zs ?_
  refine zR ?_
  refine zbx [.int _ _, .int _ _, .int _ _, .int _ _, .int _ _, _, .int _ _] 7 ?_
  refine zLI ?_
  refine zLI ?_
  refine zn ?_
  refine zs ?_
  refine zR ?_
  refine zLG [.int _ _, .int _ _, .int _ _, .int _ _, .int _ _, _, .int _ _] ?_
  refine zLI ?_
  refine zLc (terms_find m op) ?_
  refine zLT [_, _] ?_
  refine zLG [.int _ _, .int _ _, .int _ _, .int _ _, .int _ _, .int _ _, .int _ _, .int _ _, .int _ _, .int _ _, .int _ _, .int _ _, _, _, .int _ _, .int _ _, .int _ _, .int _ _, .int _ _, .int _ _, .int _ _, .int _ _, .int _ _, .int _ _, .int _ _, .int _ _, .int _ _, .int _ _, .int _ _] ?_
  refine zLI ?_
  refine zal [.int .i64 0, .int .i64 0, .int .i64 0, .int .i64 0, .int .i64 0, .int .i64 0, .int .i64 0, .int .i64 0, .int .i64 0, .int .i64 0, .int .i64 0, .int .i64 0, .nils, .nils, .int .i64 0, .int .i64 0, .int .i64 0, .int .i64 0, .int .i64 0, .int .i64 0, .int .i64 0, .int .i64 0, .int .i64 0, .int .i64 0, .int .i64 0, .int .i64 0, .int .i64 0, .int .i64 0, .int .i64 0] 29 ?_
  refine zst (.agg [.int _ _, .int _ _, .int _ _, .int _ _, .int _ _, .int _ _, .int _ _, .int _ _, .int _ _, .int _ _, .int _ _, .int _ _, _, _, .int _ _, .int _ _, .int _ _, .int _ _, .int _ _, .int _ _, .int _ _, .int _ _, .int _ _, .int _ _, .int _ _, .int _ _, .int _ _, .int _ _, .int _ _]) [_, _, _, _, _, _, _, _, _, _, _, _, _, _, _, _, _, _, _, _, _, _, _, _, _, _, _, _, _] [[_, _, _, _, _, _, _, _, _, _, _, _, _, _, _, _, _, _, _, _, _, _, _, _, _, _, _, _, _]] ?_
  refine zLI ?_
  refine zn ?_
  refine zs ?_
  refine zR ?_
  refine zLP ?_
  refine zLP ?_
  refine zLI ?_
  refine zLI ?_
  refine zLI ?_
  refine zLI ?_
  refine zn ?_
  refine zt ?_
  refine ends (l := [.int _ _, .int _ _]) (q := .tup [.int _ _, .int _ _]) (.inr rfl) rfl ⟨trivial, trivial, trivial⟩ rfl rfl ?_
  rfl
theorem terms_Positions (m : Model) (op : Int) : Ok Try.prog 25 [.agg (modelC m), .int .i64 op] (.tup [.int .i64 (w64 ((findS m op).Out.H * (findS m op).Out.W)), .int .i64 (findE m op)]) := by
  refine fn_ok Tb_ok (fn := Try.f25) Try.func25 rfl rfl (e := [(0, _), (1, _)]) rfl (by decide) rfl ?_
  refine zs ?_
  refine zR ?_
  refine zbx [.int _ _, .int _ _, .int _ _, .int _ _, .int _ _, _, .int _ _] 7 ?_
  refine zLI ?_
  refine zLI ?_
  refine zn ?_
  refine zs ?_
  refine zR ?_
  refine zLG [.int _ _, .int _ _, .int _ _, .int _ _, .int _ _, _, .int _ _] ?_
  refine zLI ?_
  refine zLc (terms_find m op) ?_
  refine zLT [_, _] ?_
  refine zLG [.int _ _, .int _ _, .int _ _, .int _ _, .int _ _, .int _ _, .int _ _, .int _ _, .int _ _, .int _ _, .int _ _, .int _ _, _, _, .int _ _, .int _ _, .int _ _, .int _ _, .int _ _, .int _ _, .int _ _, .int _ _, .int _ _, .int _ _, .int _ _, .int _ _, .int _ _, .int _ _, .int _ _] ?_
  refine zLI ?_
  refine zal [.int .i64 0, .int .i64 0, .int .i64 0, .int .i64 0, .int .i64 0, .int .i64 0, .int .i64 0, .int .i64 0, .int .i64 0, .int .i64 0, .int .i64 0, .int .i64 0, .nils, .nils, .int .i64 0, .int .i64 0, .int .i64 0, .int .i64 0, .int .i64 0, .int .i64 0, .int .i64 0, .int .i64 0, .int .i64 0, .int .i64 0, .int .i64 0, .int .i64 0, .int .i64 0, .int .i64 0, .int .i64 0] 29 ?_
  refine zst (.agg [.int _ _, .int _ _, .int _ _, .int _ _, .int _ _, .int _ _, .int _ _, .int _ _, .int _ _, .int _ _, .int _ _, .int _ _, _, _, .int _ _, .int _ _, .int _ _, .int _ _, .int _ _, .int _ _, .int _ _, .int _ _, .int _ _, .int _ _, .int _ _, .int _ _, .int _ _, .int _ _, .int _ _]) [_, _, _, _, _, _, _, _, _, _, _, _, _, _, _, _, _, _, _, _, _, _, _, _, _, _, _, _, _] [[_, _, _, _, _, _, _, _, _, _, _, _, _, _, _, _, _, _, _, _, _, _, _, _, _, _, _, _, _]] ?_
  refine zLI ?_
  refine zn ?_
  refine zs ?_
  refine zR ?_
  refine zLP ?_
  refine zLP ?_
  refine zLI ?_
  refine zLP ?_
  refine zLP ?_
  refine zLI ?_
  refine zLI ?_
  refine zLI ?_
  refine zLI ?_
  refine zLI ?_
  refine zn ?_
  refine zt ?_
  refine ends (l := [.int _ _, .int _ _]) (q := .tup [.int _ _, .int _ _]) (.inr rfl) rfl ⟨trivial, trivial, trivial⟩ rfl rfl ?_
  rfl
def mPlain : Model := ⟨⟨1, 1, 2⟩, -128, 127, [⟨1, 0, 0, 1, ⟨0, 0, 0, 0, 0, 0, 0, 0⟩, [3, -2], [1], ⟨1, 0⟩, ⟨0, 0⟩, 0, 0, -128, 127⟩], 1⟩
theorem term_eq (x y : Term) : (x.W == y.W && (x.At == y.At && true)) = decide (x = y) := by cases x; cases y; simp [Bool.beq_eq_decide_eq, Bool.decide_and]
end Go.AM
end
section
open Go Go.AM
set_option linter.unusedVariables false
set_option linter.unusedSimpArgs false
namespace Go.AM
theorem shapeE_zero {s : Shape} : shapeE s = 0 ↔ shapeB s = true := by unfold shapeE; cases shapeB s <;> simp
theorem shapeB_iff {s : Shape} : shapeB s = true ↔ (1 ≤ s.H ∧ s.H ≤ 1024) ∧ (1 ≤ s.W ∧ s.W ≤ 1024) ∧ (1 ≤ s.C ∧ s.C ≤ 1024) ∧ s.H * s.W * s.C ≤ 16384 := by
  have key : (1 ≤ s.H ∧ s.H ≤ 1024) → (1 ≤ s.W ∧ s.W ≤ 1024) → (1 ≤ s.C ∧ s.C ≤ 1024) → elems s = s.H * s.W * s.C := by
    intro h1 h2 h3
    have a1 : 0 ≤ s.H * s.W := Int.mul_nonneg (by omega) (by omega)
    have a2 : s.H * s.W ≤ 1024 * 1024 := Int.mul_le_mul h1.2 h2.2 (by omega) (by omega)
    have b1 : 0 ≤ s.H * s.W * s.C := Int.mul_nonneg a1 (by omega)
    have b2 : s.H * s.W * s.C ≤ 1024 * 1024 * 1024 := Int.mul_le_mul a2 h3.2 (by omega) (by omega)
    unfold elems w64
    rw [w64_id (x := s.H * s.W) (by omega), w64_id (by omega)]
  constructor
  · intro h
    simp only [shapeB, inB, Bool.and_eq_true, decide_eq_true_eq] at h
    obtain ⟨⟨⟨h1, h2⟩, h3⟩, h4⟩ := h
    rw [key h1 h2 h3] at h4
    exact ⟨h1, h2, h3, h4⟩
  · rintro ⟨h1, h2, h3, h4⟩
    simp only [shapeB, inB, Bool.and_eq_true, decide_eq_true_eq]
    rw [key h1 h2 h3]
    exact ⟨⟨⟨h1, h2⟩, h3⟩, h4⟩
theorem windowB_iff {w : Window} (h : windowB w = true) : (1 ≤ w.KH ∧ w.KH ≤ 32) ∧ (1 ≤ w.KW ∧ w.KW ≤ 32) ∧ (1 ≤ w.SH ∧ w.SH ≤ 32) ∧ (1 ≤ w.SW ∧ w.SW ≤ 32) ∧ (0 ≤ w.Top ∧ w.Top < w.KH) ∧ (0 ≤ w.Bottom ∧ w.Bottom < w.KH) ∧ (0 ≤ w.Left ∧ w.Left < w.KW) ∧ (0 ≤ w.Right ∧ w.Right < w.KW) := by
  simp only [windowB, sideB, inB, Bool.and_eq_true, decide_eq_true_eq] at h
  obtain ⟨⟨⟨⟨h1, h2⟩, h3⟩, h4⟩, ⟨⟨h5, h6⟩, h7⟩, h8⟩ := h
  have e1 : w64 (w.KH - 1) = w.KH - 1 := w64_id (by omega)
  have e2 : w64 (w.KW - 1) = w.KW - 1 := w64_id (by omega)
  rw [e1] at h3 h4
  rw [e2] at h7 h8
  omega
theorem shapes_ok {m : Model} (h : (wholeF m).2.2.Err = 0) {i : Nat} (hi : i ≤ m.Ops.length) : shapeB ((wholeF m).1.getD i default) = true := by
  obtain ⟨_, h2, _, h4, h5, h6⟩ := whole_ok h
  cases i with
  | zero => rw [h5]; exact shapeE_zero.1 h2
  | succ i =>
    obtain ⟨e1, e2⟩ := h6 i (by omega)
    rw [e2, opS_ok e1]
    have := (opE_ok e1).2.2.2.2.2.1
    unfold op6 at this
    cases hq : (shapeE (mkS (m.Ops.getD i default) (inA (m.Ops.getD i default) ((wholeF m).1.take (i + 1)))) != 0) with
    | true => rw [hq] at this; simp at this
    | false => exact shapeE_zero.1 (by simpa using hq)
theorem outE_zero {s : Shape} {w : Window} (h : outE s w = 0) : shapeB s = true ∧ windowB w = true ∧ 0 ≤ spanH s w ∧ 0 ≤ spanW s w := by
  unfold outE at h
  split at h
  · split at h
    · split at h
      · omega
      · refine ⟨by assumption, by assumption, by omega, by omega⟩
    · omega
  · omega
/-- of an op that reduces -/
structure SiteOk (S : Site) : Prop where
  kind : 1 ≤ S.Op.Kind ∧ S.Op.Kind ≤ 4
  inB : shapeB S.In = true
  outB : shapeB S.Out = true
  len : 1 ≤ S.Len ∧ S.Len ≤ 512
  len1 : S.Op.Kind = 1 → S.Len = S.In.H * S.In.W * S.In.C
  len2 : S.Op.Kind = 2 → S.Len = S.Op.Win.KH * S.Op.Win.KW * S.In.C
  len3 : S.Op.Kind = 3 ∨ S.Op.Kind = 4 → S.Len = S.Op.Win.KH * S.Op.Win.KW
  win : S.Op.Kind ≠ 1 → windowB S.Op.Win = true ∧ outE S.In S.Op.Win = 0 ∧ S.Out.H = outH S.In S.Op.Win ∧ S.Out.W = outW S.In S.Op.Win
  out1 : S.Op.Kind = 1 → S.Out = ⟨1, 1, S.Op.M⟩
  out2 : S.Op.Kind = 2 → S.Out.C = S.Op.M
  out3 : S.Op.Kind = 3 ∨ S.Op.Kind = 4 → S.Out.C = S.In.C
  wl : S.Op.Kind ≠ 4 → (S.Op.Weights.length : Int) = S.Out.C * S.Len
  bl : S.Op.Kind ≠ 4 → (S.Op.Bias.length : Int) = S.Out.C
  emp : op3 S.Op = false
  rng : op10 S.Op = false
  sc : op9 S.Op = false
theorem ofU_kind {k : Int} (h1 : 1 ≤ k) (h2 : k ≤ 4) : (ofU k).win = !(k == 1) ∧ (ofU k).weights = !(k == 4) ∧ (ofU k).b = false := by
  have : k = 1 ∨ k = 2 ∨ k = 3 ∨ k = 4 := by omega
  rcases this with rfl | rfl | rfl | rfl <;> exact ⟨rfl, rfl, rfl⟩
theorem site_ok {m : Model} {op : Int} (h : findE m op = 0) : SiteOk (findS m op) ∧ (1 ≤ op ∧ op ≤ m.Ops.length) ∧ (findS m op).Op = m.Ops.getD (op - 1).toNat default ∧ (wholeF m).2.2.Err = 0 ∧ findS m op = ⟨opAt m op, aAt m op, (wholeF m).1.getD op.toNat default, lenAt m op⟩ := by
  have h1 : fi1 m = false := by
    cases hq : fi1 m with
    | false => rfl
    | true => simp only [findE, hq, if_true] at h; unfold fi1 at hq; rw [h] at hq; simp at hq
  have h2 : fi2 m op = false := by
    cases hq : fi2 m op with
    | false => rfl
    | true => simp [findE, h1, hq] at h
  have h3 : fi3 m op = false := by
    cases hq : fi3 m op with
    | false => rfl
    | true => simp [findE, h1, h2, hq] at h
  have he : (wholeF m).2.2.Err = 0 := by simpa [fi1] using h1
  obtain ⟨o1, o2, o3, o4, o5, o6⟩ := fi_ok h1 h2
  have hS : findS m op = ⟨opAt m op, aAt m op, (wholeF m).1.getD op.toNat default, lenAt m op⟩ := by simp [findS, h1, h2, h3]
  obtain ⟨w1, w2, w3, w4, w5, w6⟩ := whole_ok he
  have hi : (op - 1).toNat < m.Ops.length := by omega
  obtain ⟨e1, e2⟩ := w6 _ hi
  have ei : (op - 1).toNat + 1 = op.toNat := by omega
  rw [ei] at e1 e2
  rw [opS_ok e1] at e2
  have hA := whole_A he hi
  have eA : inA (m.Ops.getD (op - 1).toNat default) ((wholeF m).1.take op.toNat) = aAt m op := by
    unfold inA aAt opAt
    simp only [List.getD_eq_getElem?_getD] at hA ⊢
    rw [List.getElem?_take, if_pos (by omega)]
  obtain ⟨p1, p2, p3, p4, p5, p6, p7, p8, p9, p10⟩ := opE_ok e1
  rw [eA] at e2 p5
  have hk : 1 ≤ (opAt m op).Kind ∧ (opAt m op).Kind ≤ 4 := by simpa [fi3, inB] using h3
  have sA : shapeB (aAt m op) = true := by
    have := shapes_ok he (i := (opAt m op).A.toNat) (by show (m.Ops.getD (op - 1).toNat default).A.toNat ≤ _; omega)
    exact this
  have sO : shapeB ((wholeF m).1.getD op.toNat default) = true := shapes_ok he (by omega)
  rw [e2] at sO
  obtain ⟨u1, u2, u3⟩ := ofU_kind hk.1 hk.2
  have sB := shapeB_iff.1 sA
  have eo : opAt m op = m.Ops.getD (op - 1).toNat default := rfl
  rw [← eo] at e2 p2 p3 p4 p5 p6 p7 p8 p9 p10 sO eA
  simp only [op7, op8, opR, eA, u2] at p7 p8
  have hwin : (opAt m op).Kind ≠ 1 → windowB (opAt m op).Win = true ∧ outE (aAt m op) (opAt m op).Win = 0 := by
    intro hne
    have : outE (aAt m op) (opAt m op).Win = 0 := by
      unfold mkE at p5; rw [u1] at p5
      have : ((opAt m op).Kind == 1) = false := by simpa using hne
      rw [this] at p5; exact p5
    exact ⟨(outE_zero this).2.1, this⟩
  have el : mkL (opAt m op) (aAt m op) = lenAt m op := by
    unfold mkL lenAt
    rw [if_pos p5]
    have hx : (opAt m op).Kind ≠ 1 → mkX (opAt m op) (aAt m op) = (⟨outH (aAt m op) (opAt m op).Win, outW (aAt m op) (opAt m op).Win, (aAt m op).C⟩, w64 ((opAt m op).Win.KH * (opAt m op).Win.KW)) := by
      intro hne
      unfold mkX; rw [u1]
      have : ((opAt m op).Kind == 1) = false := by simpa using hne
      rw [this]; rfl
    by_cases k1 : (opAt m op).Kind = 1
    · simp [k1]
    · rw [if_neg k1, if_neg k1, hx k1]
      by_cases k2 : (opAt m op).Kind = 2
      · simp [k2]
      · rw [if_neg k2, if_neg k2, if_pos (by omega)]
  have eS : mkS (opAt m op) (aAt m op) = if (opAt m op).Kind = 1 then ⟨1, 1, (opAt m op).M⟩ else if (opAt m op).Kind = 2 then ⟨outH (aAt m op) (opAt m op).Win, outW (aAt m op) (opAt m op).Win, (opAt m op).M⟩ else ⟨outH (aAt m op) (opAt m op).Win, outW (aAt m op) (opAt m op).Win, (aAt m op).C⟩ := by
    unfold mkS
    rw [if_pos p5]
    by_cases k1 : (opAt m op).Kind = 1
    · rw [if_pos k1, if_pos k1]
    · rw [if_neg k1, if_neg k1]
      unfold mkX; rw [u1]
      have : ((opAt m op).Kind == 1) = false := by simpa using k1
      rw [this]; rfl
  have sO' := shapeB_iff.1 sO
  have hlen : lenAt m op = (if (opAt m op).Kind = 1 then (aAt m op).H * (aAt m op).W * (aAt m op).C else if (opAt m op).Kind = 2 then (opAt m op).Win.KH * (opAt m op).Win.KW * (aAt m op).C else (opAt m op).Win.KH * (opAt m op).Win.KW) ∧ 1 ≤ lenAt m op := by
    unfold lenAt
    by_cases k1 : (opAt m op).Kind = 1
    · rw [if_pos k1, if_pos k1]
      have a0 : 1 ≤ (aAt m op).H * (aAt m op).W := by
        have := Int.mul_le_mul sB.1.1 sB.2.1.1 (by omega) (by omega); omega
      have a2 : (aAt m op).H * (aAt m op).W ≤ 1024 * 1024 := Int.mul_le_mul sB.1.2 sB.2.1.2 (by omega) (by omega)
      have b0 : 1 ≤ (aAt m op).H * (aAt m op).W * (aAt m op).C := by
        have := Int.mul_le_mul a0 sB.2.2.1.1 (by omega) (by omega); omega
      have b2 := sB.2.2.2
      unfold w64
      rw [w64_id (x := (aAt m op).H * (aAt m op).W) (by omega), w64_id (by omega)]
      exact ⟨rfl, b0⟩
    · obtain ⟨hw, _⟩ := hwin k1
      have W := windowB_iff hw
      rw [if_neg k1, if_neg k1]
      have a0 : 1 ≤ (opAt m op).Win.KH * (opAt m op).Win.KW := by
        have := Int.mul_le_mul W.1.1 W.2.1.1 (by omega) (by omega); omega
      have a2 : (opAt m op).Win.KH * (opAt m op).Win.KW ≤ 32 * 32 := Int.mul_le_mul W.1.2 W.2.1.2 (by omega) (by omega)
      have ew : w64 ((opAt m op).Win.KH * (opAt m op).Win.KW) = (opAt m op).Win.KH * (opAt m op).Win.KW := w64_id (by omega)
      rw [ew]
      by_cases k2 : (opAt m op).Kind = 2
      · rw [if_pos k2, if_pos k2]
        have b0 : 1 ≤ (opAt m op).Win.KH * (opAt m op).Win.KW * (aAt m op).C := by
          have := Int.mul_le_mul a0 sB.2.2.1.1 (by omega) (by omega); omega
        have b2 : (opAt m op).Win.KH * (opAt m op).Win.KW * (aAt m op).C ≤ 32 * 32 * 1024 := Int.mul_le_mul a2 sB.2.2.1.2 (by omega) (by omega)
        exact ⟨w64_id (by omega), by rw [show w64 _ = _ from w64_id (by omega)]; exact b0⟩
      · rw [if_neg k2, if_neg k2]; exact ⟨rfl, a0⟩
  have hl512 : lenAt m op ≤ 512 := by rw [el] at p7; simpa using p7
  refine ⟨⟨by rw [hS]; exact hk, by rw [hS]; exact sA, by rw [hS]; dsimp only; rw [e2]; exact sO, by rw [hS]; exact ⟨hlen.2, hl512⟩, ?_, ?_, ?_, ?_, ?_, ?_, ?_, ?_, ?_, by rw [hS]; exact p3, by rw [hS]; exact p10, by rw [hS]; exact p9⟩, ⟨o1, o2⟩, by rw [hS]; rfl, he, hS⟩
  · intro k; rw [hS] at k ⊢; dsimp only at k ⊢; rw [hlen.1, if_pos k]
  · intro k; rw [hS] at k ⊢; dsimp only at k ⊢; rw [hlen.1, if_neg (by omega), if_pos k]
  · intro k; rw [hS] at k ⊢; dsimp only at k ⊢; rw [hlen.1, if_neg (by omega), if_neg (by omega)]
  · intro k
    rw [hS] at k ⊢; dsimp only at k ⊢
    refine ⟨(hwin k).1, (hwin k).2, ?_, ?_⟩ <;> rw [e2, eS, if_neg k] <;> split <;> rfl
  · intro k; rw [hS] at k ⊢; dsimp only at k ⊢; rw [e2, eS, if_pos k]
  · intro k; rw [hS] at k ⊢; dsimp only at k ⊢; rw [e2, eS, if_neg (by omega), if_pos k]
  · intro k; rw [hS] at k ⊢; dsimp only at k ⊢; rw [e2, eS, if_neg (by omega), if_neg (by omega)]
  · intro k
    rw [hS] at k ⊢; dsimp only at k ⊢
    have k4 : ((opAt m op).Kind == 4) = false := by simpa using k
    rw [k4, el] at p8
    simp only [Bool.not_false, cond_true, List.length_map] at p8
    have hb : 0 ≤ (mkS (opAt m op) (aAt m op)).C * lenAt m op := Int.mul_nonneg (by omega) (by omega)
    have hb2 : (mkS (opAt m op) (aAt m op)).C * lenAt m op ≤ 1024 * 512 := Int.mul_le_mul sO'.2.2.1.2 hl512 (by omega) (by omega)
    rw [show w64 _ = _ from w64_id (by omega)] at p8
    cases hq : ((opAt m op).Weights.length : Int) != (mkS (opAt m op) (aAt m op)).C * lenAt m op with
    | true => rw [hq] at p8; simp at p8
    | false => rw [e2]; simpa using hq
  · intro k
    rw [hS] at k ⊢; dsimp only at k ⊢
    have k4 : ((opAt m op).Kind == 4) = false := by simpa using k
    rw [k4, el] at p8
    simp only [Bool.not_false, cond_true, List.length_map] at p8
    cases hq : ((opAt m op).Weights.length : Int) != w64 ((mkS (opAt m op) (aAt m op)).C * lenAt m op) with
    | true => rw [hq] at p8; simp at p8
    | false => rw [hq] at p8; rw [e2]; simpa using p8
end Go.AM
end
section
open Go Go.AM Go.Proofs
set_option maxRecDepth 10000
set_option linter.unusedVariables false
set_option linter.unusedSimpArgs false
namespace Go.AM
/-- no taps -/
def tapsBad (s : Shape) (w : Window) (at_ : Int) : Bool := bif bif outE s w != 0 then true else decide (at_ < 0) then true else decide (at_ ≥ w64 (outH s w * outW s w))
def tapsTop (s : Shape) (w : Window) (at_ : Int) : Int := w64 (w64 (w64 (at_.tdiv (outW s w)) * w.SH) - w.Top)
def tapsLeft (s : Shape) (w : Window) (at_ : Int) : Int := w64 (w64 (at_.tmod (outW s w) * w.SW) - w.Left)
theorem taps_ne {s : Shape} {w : Window} {at_ : Int} (h : tapsBad s w at_ = false) : outW s w ≠ 0 := by
  intro h0
  simp only [tapsBad, h0, w64, Int.mul_zero] at h
  simp [IntKind.wrap_i64] at h
  omega
theorem window_Taps_no (s : Shape) (w : Window) (at_ : Int) (hc31 : tapsBad s w at_ = true) : Ok Try.prog 55 [.agg (shapeC s), .agg (windowC w), .int .i64 at_] (.fn 68 [] []) := by
  refine fn_ok Tb_ok (fn := Try.f55) Try.func55 rfl rfl (e := [(0, _), (1, _), (2, _)]) rfl (by decide) rfl ?_
  refine zs ?_
  refine zR ?_
  refine zbx [.int _ _, .int _ _, .int _ _] 3 ?_
  refine zbx [.int _ _, .int _ _, .int _ _, .int _ _, .int _ _, .int _ _, .int _ _, .int _ _] 8 ?_
  refine L_v Tb_ok (v := .nilf) (av rfl ⟨trivial, trivial⟩) rfl ?_
  refine zn ?_
  refine zs ?_
  refine zR ?_
  refine zLG [.int _ _, .int _ _, .int _ _] ?_
  refine zLG [.int _ _, .int _ _, .int _ _, .int _ _, .int _ _, .int _ _, .int _ _, .int _ _] ?_
  refine zLc (window_Out s w) ?_
  refine zLT [_, _, _] ?_
  refine zLI ?_
  refine zLI ?_
  refine zLI ?_
  refine zLI ?_
  refine zLI ?_
  refine zLI ?_
  refine zn ?_
  refine zs ?_
  refine zs ?_
  refine zR ?_
  refine zLI ?_
  refine zLB ?_
  refine zLB ?_
  refine zgLI ?_
  refine zgLB ?_
  refine zpLB ?_
  refine zLB ?_
  refine zgLI ?_
  refine zgLI ?_
  refine zgLI ?_
  refine zgLI ?_
  refine zgLB ?_
  refine zpLB ?_
  refine zn ?_
  refine W_cond_t (b := _) rfl (by exact hc31) ?_
  refine zs ?_
  refine zR ?_
  refine L_v Tb_ok (v := .fn _ [] []) (av rfl ⟨trivial, trivial⟩) rfl ?_
  refine zn ?_
  refine zt ?_
  refine ends (l := [.fn _ [] []]) (q := .fn _ [] []) (.inr rfl) rfl ⟨trivial, trivial⟩ rfl rfl ?_
  rfl
theorem window_Taps_yes (s : Shape) (w : Window) (at_ : Int) (hc31 : tapsBad s w at_ = false) : Ok Try.prog 55 [.agg (shapeC s), .agg (windowC w), .int .i64 at_] (.fn 69 [] [.rptr (windowC w), .rptr [.int .i64 (tapsTop s w at_)], .rptr [.int .i64 (tapsLeft s w at_)], .rptr (shapeC s)]) := by
  refine fn_ok Tb_ok (fn := Try.f55) Try.func55 rfl rfl (e := [(0, _), (1, _), (2, _)]) rfl (by decide) rfl ?_
  refine zs ?_
  refine zR ?_
  refine zbx [.int _ _, .int _ _, .int _ _] 3 ?_
  refine zbx [.int _ _, .int _ _, .int _ _, .int _ _, .int _ _, .int _ _, .int _ _, .int _ _] 8 ?_
  refine L_v Tb_ok (v := .nilf) (av rfl ⟨trivial, trivial⟩) rfl ?_
  refine zn ?_
  refine zs ?_
  refine zR ?_
  refine zLG [.int _ _, .int _ _, .int _ _] ?_
  refine zLG [.int _ _, .int _ _, .int _ _, .int _ _, .int _ _, .int _ _, .int _ _, .int _ _] ?_
  refine zLc (window_Out s w) ?_
  refine zLT [_, _, _] ?_
  refine zLI ?_
  refine zLI ?_
  refine zLI ?_
  refine zLI ?_
  refine zLI ?_
  refine zLI ?_
  refine zn ?_
  refine zs ?_
  refine zs ?_
  refine zR ?_
  refine zLI ?_
  refine zLB ?_
  refine zLB ?_
  refine zgLI ?_
  refine zgLB ?_
  refine zpLB ?_
  refine zLB ?_
  refine zgLI ?_
  refine zgLI ?_
  refine zgLI ?_
  refine zgLI ?_
  refine zgLB ?_
  refine zpLB ?_
  refine zn ?_
  refine W_cond_f (b := _) rfl (by exact hc31) ?_
  refine zk ?_
  refine zs ?_
  refine W_drawF (fun e => []) 18 [[18, 19, 20, 21], [19, 18, 20, 21]] Tb_mixed rfl (by decide) (by kernel_rfl) ?_
  refine zSI ?_
  refine zSI ?_
  refine S_v Tb_ok (v := .int _ _) (av rfl ⟨trivial, (by exact taps_ne hc31)⟩) rfl ?_
  refine zSP ?_
  refine zSI ?_
  refine zSI ?_
  refine zSP ?_
  refine zSI ?_
  refine zSI ?_
  refine zSI ?_
  refine zSI ?_
  refine S_v Tb_ok (v := .int _ _) (av rfl ⟨trivial, (by exact taps_ne hc31)⟩) rfl ?_
  refine zSP ?_
  refine zSI ?_
  refine zSI ?_
  refine zSP ?_
  refine zSI ?_
  refine zSI ?_
  refine S_nil ?_
  refine TT_two ?_ ?_
  · refine TT_alloc Tb_ok (OSub_forget _ _) rfl (z := [.int .i64 0]) (n := 1) rfl rfl rfl rfl rfl rfl (fun ht1 => ?_)
    refine TT_alloc Tb_ok ht1 rfl (z := [.int .i64 0]) (n := 1) rfl rfl rfl rfl rfl rfl (fun ht2 => ?_)
    refine TT_store Tb_ok ht2 rfl (v := .int _ _) (cs := [_]) (es' := [[_]]) rfl rfl rfl rfl rfl rfl rfl rfl rfl rfl rfl ⟨trivial, trivial⟩ (fun ht3 => ?_)
    refine TT_store Tb_ok ht3 rfl (v := .int _ _) (cs := [_]) (es' := [[_]]) rfl rfl rfl rfl rfl rfl rfl rfl rfl rfl rfl ⟨trivial, trivial⟩ (fun ht4 => ?_)
    refine TT_nil ?_
    clear ht1 ht2 ht3 ht4
    refine zs ?_
    refine zR ?_
    refine L_freezeP (t := 4) (c' := _) rfl rfl rfl rfl ?_
    refine L_freezeP (t := 10) (c' := _) rfl rfl rfl rfl ?_
    refine L_freezeP (t := 11) (c' := _) rfl rfl rfl rfl ?_
    refine L_freezeP (t := 3) (c' := _) rfl rfl rfl rfl ?_
    refine zLF ?_
    refine zLF ?_
    refine zn ?_
    refine zt ?_
    refine ends (l := [.fn _ [] [_, _, _, _]]) (q := .fn _ [] [_, _, _, _]) (.inr rfl) rfl ⟨trivial, trivial⟩ rfl rfl ?_
    rfl
  · refine TT_alloc Tb_ok (OSub_forget _ _) rfl (z := [.int .i64 0]) (n := 1) rfl rfl rfl rfl rfl rfl (fun ht5 => ?_)
    refine TT_alloc Tb_ok ht5 rfl (z := [.int .i64 0]) (n := 1) rfl rfl rfl rfl rfl rfl (fun ht6 => ?_)
    refine TT_store Tb_ok ht6 rfl (v := .int _ _) (cs := [_]) (es' := [[_]]) rfl rfl rfl rfl rfl rfl rfl rfl rfl rfl rfl ⟨trivial, trivial⟩ (fun ht7 => ?_)
    refine TT_store Tb_ok ht7 rfl (v := .int _ _) (cs := [_]) (es' := [[_]]) rfl rfl rfl rfl rfl rfl rfl rfl rfl rfl rfl ⟨trivial, trivial⟩ (fun ht8 => ?_)
    refine TT_nil ?_
    clear ht5 ht6 ht7 ht8
    refine zs ?_
    refine zR ?_
    refine L_freezeP (t := 4) (c' := _) rfl rfl rfl rfl ?_
    refine L_freezeP (t := 10) (c' := _) rfl rfl rfl rfl ?_
    refine L_freezeP (t := 11) (c' := _) rfl rfl rfl rfl ?_
    refine L_freezeP (t := 3) (c' := _) rfl rfl rfl rfl ?_
    refine zLF ?_
    refine zLF ?_
    refine zn ?_
    refine zt ?_
    refine ends (l := [.fn _ [] [_, _, _, _]]) (q := .fn _ [] [_, _, _, _]) (.inr rfl) rfl ⟨trivial, trivial⟩ rfl rfl ?_
    rfl
end Go.AM
end
section
open Go Go.AM Go.Proofs
set_option maxRecDepth 10000
set_option linter.unusedVariables false
set_option linter.unusedSimpArgs false
namespace Go.AM
/-- the place doesn't lie in the site -/
def ofBad (S : Site) (ch at_ : Int) : Bool := bif bif bif decide (ch < 1) then true else decide (ch > S.Out.C) then true else decide (at_ < 0) then true else decide (at_ ≥ w64 (S.Out.H * S.Out.W))
theorem terms_Of_bad (m : Model) (op ch at_ : Int) (h : (findE m op != 0) = true ∨ ((findE m op != 0) = false ∧ ofBad (findS m op) ch at_ = true)) :
    Ok Try.prog 20 [.agg (modelC m), .int .i64 op, .int .i64 ch, .int .i64 at_] (.tup [.ro [], .int .i64 0, .int .i64 (if findE m op = 0 then 3 else findE m op)]) := by
  rcases h with hc26 | ⟨hc26, hc51⟩
  · --@@1
    skip
    refine fn_ok Tb_ok (fn := Try.f20) Try.func20 rfl rfl (e := [(0, _), (1, _), (2, _), (3, _)]) rfl (by decide) rfl ?_
    refine zs ?_
    refine zR ?_
    refine zbx [.int _ _, .int _ _, .int _ _, .int _ _, .int _ _, _, .int _ _] 7 ?_
    refine zLN ?_
    refine zLI ?_
    refine zLI ?_
    refine zn ?_
    refine zs ?_
    refine zR ?_
    refine zLG [.int _ _, .int _ _, .int _ _, .int _ _, .int _ _, _, .int _ _] ?_
    refine zLI ?_
    refine zLc (terms_find m op) ?_
    refine zLT [_, _] ?_
    refine zLG [.int _ _, .int _ _, .int _ _, .int _ _, .int _ _, .int _ _, .int _ _, .int _ _, .int _ _, .int _ _, .int _ _, .int _ _, _, _, .int _ _, .int _ _, .int _ _, .int _ _, .int _ _, .int _ _, .int _ _, .int _ _, .int _ _, .int _ _, .int _ _, .int _ _, .int _ _, .int _ _, .int _ _] ?_
    refine zLI ?_
    refine zal [.int .i64 0, .int .i64 0, .int .i64 0, .int .i64 0, .int .i64 0, .int .i64 0, .int .i64 0, .int .i64 0, .int .i64 0, .int .i64 0, .int .i64 0, .int .i64 0, .nils, .nils, .int .i64 0, .int .i64 0, .int .i64 0, .int .i64 0, .int .i64 0, .int .i64 0, .int .i64 0, .int .i64 0, .int .i64 0, .int .i64 0, .int .i64 0, .int .i64 0, .int .i64 0, .int .i64 0, .int .i64 0] 29 ?_
    refine zst (.agg [.int _ _, .int _ _, .int _ _, .int _ _, .int _ _, .int _ _, .int _ _, .int _ _, .int _ _, .int _ _, .int _ _, .int _ _, _, _, .int _ _, .int _ _, .int _ _, .int _ _, .int _ _, .int _ _, .int _ _, .int _ _, .int _ _, .int _ _, .int _ _, .int _ _, .int _ _, .int _ _, .int _ _]) [_, _, _, _, _, _, _, _, _, _, _, _, _, _, _, _, _, _, _, _, _, _, _, _, _, _, _, _, _] [[_, _, _, _, _, _, _, _, _, _, _, _, _, _, _, _, _, _, _, _, _, _, _, _, _, _, _, _, _]] ?_
    refine zLI ?_
    refine zn ?_
    refine zs ?_
    refine zs ?_
    refine zR ?_
    refine zLI ?_
    refine zLB ?_
    refine zn ?_
    refine W_cond_t (b := _) rfl (by exact hc26) ?_
    refine zs ?_
    refine zR ?_
    refine zLI ?_
    refine zLN ?_
    refine zLI ?_
    refine zLI ?_
    refine zn ?_
    refine zt ?_
    (refine ends (l := [.nils, .int _ _, .int _ _]) (q := .tup [.ro _, .int _ _, .int _ _]) (.inr rfl) rfl ⟨trivial, trivial, trivial, trivial⟩ rfl rfl ?_)
    (have h0 : findE m op ≠ 0 := by simpa using hc26); simp [h0]
  · --@@2
    skip
    refine fn_ok Tb_ok (fn := Try.f20) Try.func20 rfl rfl (e := [(0, _), (1, _), (2, _), (3, _)]) rfl (by decide) rfl ?_
    refine zs ?_
    refine zR ?_
    refine zbx [.int _ _, .int _ _, .int _ _, .int _ _, .int _ _, _, .int _ _] 7 ?_
    refine zLN ?_
    refine zLI ?_
    refine zLI ?_
    refine zn ?_
    refine zs ?_
    refine zR ?_
    refine zLG [.int _ _, .int _ _, .int _ _, .int _ _, .int _ _, _, .int _ _] ?_
    refine zLI ?_
    refine zLc (terms_find m op) ?_
    refine zLT [_, _] ?_
    refine zLG [.int _ _, .int _ _, .int _ _, .int _ _, .int _ _, .int _ _, .int _ _, .int _ _, .int _ _, .int _ _, .int _ _, .int _ _, _, _, .int _ _, .int _ _, .int _ _, .int _ _, .int _ _, .int _ _, .int _ _, .int _ _, .int _ _, .int _ _, .int _ _, .int _ _, .int _ _, .int _ _, .int _ _] ?_
    refine zLI ?_
    refine zal [.int .i64 0, .int .i64 0, .int .i64 0, .int .i64 0, .int .i64 0, .int .i64 0, .int .i64 0, .int .i64 0, .int .i64 0, .int .i64 0, .int .i64 0, .int .i64 0, .nils, .nils, .int .i64 0, .int .i64 0, .int .i64 0, .int .i64 0, .int .i64 0, .int .i64 0, .int .i64 0, .int .i64 0, .int .i64 0, .int .i64 0, .int .i64 0, .int .i64 0, .int .i64 0, .int .i64 0, .int .i64 0] 29 ?_
    refine zst (.agg [.int _ _, .int _ _, .int _ _, .int _ _, .int _ _, .int _ _, .int _ _, .int _ _, .int _ _, .int _ _, .int _ _, .int _ _, _, _, .int _ _, .int _ _, .int _ _, .int _ _, .int _ _, .int _ _, .int _ _, .int _ _, .int _ _, .int _ _, .int _ _, .int _ _, .int _ _, .int _ _, .int _ _]) [_, _, _, _, _, _, _, _, _, _, _, _, _, _, _, _, _, _, _, _, _, _, _, _, _, _, _, _, _] [[_, _, _, _, _, _, _, _, _, _, _, _, _, _, _, _, _, _, _, _, _, _, _, _, _, _, _, _, _]] ?_
    refine zLI ?_
    refine zn ?_
    refine zs ?_
    refine zs ?_
    refine zR ?_
    refine zLI ?_
    refine zLB ?_
    refine zn ?_
    refine W_cond_f (b := _) rfl (by exact hc26) ?_
    refine zk ?_
    refine zs ?_
    refine zs ?_
    refine zR ?_
    refine zLI ?_
    refine zLB ?_
    refine zLB ?_
    refine zgLI ?_
    refine zgLP ?_
    refine zgLP ?_
    refine zgLI ?_
    refine zgLB ?_
    refine zpLB ?_
    refine zLB ?_
    refine zgLI ?_
    refine zgLB ?_
    refine zpLB ?_
    refine zLB ?_
    refine zgLI ?_
    refine zgLP ?_
    refine zgLP ?_
    refine zgLI ?_
    refine zgLP ?_
    refine zgLP ?_
    refine zgLI ?_
    refine zgLI ?_
    refine zgLB ?_
    refine zpLB ?_
    refine zn ?_
    refine W_cond_t (b := _) rfl (by exact hc51) ?_
    refine zs ?_
    refine zR ?_
    refine zLN ?_
    refine zLI ?_
    refine zLI ?_
    refine zn ?_
    refine zt ?_
    (refine ends (l := [.nils, .int _ _, .int _ _]) (q := .tup [.ro _, .int _ _, .int _ _]) (.inr rfl) rfl ⟨trivial, trivial, trivial, trivial⟩ rfl rfl ?_)
    (have h0 : findE m op = 0 := by simpa using hc26); simp [h0]
end Go.AM
end
section
open Go Go.AM Go.Proofs
set_option maxRecDepth 10000
set_option linter.unusedVariables false
set_option linter.unusedSimpArgs false
namespace Go.AM
/-- the list, k of its places told -/
def ofP (pl : List Int) (k : Nat) : List Term := (pl.take k).map (fun p => ⟨1, p⟩) ++ List.replicate (pl.length - k) ⟨0, 0⟩
theorem ofP_len (pl : List Int) (k : Nat) (h : k ≤ pl.length) : (ofP pl k).length = pl.length := by simp [ofP]; omega
theorem ofP_set (pl : List Int) (k : Nat) (h : k < pl.length) : (ofP pl k).set k ⟨1, pl.getD k 0⟩ = ofP pl (k + 1) := by
  have e : pl.length - k = (pl.length - (k + 1)) + 1 := by omega
  have hl : ((pl.take k).map (fun p => (⟨1, p⟩ : Term))).length = k := by simp; omega
  rw [ofP, ofP, e, List.replicate_succ, List.set_append_right _ _ (by omega), hl, Nat.sub_self, List.set_cons_zero, List.take_add_one, List.map_append, List.append_assoc]
  simp [h]
theorem terms_Of_pl (m : Model) (op ch at_ : Int) (hc26 : (findE m op != 0) = false) (hc51 : ofBad (findS m op) ch at_ = false) (hc74 : ((findS m op).Op.Kind != 4) = false) (pl : List Int)
    (hpl : Ok Try.prog 41 [.agg (siteC (findS m op)), .int .i64 ch, .int .i64 at_] (.ro (pl.map intC))) (hpn : (findS m op).Len = (pl.length : Int)) (hps : pl.length ≤ 1048576) :
    Ok Try.prog 20 [.agg (modelC m), .int .i64 op, .int .i64 ch, .int .i64 at_] (.tup [.ro ((ofP pl pl.length).map termC), .int .i64 0, .int .i64 0]) := by
  refine fn_ok Tb_ok (fn := Try.f20) Try.func20 rfl rfl (e := [(0, _), (1, _), (2, _), (3, _)]) rfl (by decide) rfl ?_
  refine zs ?_
  refine zR ?_
  refine zbx [.int _ _, .int _ _, .int _ _, .int _ _, .int _ _, _, .int _ _] 7 ?_
  refine zLN ?_
  refine zLI ?_
  refine zLI ?_
  refine zn ?_
  refine zs ?_
  refine zR ?_
  refine zLG [.int _ _, .int _ _, .int _ _, .int _ _, .int _ _, _, .int _ _] ?_
  refine zLI ?_
  refine zLc (terms_find m op) ?_
  refine zLT [_, _] ?_
  refine zLG [.int _ _, .int _ _, .int _ _, .int _ _, .int _ _, .int _ _, .int _ _, .int _ _, .int _ _, .int _ _, .int _ _, .int _ _, _, _, .int _ _, .int _ _, .int _ _, .int _ _, .int _ _, .int _ _, .int _ _, .int _ _, .int _ _, .int _ _, .int _ _, .int _ _, .int _ _, .int _ _, .int _ _] ?_
  refine zLI ?_
  refine zal [.int .i64 0, .int .i64 0, .int .i64 0, .int .i64 0, .int .i64 0, .int .i64 0, .int .i64 0, .int .i64 0, .int .i64 0, .int .i64 0, .int .i64 0, .int .i64 0, .nils, .nils, .int .i64 0, .int .i64 0, .int .i64 0, .int .i64 0, .int .i64 0, .int .i64 0, .int .i64 0, .int .i64 0, .int .i64 0, .int .i64 0, .int .i64 0, .int .i64 0, .int .i64 0, .int .i64 0, .int .i64 0] 29 ?_
  refine zst (.agg [.int _ _, .int _ _, .int _ _, .int _ _, .int _ _, .int _ _, .int _ _, .int _ _, .int _ _, .int _ _, .int _ _, .int _ _, _, _, .int _ _, .int _ _, .int _ _, .int _ _, .int _ _, .int _ _, .int _ _, .int _ _, .int _ _, .int _ _, .int _ _, .int _ _, .int _ _, .int _ _, .int _ _]) [_, _, _, _, _, _, _, _, _, _, _, _, _, _, _, _, _, _, _, _, _, _, _, _, _, _, _, _, _] [[_, _, _, _, _, _, _, _, _, _, _, _, _, _, _, _, _, _, _, _, _, _, _, _, _, _, _, _, _]] ?_
  refine zLI ?_
  refine zn ?_
  refine zs ?_
  refine zs ?_
  refine zR ?_
  refine zLI ?_
  refine zLB ?_
  refine zn ?_
  refine W_cond_f (b := _) rfl (by exact hc26) ?_
  refine zk ?_
  refine zs ?_
  refine zs ?_
  refine zR ?_
  refine zLI ?_
  refine zLB ?_
  refine zLB ?_
  refine zgLI ?_
  refine zgLP ?_
  refine zgLP ?_
  refine zgLI ?_
  refine zgLB ?_
  refine zpLB ?_
  refine zLB ?_
  refine zgLI ?_
  refine zgLB ?_
  refine zpLB ?_
  refine zLB ?_
  refine zgLI ?_
  refine zgLP ?_
  refine zgLP ?_
  refine zgLI ?_
  refine zgLP ?_
  refine zgLP ?_
  refine zgLI ?_
  refine zgLI ?_
  refine zgLB ?_
  refine zpLB ?_
  refine zn ?_
  refine W_cond_f (b := _) rfl (by exact hc51) ?_
  refine zk ?_
  refine zs ?_
  refine zR ?_
  refine zLI ?_
  refine zn ?_
  refine zs ?_
  refine zR ?_
  refine zLP ?_
  refine zLI ?_
  refine L_make Tb_ok (el := 58) (sz := 2) (z := [.int .i64 0, .int .i64 0]) rfl rfl rfl rfl rfl rfl rfl rfl ⟨trivial, trivial⟩ (by (rw [hpn]; omega)) (by (rw [hpn, show (Tb.at 58).bytes = 16 from rfl]; omega)) rfl ?_
  refine zLW ?_
  refine zn ?_
  refine zs ?_
  refine zs ?_
  refine zR ?_
  refine zLG [.int _ _, .int _ _, .int _ _, .int _ _, .int _ _, .int _ _, .int _ _, .int _ _, .int _ _, .int _ _, .int _ _, .int _ _, _, _, .int _ _, .int _ _, .int _ _, .int _ _, .int _ _, .int _ _, .int _ _, .int _ _, .int _ _, .int _ _, .int _ _, .int _ _, .int _ _, .int _ _, .int _ _] ?_
  refine zLI ?_
  refine zLI ?_
  refine zLc (hpl) ?_
  refine zLI ?_
  refine zLI ?_
  refine zn ?_
  refine W_block ?_
  refine W_inv (ι := {k : Nat // k ≤ pl.length}) (fun k => ⟨[(2, .int .i64 ch), (11, .ptr 1 0 0), (13, .int .i64 0), (14, .row 2 0 (findS m op).Len.toNat), (58, .ro (pl.map intC)), (59, .int .i64 ((pl.map intC).length : Int)), (60, .int .i64 (k.1 : Int))], [(1, some ⟨87, 29, 0, [siteC (findS m op)]⟩), (2, some ⟨58, 2, 0, (ofP pl k.1).map termC⟩)], [], 3⟩) (fun k => pl.length - k.1) ⟨0, Nat.zero_le _⟩ (le_fit ⟨rfl, rfl, rfl, rfl, rfl, rfl, rfl, trivial⟩ ⟨.inr rfl, .inr ?_, trivial⟩ trivial rfl rfl rfl ?_ rfl) ?_
  · show some (Ob.mk _ _ _ (List.replicate (findS m op).Len.toNat _)) = _
    simp [ofP, hpn, termC]
  · simp [ltOB, termC, siteC, opC, shapeC, AV.lt]
  rintro ⟨k, hk⟩
  refine zs ?_
  refine zR ?_
  refine zLB ?_
  refine zn ?_
  refine zs ?_
  refine W_cond (b := _) rfl (fun h61 => ?_) (fun h61 => ?_)
  · have hlt : k < pl.length := by simpa using h61
    refine zk ?_
    refine zs ?_
    refine W_block ?_
    refine zs ?_
    refine zR ?_
    refine zLI ?_
    (refine L_v Tb_ok (v := _) (ave_index_ro rfl rfl rfl (fun _ => rfl) rfl (by first | omega | assumption | decide | (simp_all; done) | (simp_all; omega)) (by first | omega | assumption | decide | (simp_all; done) | (simp_all; omega)) trivial) rfl ?_)
    refine zLI ?_
    refine zLI ?_
    refine zLI ?_
    refine zn ?_
    refine zR ?_
    refine zLW ?_
    refine zLI ?_
    refine zLI ?_
    refine zLG [.int _ _, .int _ _] ?_
    (refine L_v Tb_ok (v := _) (ave_index_row rfl rfl rfl rfl rfl rfl (by first | omega | assumption | decide | (simp_all; done) | (simp_all; omega)) (by first | omega | assumption | decide | (simp_all; done) | (simp_all; omega)) trivial) rfl ?_)
    refine L_store_row Tb_ok (f := termC) (xs := ofP pl k) (v' := ⟨1, pl.getD k 0⟩) rfl rfl rfl rfl rfl rfl rfl rfl (by rw [ofP_len _ _ hk]; simp; omega) rfl ⟨trivial, trivial⟩ ?_
    refine zn ?_
    refine zR ?_
    refine zLI ?_
    refine zLI ?_
    refine zn ?_
    refine round_end ⟨k + 1, hlt⟩ (by dsimp only; omega) (le_fit ⟨rfl, rfl, rfl, rfl, rfl, rfl, congrArg _ (w_succ hlt (by omega)), trivial⟩ ⟨.inr rfl, .inr ?_, trivial⟩ trivial rfl rfl rfl ?_ rfl)
    · show some (Ob.mk 58 2 0 (((ofP pl k).set (0 + ((k : Nat) : Int).toNat) ⟨1, pl.getD k 0⟩).map termC)) = _
      rw [Nat.zero_add, Int.toNat_natCast, ofP_set pl k hlt]
    · simp [ltOB, termC, siteC, opC, shapeC, AV.lt]
  · refine W_exit ?_
    repeat (first | refine pass_then ?_ | refine pass_round ?_)
    refine blockQ_hit ?_
    refine zs ?_
    refine zs ?_
    refine zR ?_
    refine zLP ?_
    refine zLP ?_
    refine zLI ?_
    refine zLB ?_
    refine zn ?_
    refine W_cond_f (b := _) rfl (by exact hc74) ?_
    refine zk ?_
    refine zs ?_
    refine zR ?_
    have hke : k = pl.length := by simp at h61; omega
    refine L_freeze (t := 14) (id := 2) (n := (findS m op).Len.toNat) (l := (ofP pl k).map termC) rfl rfl ?_ rfl rfl ?_ ?_ ?_
    · show _ = ((ofP pl k).map termC).length
      rw [List.length_map, ofP_len pl k hk, hpn]; rfl
    · show ((ofP pl k).map termC).map (·.map demC) = _
      simp [termC, demC]
    · simp [termC, grC]
    refine zLO ?_
    refine zLI ?_
    refine zLO ?_
    refine zLI ?_
    refine zLI ?_
    refine zn ?_
    refine zt ?_
    (refine ends (l := [.ro _, .int _ _, .int _ _]) (q := .tup [.ro _, .int _ _, .int _ _]) (.inr rfl) rfl ⟨trivial, trivial, trivial, trivial⟩ rfl rfl ?_)
    rw [hke]
/-- the channel's weights -/
def ofWs (S : Site) (ch : Int) : List Int := (S.Op.Weights.drop (w64 (w64 (ch - 1) * S.Len)).toNat).take ((w64 (ch * S.Len)).toNat - (w64 (w64 (ch - 1) * S.Len)).toNat)
def ofQ (pl ws : List Int) (k : Nat) : List Term := (List.range pl.length).map fun i => ⟨if i < k then ws.getD i 0 else 1, pl.getD i 0⟩
theorem ofQ_len (pl ws : List Int) (k : Nat) : (ofQ pl ws k).length = pl.length := by simp [ofQ]
theorem ofQ_zero (pl ws : List Int) : ofQ pl ws 0 = ofP pl pl.length := by
  apply List.ext_getElem
  · simp [ofQ, ofP]
  · intro i h1 h2
    simp [ofQ] at h1
    simp [ofQ, ofP, List.getElem_append, h1]
theorem ofQ_set (pl ws : List Int) (k : Nat) (h : k < pl.length) : (ofQ pl ws k).set k ⟨ws.getD k 0, ((ofQ pl ws k).getD k default).At⟩ = ofQ pl ws (k + 1) := by
  apply List.ext_getElem
  · simp [ofQ]
  · intro i h1 h2
    have hi : i < pl.length := by simpa [ofQ] using h2
    by_cases e : k = i
    · subst e; simp [ofQ, h]
    · rw [List.getElem_set_ne e]
      have e2 : (i < k) = (i < k + 1) := by simp; omega
      simp [ofQ, e2]
end Go.AM
end
section
open Go Go.AM Go.Proofs
set_option maxRecDepth 10000
set_option linter.unusedVariables false
set_option linter.unusedSimpArgs false
namespace Go.AM
theorem terms_Of_w (m : Model) (op ch at_ : Int) (hc26 : (findE m op != 0) = false) (hc51 : ofBad (findS m op) ch at_ = false) (hc74 : ((findS m op).Op.Kind != 4) = true) (pl : List Int)
    (hpl : Ok Try.prog 41 [.agg (siteC (findS m op)), .int .i64 ch, .int .i64 at_] (.ro (pl.map intC))) (hpn : (findS m op).Len = (pl.length : Int)) (hps : pl.length ≤ 1048576)
    (hb0 : 0 ≤ w64 (ch - 1)) (hb1 : w64 (ch - 1) < (findS m op).Op.Bias.length) (hw0 : 0 ≤ w64 (w64 (ch - 1) * (findS m op).Len)) (hw1 : w64 (ch * (findS m op).Len) - w64 (w64 (ch - 1) * (findS m op).Len) = (findS m op).Len) (hw2 : w64 (ch * (findS m op).Len) ≤ (findS m op).Op.Weights.length) :
    Ok Try.prog 20 [.agg (modelC m), .int .i64 op, .int .i64 ch, .int .i64 at_] (.tup [.ro ((ofQ pl ((ofWs (findS m op) ch).map w64) pl.length).map termC), .int .i64 (w64 ((findS m op).Op.Bias.getD (w64 (ch - 1)).toNat default)), .int .i64 0]) := by
  have hwl : (ofWs (findS m op) ch).length = pl.length := by simp [ofWs]; omega
  refine fn_ok Tb_ok (fn := Try.f20) Try.func20 rfl rfl (e := [(0, _), (1, _), (2, _), (3, _)]) rfl (by decide) rfl ?_
  refine zs ?_
  refine zR ?_
  refine zbx [.int _ _, .int _ _, .int _ _, .int _ _, .int _ _, _, .int _ _] 7 ?_
  refine zLN ?_
  refine zLI ?_
  refine zLI ?_
  refine zn ?_
  refine zs ?_
  refine zR ?_
  refine zLG [.int _ _, .int _ _, .int _ _, .int _ _, .int _ _, _, .int _ _] ?_
  refine zLI ?_
  refine zLc (terms_find m op) ?_
  refine zLT [_, _] ?_
  refine zLG [.int _ _, .int _ _, .int _ _, .int _ _, .int _ _, .int _ _, .int _ _, .int _ _, .int _ _, .int _ _, .int _ _, .int _ _, _, _, .int _ _, .int _ _, .int _ _, .int _ _, .int _ _, .int _ _, .int _ _, .int _ _, .int _ _, .int _ _, .int _ _, .int _ _, .int _ _, .int _ _, .int _ _] ?_
  refine zLI ?_
  refine zal [.int .i64 0, .int .i64 0, .int .i64 0, .int .i64 0, .int .i64 0, .int .i64 0, .int .i64 0, .int .i64 0, .int .i64 0, .int .i64 0, .int .i64 0, .int .i64 0, .nils, .nils, .int .i64 0, .int .i64 0, .int .i64 0, .int .i64 0, .int .i64 0, .int .i64 0, .int .i64 0, .int .i64 0, .int .i64 0, .int .i64 0, .int .i64 0, .int .i64 0, .int .i64 0, .int .i64 0, .int .i64 0] 29 ?_
  refine zst (.agg [.int _ _, .int _ _, .int _ _, .int _ _, .int _ _, .int _ _, .int _ _, .int _ _, .int _ _, .int _ _, .int _ _, .int _ _, _, _, .int _ _, .int _ _, .int _ _, .int _ _, .int _ _, .int _ _, .int _ _, .int _ _, .int _ _, .int _ _, .int _ _, .int _ _, .int _ _, .int _ _, .int _ _]) [_, _, _, _, _, _, _, _, _, _, _, _, _, _, _, _, _, _, _, _, _, _, _, _, _, _, _, _, _] [[_, _, _, _, _, _, _, _, _, _, _, _, _, _, _, _, _, _, _, _, _, _, _, _, _, _, _, _, _]] ?_
  refine zLI ?_
  refine zn ?_
  refine zs ?_
  refine zs ?_
  refine zR ?_
  refine zLI ?_
  refine zLB ?_
  refine zn ?_
  refine W_cond_f (b := _) rfl (by exact hc26) ?_
  refine zk ?_
  refine zs ?_
  refine zs ?_
  refine zR ?_
  refine zLI ?_
  refine zLB ?_
  refine zLB ?_
  refine zgLI ?_
  refine zgLP ?_
  refine zgLP ?_
  refine zgLI ?_
  refine zgLB ?_
  refine zpLB ?_
  refine zLB ?_
  refine zgLI ?_
  refine zgLB ?_
  refine zpLB ?_
  refine zLB ?_
  refine zgLI ?_
  refine zgLP ?_
  refine zgLP ?_
  refine zgLI ?_
  refine zgLP ?_
  refine zgLP ?_
  refine zgLI ?_
  refine zgLI ?_
  refine zgLB ?_
  refine zpLB ?_
  refine zn ?_
  refine W_cond_f (b := _) rfl (by exact hc51) ?_
  refine zk ?_
  refine zs ?_
  refine zR ?_
  refine zLI ?_
  refine zn ?_
  refine zs ?_
  refine zR ?_
  refine zLP ?_
  refine zLI ?_
  refine L_make Tb_ok (el := 58) (sz := 2) (z := [.int .i64 0, .int .i64 0]) rfl rfl rfl rfl rfl rfl rfl rfl ⟨trivial, trivial⟩ (by (rw [hpn]; omega)) (by (rw [hpn, show (Tb.at 58).bytes = 16 from rfl]; omega)) rfl ?_
  refine zLW ?_
  refine zn ?_
  refine zs ?_
  refine zs ?_
  refine zR ?_
  refine zLG [.int _ _, .int _ _, .int _ _, .int _ _, .int _ _, .int _ _, .int _ _, .int _ _, .int _ _, .int _ _, .int _ _, .int _ _, _, _, .int _ _, .int _ _, .int _ _, .int _ _, .int _ _, .int _ _, .int _ _, .int _ _, .int _ _, .int _ _, .int _ _, .int _ _, .int _ _, .int _ _, .int _ _] ?_
  refine zLI ?_
  refine zLI ?_
  refine zLc (hpl) ?_
  refine zLI ?_
  refine zLI ?_
  refine zn ?_
  refine W_block ?_
  refine W_inv (ι := {k : Nat // k ≤ pl.length}) (fun k => ⟨[(2, .int .i64 ch), (11, .ptr 1 0 0), (13, .int .i64 0), (14, .row 2 0 (findS m op).Len.toNat), (58, .ro (pl.map intC)), (59, .int .i64 ((pl.map intC).length : Int)), (60, .int .i64 (k.1 : Int))], [(1, some ⟨87, 29, 0, [siteC (findS m op)]⟩), (2, some ⟨58, 2, 0, (ofP pl k.1).map termC⟩)], [], 3⟩) (fun k => pl.length - k.1) ⟨0, Nat.zero_le _⟩ (le_fit ⟨rfl, rfl, rfl, rfl, rfl, rfl, rfl, trivial⟩ ⟨.inr rfl, .inr ?_, trivial⟩ trivial rfl rfl rfl ?_ rfl) ?_
  · show some (Ob.mk _ _ _ (List.replicate (findS m op).Len.toNat _)) = _
    simp [ofP, hpn, termC]
  · simp [ltOB, termC, siteC, opC, shapeC, AV.lt]
  rintro ⟨k, hk⟩
  refine zs ?_
  refine zR ?_
  refine zLB ?_
  refine zn ?_
  refine zs ?_
  refine W_cond (b := _) rfl (fun h61 => ?_) (fun h61 => ?_)
  · have hlt : k < pl.length := by simpa using h61
    refine zk ?_
    refine zs ?_
    refine W_block ?_
    refine zs ?_
    refine zR ?_
    refine zLI ?_
    (refine L_v Tb_ok (v := _) (ave_index_ro rfl rfl rfl (fun _ => rfl) rfl (by first | omega | assumption | decide | (simp_all; done) | (simp_all; omega)) (by first | omega | assumption | decide | (simp_all; done) | (simp_all; omega)) trivial) rfl ?_)
    refine zLI ?_
    refine zLI ?_
    refine zLI ?_
    refine zn ?_
    refine zR ?_
    refine zLW ?_
    refine zLI ?_
    refine zLI ?_
    refine zLG [.int _ _, .int _ _] ?_
    (refine L_v Tb_ok (v := _) (ave_index_row rfl rfl rfl rfl rfl rfl (by first | omega | assumption | decide | (simp_all; done) | (simp_all; omega)) (by first | omega | assumption | decide | (simp_all; done) | (simp_all; omega)) trivial) rfl ?_)
    refine L_store_row Tb_ok (f := termC) (xs := ofP pl k) (v' := ⟨1, pl.getD k 0⟩) rfl rfl rfl rfl rfl rfl rfl rfl (by rw [ofP_len _ _ hk]; simp; omega) rfl ⟨trivial, trivial⟩ ?_
    refine zn ?_
    refine zR ?_
    refine zLI ?_
    refine zLI ?_
    refine zn ?_
    refine round_end ⟨k + 1, hlt⟩ (by dsimp only; omega) (le_fit ⟨rfl, rfl, rfl, rfl, rfl, rfl, congrArg _ (w_succ hlt (by omega)), trivial⟩ ⟨.inr rfl, .inr ?_, trivial⟩ trivial rfl rfl rfl ?_ rfl)
    · show some (Ob.mk 58 2 0 (((ofP pl k).set (0 + ((k : Nat) : Int).toNat) ⟨1, pl.getD k 0⟩).map termC)) = _
      rw [Nat.zero_add, Int.toNat_natCast, ofP_set pl k hlt]
    · simp [ltOB, termC, siteC, opC, shapeC, AV.lt]
  · have hke : k = pl.length := by simp at h61; omega
    subst hke
    refine W_exit ?_
    repeat (first | refine pass_then ?_ | refine pass_round ?_)
    refine blockQ_hit ?_
    refine zs ?_
    refine zs ?_
    refine zR ?_
    refine zLP ?_
    refine zLP ?_
    refine zLI ?_
    refine zLB ?_
    refine zn ?_
    refine W_cond_t (b := _) rfl (by exact hc74) ?_
    refine zs ?_
    refine zR ?_
    refine zLP ?_
    refine zLP ?_
    refine zLO ?_
    refine zLI ?_
    refine zLI ?_
    (refine L_v Tb_ok (v := _) (ave_index_ro rfl rfl rfl (fun _ => rfl) rfl (by first | exact hb0 | exact hb1) (by first | exact hb0 | exact hb1) trivial) rfl ?_)
    refine zLI ?_
    refine zLI ?_
    refine zLI ?_
    refine zn ?_
    refine zs ?_
    refine zR ?_
    refine zLP ?_
    refine zLP ?_
    refine zLO ?_
    refine zLI ?_
    refine zLI ?_
    refine zLP ?_
    refine zLI ?_
    refine zLI ?_
    refine zLI ?_
    refine zLP ?_
    refine zLI ?_
    refine zLI ?_
    refine L_slice Tb_ok (el := 92) (sz := 1) rfl rfl rfl rfl rfl rfl (fun c hc => by obtain ⟨x, _, rfl⟩ := List.mem_map.1 hc; rfl) (by exact hw0) (by (show w64 (w64 (ch - 1) * (findS m op).Len) ≤ w64 (ch * (findS m op).Len); omega)) (by (show w64 (ch * (findS m op).Len) ≤ ((((findS m op).Op.Weights.map i16C).length : Nat) : Int); rw [List.length_map]; exact hw2)) ⟨trivial, trivial, trivial⟩ rfl ?_
    refine zLI ?_
    refine zLI ?_
    refine zn ?_
    refine W_block ?_
    refine W_inv (ι := {k : Nat // k ≤ pl.length}) (fun k => ⟨[(13, .int .i64 (w64 ((findS m op).Op.Bias.getD (w64 (ch - 1)).toNat default))), (14, .row 2 0 (findS m op).Len.toNat), (95, .ro ((ofWs (findS m op) ch).map i16C)), (96, .int .i64 (pl.length : Int)), (97, .int .i64 (k.1 : Int))], [(2, some ⟨58, 2, 0, (ofQ pl ((ofWs (findS m op) ch).map w64) k.1).map termC⟩)], [], 3⟩) (fun k => pl.length - k.1) ⟨0, Nat.zero_le _⟩ (le_fit ⟨rfl, rfl, congrArg AV.ro ?_, congrArg (AV.int .i64) ?_, rfl, trivial⟩ ⟨.inr ?_, trivial⟩ trivial rfl rfl rfl ?_ rfl) ?_
    · simp only [ofWs, List.map_take, List.map_drop]; rfl
    · rw [← hwl]; simp only [ofWs, List.length_take, List.length_drop, List.length_map]; rfl
    · rw [ofQ_zero]; rfl
    · simp [ltOB, termC, AV.lt]
    rintro ⟨j, hj⟩
    refine zs ?_
    refine zR ?_
    refine zLB ?_
    refine zn ?_
    refine zs ?_
    refine W_cond (b := _) rfl (fun h98 => ?_) (fun h98 => ?_)
    · have hlj : j < pl.length := by simpa using h98
      refine zk ?_
      refine zs ?_
      refine W_block ?_
      refine zs ?_
      refine zR ?_
      refine zLI ?_
      (refine L_v Tb_ok (v := _) (ave_index_ro rfl rfl rfl (fun _ => rfl) rfl (by first | omega | assumption | decide | (simp_all; done) | (simp_all; omega)) (by first | omega | assumption | decide | (simp_all; done) | (simp_all; omega)) trivial) rfl ?_)
      refine zLI ?_
      refine zLI ?_
      refine zLI ?_
      refine zn ?_
      refine zR ?_
      refine zLW ?_
      refine zLI ?_
      refine zLI ?_
      refine zLI ?_
      (refine L_v Tb_ok (v := _) (ave_index_row rfl rfl rfl rfl rfl rfl (by first | omega | assumption | decide | (simp_all; done) | (simp_all; omega)) (by first | omega | assumption | decide | (simp_all; done) | (simp_all; omega)) trivial) rfl ?_)
      refine zLP ?_
      refine L_store_row Tb_ok (f := termC) (xs := ofQ pl ((ofWs (findS m op) ch).map w64) j) (v := .int _ _) (cs := [_]) (v' := ⟨((ofWs (findS m op) ch).map w64).getD j 0, ((ofQ pl ((ofWs (findS m op) ch).map w64) j).getD j default).At⟩) rfl rfl rfl rfl rfl rfl ?_ rfl ?_ rfl ⟨trivial, trivial⟩ ?_
      · have hlw : j < (ofWs (findS m op) ch).length := by omega
        simp [termC, w64, List.getD_eq_getElem?_getD, hlw]
      · rw [ofQ_len]; simp; omega
      refine zn ?_
      refine zR ?_
      refine zLI ?_
      refine zLI ?_
      refine zn ?_
      refine round_end ⟨j + 1, hlj⟩ (by dsimp only; omega) (le_fit ⟨rfl, rfl, rfl, rfl, congrArg _ (w_succ hlj (by omega)), trivial⟩ ⟨.inr ?_, trivial⟩ trivial rfl rfl rfl ?_ rfl)
      · show some (Ob.mk 58 2 0 (((ofQ pl ((ofWs (findS m op) ch).map w64) j).set (0 + ((j : Nat) : Int).toNat) ⟨((ofWs (findS m op) ch).map w64).getD j 0, ((ofQ pl ((ofWs (findS m op) ch).map w64) j).getD j default).At⟩).map termC)) = _
        rw [Nat.zero_add, Int.toNat_natCast, ofQ_set pl _ j hlj]
      · simp [ltOB, termC, AV.lt]
    · refine W_exit ?_
      repeat (first | refine pass_then ?_ | refine pass_round ?_)
      refine blockQ_hit ?_
      refine zs ?_
      refine zR ?_
      have hke : j = pl.length := by simp at h98; omega
      refine L_freeze (t := 14) (id := 2) (n := (findS m op).Len.toNat) (l := (ofQ pl ((ofWs (findS m op) ch).map w64) j).map termC) rfl rfl ?_ rfl rfl ?_ ?_ ?_
      · show _ = ((ofQ pl ((ofWs (findS m op) ch).map w64) j).map termC).length
        rw [List.length_map, ofQ_len, hpn]; rfl
      · show ((ofQ pl ((ofWs (findS m op) ch).map w64) j).map termC).map (·.map demC) = _
        simp [termC, demC]
      · simp [termC, grC]
      refine zLO ?_
      refine zLI ?_
      refine zLO ?_
      refine zLI ?_
      refine zLI ?_
      refine zn ?_
      refine zt ?_
      (refine ends (l := [.ro _, .int _ _, .int _ _]) (q := .tup [.ro _, .int _ _, .int _ _]) (.inr rfl) rfl ⟨trivial, trivial, trivial, trivial⟩ rfl rfl ?_)
      rw [hke]
end Go.AM
end
section
open Go Go.AM Go.Proofs
set_option maxRecDepth 10000
set_option linter.unusedVariables false
set_option linter.unusedSimpArgs false
namespace Go.AM
/-- nothing is given -/
theorem window_Taps1 : ItOk Try.prog 68 [] [] := by
  refine it_ok (fn := Try.f68) Try.func68 rfl (n := 2) rfl rfl rfl rfl ?_
  intro ic cc hok hxs hpin
  simp only [pinEnv, Nat.reduceAdd]
  refine V_skip ?_
  exact ⟨by first | exact .inl rfl | exact .inr rfl, .inr rfl⟩
/-- the place that a tap covers -/
def tapPlace (s : Shape) (w : Window) (top left : Int) (k : Int) : Int :=
  let y := w64 (top + w64 (k.tdiv w.KW)); let x := w64 (left + k.tmod w.KW)
  bif bif inB y 0 (w64 (s.H - 1)) then inB x 0 (w64 (s.W - 1)) else false then w64 (w64 (y * s.W) + x) else -1
def tapN (w : Window) : Nat := (w64 (w.KH * w.KW)).toNat
def tapList (s : Shape) (w : Window) (top left : Int) : List (List AV) := (List.range (tapN w)).map fun (k : Nat) => [.int .i64 (k : Int), .int .i64 (tapPlace s w top left k)]
theorem tap_get {s : Shape} {w : Window} {top left : Int} {k : Nat} {v : Int} (h : k < tapN w) (hv : tapPlace s w top left k = v) : (tapList s w top left)[k]? = some [.int .i64 (k : Int), .int .i64 v] := by
  subst hv; simp [tapList, h]
theorem window_Taps2 (s : Shape) (w : Window) (top left : Int) (h0 : w.KW ≠ 0) (h1 : 0 ≤ w64 (w.KH * w.KW)) (hB : w64 (w.KH * w.KW) ≤ 4611686018427387904) : ItOk Try.prog 69 [.rptr (windowC w), .rptr [.int .i64 top], .rptr [.int .i64 left], .rptr (shapeC s)] (tapList s w top left) := by
  have hN : w64 (w.KH * w.KW) = (tapN w : Int) := by simp only [tapN]; omega
  refine it_ok (fn := Try.f69) Try.func69 rfl (n := 54) rfl rfl rfl rfl ?_
  intro ic cc hok hxs hpin
  simp only [pinEnv, Nat.reduceAdd]
  refine V_seq ?_
  refine V_of_W ?_
  refine zR ?_
  first | (refine L_v Tb_ok (v := .ptr _ _ _) (av rfl ⟨trivial, trivial⟩) rfl ?_) | (refine L_v Tb_ok (v := .rptr _) (av rfl ⟨trivial, trivial⟩) rfl ?_)
  refine zLI ?_
  first | (refine L_v Tb_ok (v := .ptr _ _ _) (av rfl ⟨trivial, trivial⟩) rfl ?_) | (refine L_v Tb_ok (v := .rptr _) (av rfl ⟨trivial, trivial⟩) rfl ?_)
  refine zLI ?_
  refine zLI ?_
  refine zLI ?_
  refine zn ?_
  refine V_block ?_
  refine V_for (tapN w) (fun k => ⟨[(0, .yl ic.l), (1, .pin (cc 0) (.rptr (windowC w))), (2, .pin (cc 1) (.rptr [.int .i64 top])), (3, .pin (cc 2) (.rptr [.int .i64 left])), (4, .pin (cc 3) (.rptr (shapeC s))), (14, .int .i64 (w64 (w.KH * w.KW))), (15, .int .i64 (k : Int))], [], [], 100⟩) (le_env ⟨rfl, rfl, rfl, rfl, rfl, rfl, rfl, trivial⟩) ?_
  intro k hk
  refine V_seq ?_
  refine V_of_W ?_
  refine zR ?_
  refine zLB ?_
  refine zn ?_
  refine V_seq ?_
  refine V_cond (b := _) rfl (fun h16 => ?_) (fun h16 => ?_)
  · have hlt : k < tapN w := by rw [hN] at h16; simpa using h16
    refine V_skip ?_
    refine V_seq ?_
    refine V_block ?_
    refine V_seq ?_
    refine V_of_W ?_
    refine zR ?_
    refine zLI ?_
    refine zLI ?_
    refine zn ?_
    refine V_seq ?_
    refine V_of_W ?_
    refine W_draw 14 Tb_mixed rfl (by decide) (by kernel_rfl) (by kernel_rfl) ?_
    refine zEI ?_
    refine zEI ?_
    first | (refine E_v Tb_ok (v := .ptr _ _ _) (av rfl ⟨trivial, trivial⟩) rfl ?_) | (refine E_v Tb_ok (v := .rptr _) (av rfl ⟨trivial, trivial⟩) rfl ?_)
    refine zEI ?_
    refine E_v Tb_ok (v := .int _ _) (av rfl ⟨trivial, (by exact h0)⟩) rfl ?_
    refine zEI ?_
    refine zEI ?_
    refine zEI ?_
    first | (refine E_v Tb_ok (v := .ptr _ _ _) (av rfl ⟨trivial, trivial⟩) rfl ?_) | (refine E_v Tb_ok (v := .rptr _) (av rfl ⟨trivial, trivial⟩) rfl ?_)
    refine zEI ?_
    refine E_v Tb_ok (v := .int _ _) (av rfl ⟨trivial, (by exact h0)⟩) rfl ?_
    refine zEI ?_
    refine zEI ?_
    refine zEI ?_
    refine LexE_nil ?_
    refine zn ?_
    refine V_seq ?_
    refine V_of_W ?_
    refine zR ?_
    refine zLI ?_
    refine zn ?_
    refine V_seq ?_
    refine V_seq ?_
    refine V_of_W ?_
    refine zR ?_
    refine zLI ?_
    first | (refine L_v Tb_ok (v := .ptr _ _ _) (av rfl ⟨trivial, trivial⟩) rfl ?_) | (refine L_v Tb_ok (v := .rptr _) (av rfl ⟨trivial, trivial⟩) rfl ?_)
    refine zLI ?_
    refine zLI ?_
    refine zLc (within _ _ _) ?_
    refine zLB ?_
    refine zgLI ?_
    first | (refine L_g Tb_ok (v := .ptr _ _ _) rfl rfl ((fun hg => (av rfl ⟨trivial, trivial⟩))) rfl rfl ?_) | (refine L_g Tb_ok (v := .rptr _) rfl rfl ((fun hg => (av rfl ⟨trivial, trivial⟩))) rfl rfl ?_)
    refine zgLI ?_
    refine zgLI ?_
    refine L_callg (hr := fun hg => within _ _ _) rfl rfl rfl rfl rfl (fun hg => ⟨⟨(by first | exact hg | (simp_all; done) | (simp at hg ⊢; simp [hg])), True.intro⟩, ⟨⟨(by first | exact hg | (simp_all; done) | (simp at hg ⊢; simp [hg])), True.intro⟩, True.intro⟩⟩) rfl rfl ?_
    refine zpLB ?_
    refine zn ?_
    refine V_cond (b := _) rfl (fun h41 => ?_) (fun h41 => ?_)
    · have hv : tapPlace s w top left k = w64 (w64 (w64 (top + w64 ((k : Int).tdiv w.KW)) * s.W) + w64 (left + (k : Int).tmod w.KW)) := by simp only [tapPlace, w64]; rw [h41]; rfl
      refine V_of_W ?_
      refine zR ?_
      refine zLI ?_
      first | (refine L_v Tb_ok (v := .ptr _ _ _) (av rfl ⟨trivial, trivial⟩) rfl ?_) | (refine L_v Tb_ok (v := .rptr _) (av rfl ⟨trivial, trivial⟩) rfl ?_)
      refine zLI ?_
      refine zLI ?_
      refine zLI ?_
      refine zLI ?_
      refine zLI ?_
      refine zn ?_
      refine V_seq ?_
      refine V_region rfl ?_
      refine VL_pre [_, _, _] _ rfl ?_
      first | (refine L_v Tb_ok (v := .fn _ _ _) (av rfl ⟨trivial, trivial⟩) rfl ?_) | (refine L_v Tb_ok (v := .nilf) (av rfl ⟨trivial, trivial⟩) rfl ?_) | (refine L_v Tb_ok (v := .yl _) (av rfl ⟨trivial, trivial⟩) rfl ?_)
      refine zLI ?_
      refine zLI ?_
      refine zn ?_
      refine VL_yield hok rfl trivial rfl rfl trivial (by rw [hxs]; exact tap_get hlt hv) (by rw [hpin]; simp [pinsIn, pinsOf]) rfl ?_ ?_
      · refine VL_pre [_] [] rfl ?_
        refine zLB ?_
        refine zn ?_
        refine VL_nil ?_
        refine V_cond_f (b := _) rfl (by first | exact hc52 | rfl | decide | simp_all) ?_
        refine V_skip ?_
        refine V_of_W ?_
        refine zR ?_
        refine zLI ?_
        refine zLI ?_
        refine zn ?_
        refine forV_end hlt (le_fit ⟨rfl, rfl, rfl, rfl, rfl, rfl, congrArg _ (w_succ hlt (by omega)), trivial⟩ trivial trivial rfl rfl rfl rfl rfl)
      · refine VL_pre [_] [] rfl ?_
        refine zLB ?_
        refine zn ?_
        refine VL_nil ?_
        refine V_cond_t (b := _) rfl (by first | exact hc52 | rfl | decide | simp_all) ?_
        refine V_ret ?_
        exact ⟨by first | exact .inl rfl | exact .inr rfl, by first | exact .inl rfl | exact .inr (by rw [hke]; simp [tapList])⟩
    · have hv : tapPlace s w top left k = -1 := by simp only [tapPlace, w64]; rw [h41]; rfl
      refine V_skip ?_
      refine V_seq ?_
      refine V_region rfl ?_
      refine VL_pre [_, _, _] _ rfl ?_
      first | (refine L_v Tb_ok (v := .fn _ _ _) (av rfl ⟨trivial, trivial⟩) rfl ?_) | (refine L_v Tb_ok (v := .nilf) (av rfl ⟨trivial, trivial⟩) rfl ?_) | (refine L_v Tb_ok (v := .yl _) (av rfl ⟨trivial, trivial⟩) rfl ?_)
      refine zLI ?_
      refine zLI ?_
      refine zn ?_
      refine VL_yield hok rfl trivial rfl rfl trivial (by rw [hxs]; exact tap_get hlt hv) (by rw [hpin]; simp [pinsIn, pinsOf]) rfl ?_ ?_
      · refine VL_pre [_] [] rfl ?_
        refine zLB ?_
        refine zn ?_
        refine VL_nil ?_
        refine V_cond_f (b := _) rfl (by first | exact hc52 | rfl | decide | simp_all) ?_
        refine V_skip ?_
        refine V_of_W ?_
        refine zR ?_
        refine zLI ?_
        refine zLI ?_
        refine zn ?_
        refine forV_end hlt (le_fit ⟨rfl, rfl, rfl, rfl, rfl, rfl, congrArg _ (w_succ hlt (by omega)), trivial⟩ trivial trivial rfl rfl rfl rfl rfl)
      · refine VL_pre [_] [] rfl ?_
        refine zLB ?_
        refine zn ?_
        refine VL_nil ?_
        refine V_cond_t (b := _) rfl (by first | exact hc52 | rfl | decide | simp_all) ?_
        refine V_ret ?_
        exact ⟨by first | exact .inl rfl | exact .inr rfl, by first | exact .inl rfl | exact .inr (by rw [hke]; simp [tapList])⟩
  · have hke : k = tapN w := by rw [hN] at h16; simp at h16; omega
    refine V_exit ?_
    repeat (first | refine passV_then ?_ | refine passV_round ?_ | refine passV_for ?_ | refine blockV_miss rfl ?_)
    refine blockV_hit ?_
    exact ⟨by first | exact .inl rfl | exact .inr rfl, by first | exact .inl rfl | exact .inr (by rw [hke]; simp [tapList])⟩
end Go.AM
end
