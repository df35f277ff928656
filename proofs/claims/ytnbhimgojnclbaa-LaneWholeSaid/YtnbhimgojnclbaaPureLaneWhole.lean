/- Where nothing wraps Dot's register is the bias and the sum of the products; else it differs by a multiple of 2^16 (2^32). No condition. -/
import Derived.Test.YtnbhimgojnclbaaCLeWholeLaneQ
import Derived.Test.YtnbhimgojnclbaaCLeWholeSayLaneWhole
namespace Go.Proofs.Ytnbhimgojnclbaa.Pure
open Go.RowKit Go.Proofs.Ytnbhimgojnclbaa Go.Proofs.Ytnbhimgojnclbaa.Lib Go.Proofs.Ytnbhimgojnclbaa.CLeWhole Go.Proofs.YtnbhimgojnclbaaW.PrintWords Go.Proofs.YtnbhimgojnclbaaW.PrintLast Go.Proofs.YtnbhimgojnclbaaW.PrintMore
set_option linter.unusedVariables false
theorem tmod_zero {x m : Int} (h : x % m = 0) : Int.tmod x m = 0 := Int.tmod_eq_zero_of_dvd (Int.dvd_of_emod_eq_zero h)
structure WInv16 (ws xs : List Int) (bias : Int) (i : Nat) (s : Reg × Reg) : Prop where
  e1 : (s.1.1 + s.2.1 - dsum ws xs bias i) % 65536 = 0
  e2 : s.1.2.2.2.1 = 0 → s.2.2.2.2.1 = 0 → s.1.1 + s.2.1 = dsum ws xs bias i
  am : s.1.2.1 = 0
  ar : s.1.2.2.2.1 ≤ s.1.2.2.1
  pm : s.2.2.1 = i
  pa : s.2.2.2.1 = i
structure WInv32 (ws xs : List Int) (bias : Int) (i : Nat) (s : Reg × Reg) : Prop where
  e1 : (s.1.1 - dsum ws xs bias i) % 4294967296 = 0
  e2 : s.1.2.2.2.1 = 0 → s.1.1 = dsum ws xs bias i
  am : s.1.2.1 = i
  aa : s.1.2.2.1 = i
  p : s.2 = (0, 0, 0, 0, 0, 0)
theorem winv32 {ws xs : List Int} {width depth bias : Int} (hb : in32 bias) (hw : width = 32) : ∀ i : Nat, i ≤ 100000 → WInv32 ws xs bias i (dotAt ws xs width depth bias i) := by
  intro i
  induction i with
  | zero => intro _; exact ⟨by simp [dotAt, dsum], fun _ => rfl, rfl, rfl, rfl⟩
  | succ i ih =>
    intro hi
    have h := ih (by omega)
    have hd := dinv_at (ws := ws) (xs := xs) (width := width) (depth := depth) hb i (by omega)
    rw [dotAt_succ32 i hw]
    generalize dotAt ws xs width depth bias i = s at *
    obtain ⟨⟨v, m, a, r, lo, hi'⟩, P⟩ := s
    obtain ⟨e1, e2, am, aa, p⟩ := h
    have d1 := hd.a; have d2 := hd.am; have d3 := hd.aa; have d4 := hd.ar
    dsimp only at e1 e2 am aa p d1 d2 d3 d4
    rw [regMul32 d1]
    have hS : dsum ws xs bias (i + 1) = dsum ws xs bias i + rd ws i * rd xs i := rfl
    generalize rd ws i * rd xs i = q at *
    unfold addTo mulTo
    refine ⟨?_, ?_, ?_, ?_, p⟩
    · show (w32 (v + w32 q) - dsum ws xs bias (i + 1)) % 4294967296 = 0
      rw [hS]; unfold w32; omega
    · show (if decide (in32 (v + w32 q)) = true then (if decide (in32 q) = true then r else wrap64 (r + 1)) else wrap64 ((if decide (in32 q) = true then r else wrap64 (r + 1)) + 1)) = 0 → w32 (v + w32 q) = dsum ws xs bias (i + 1)
      rw [hS, w64 (x := r + 1) (by omega)]
      by_cases c1 : in32 q
      · rw [decide_eq_true c1, if_pos rfl, w32_eq c1]
        by_cases c2 : in32 (v + q)
        · rw [decide_eq_true c2, if_pos rfl, w32_eq c2]; intro h0; rw [e2 h0]
        · rw [decide_eq_false c2, if_neg Bool.false_ne_true, w64 (by omega)]; intro h0; omega
      · rw [decide_eq_false c1, if_neg Bool.false_ne_true]
        intro h0; split at h0
        · omega
        · rw [w64 (by omega)] at h0; omega
    · show wrap64 (m + 1) = _
      rw [w64 (by omega), am]; push_cast; rfl
    · show wrap64 (a + 1) = _
      rw [w64 (by omega), aa]; push_cast; rfl
theorem winv16_mul {ws xs : List Int} {bias : Int} {i : Nat} (hi : i < 100000) {s : Reg × Reg} (hd : DInv i s) (h : WInv16 ws xs bias i s) : WInv16 ws xs bias (i + 1) (s.1, regMul .i16 s.2 (rd ws i) (rd xs i)) := by
  obtain ⟨A, ⟨v, m, a, r, lo, hi'⟩⟩ := s
  obtain ⟨e1, e2, am, ar, pm, pa⟩ := h
  have d1 := hd.p; have d2 := hd.pm; have d3 := hd.pa; have d4 := hd.pr
  dsimp only at e1 e2 am ar pm pa d1 d2 d3 d4 ⊢
  rw [regMul16 d1]
  have hS : dsum ws xs bias (i + 1) = dsum ws xs bias i + rd ws i * rd xs i := rfl
  generalize rd ws i * rd xs i = q at *
  unfold addTo mulTo
  refine ⟨?_, ?_, am, ar, ?_, ?_⟩
  · show (A.1 + w16 (v + w16 q) - dsum ws xs bias (i + 1)) % 65536 = 0
    rw [hS]; unfold w16; omega
  · show A.2.2.2.1 = 0 → (if decide (in16 (v + w16 q)) = true then (if decide (in16 q) = true then r else wrap64 (r + 1)) else wrap64 ((if decide (in16 q) = true then r else wrap64 (r + 1)) + 1)) = 0 → A.1 + w16 (v + w16 q) = dsum ws xs bias (i + 1)
    rw [hS, w64 (x := r + 1) (by omega)]
    intro hA
    by_cases c1 : in16 q
    · rw [decide_eq_true c1, if_pos rfl, w16_eq c1]
      by_cases c2 : in16 (v + q)
      · rw [decide_eq_true c2, if_pos rfl, w16_eq c2]; intro h0; have := e2 hA h0; omega
      · rw [decide_eq_false c2, if_neg Bool.false_ne_true, w64 (by omega)]; intro h0; omega
    · rw [decide_eq_false c1, if_neg Bool.false_ne_true]
      intro h0; split at h0
      · omega
      · rw [w64 (by omega)] at h0; omega
  · show wrap64 (m + 1) = _
    rw [w64 (by omega), pm]; push_cast; rfl
  · show wrap64 (a + 1) = _
    rw [w64 (by omega), pa]; push_cast; rfl
theorem winv16_flush {ws xs : List Int} {bias : Int} {i : Nat} (hi : i < 100000) {A P : Reg} (hA : A.2.2.1 ≤ i) (hd : DInv (i + 1) (A, P)) (h : WInv16 ws xs bias (i + 1) (A, P)) : WInv16 ws xs bias (i + 1) (regAdd .i32 A P.1, (0, P.2)) := by
  obtain ⟨v, m, a, r, lo, hi'⟩ := A
  obtain ⟨e1, e2, am, ar, pm, pa⟩ := h
  have d1 := hd.p; have d2 := hd.a; have d3 := hd.aa; have d4 := hd.ar
  dsimp only at e1 e2 am ar pm pa d1 d2 d3 d4 hA ⊢
  have hp : in32 P.1 := by unfold in16 at d1; unfold in32; exact ⟨by omega, by omega⟩
  rw [regAdd32 d2 hp]
  unfold addTo
  refine ⟨?_, ?_, am, ?_, pm, pa⟩
  · show (w32 (v + P.1) + 0 - dsum ws xs bias (i + 1)) % 65536 = 0
    unfold w32; omega
  · show (if decide (in32 (v + P.1)) = true then r else wrap64 (r + 1)) = 0 → P.2.2.2.1 = 0 → w32 (v + P.1) + 0 = dsum ws xs bias (i + 1)
    rw [w64 (x := r + 1) (by omega)]
    by_cases c2 : in32 (v + P.1)
    · rw [decide_eq_true c2, if_pos rfl, w32_eq c2]; intro h0 h1; have := e2 h0 h1; omega
    · rw [decide_eq_false c2, if_neg Bool.false_ne_true]; intro h0; omega
  · show (if decide (in32 (v + P.1)) = true then r else wrap64 (r + 1)) ≤ wrap64 (a + 1)
    rw [w64 (x := r + 1) (by omega), w64 (x := a + 1) (by omega)]
    split <;> omega
theorem winv16 {ws xs : List Int} {width depth bias : Int} (hb : in32 bias) (hw : ¬ width = 32) : ∀ i : Nat, i ≤ 100000 → WInv16 ws xs bias i (dotAt ws xs width depth bias i) ∧ ((i : Int) = ws.length → (dotAt ws xs width depth bias i).2.1 = 0) := by
  intro i
  induction i with
  | zero => intro _; exact ⟨⟨by simp [dotAt, dsum], fun _ _ => by simp [dotAt, dsum], rfl, by simp [dotAt], rfl, rfl⟩, fun _ => rfl⟩
  | succ i ih =>
    intro hi
    have h := (ih (by omega)).1
    have hd := dinv_at (ws := ws) (xs := xs) (width := width) (depth := depth) hb i (by omega)
    have h1 := winv16_mul (by omega) hd h
    by_cases d : ((i : Int) + 1) % depth = 0 ∨ (i : Int) + 1 = ws.length
    · rw [dotAt_succ16' i hw d]
      exact ⟨winv16_flush (by omega) hd.aa.2 (hd.mul16 (by omega) _ _) h1, fun _ => rfl⟩
    · rw [dotAt_succ16 i hw d]
      exact ⟨h1, fun e => absurd (.inr (by push_cast at e; exact e)) d⟩
theorem LaneWhole : spillwaylaw20_LaneWhole.Pure := by
  intro ws xs width depth bias ⟨hw1, hw2⟩ ⟨hx1, hx2⟩ hwd hdp hb
  have hw2 : ∀ x ∈ ws, in16 x := fun x h => bounds_i16 (hw2 x h)
  have hx2 : ∀ x ∈ xs, -128 ≤ x ∧ x ≤ 127 := fun x h => bounds_i8 (hx2 x h)
  have hb : in32 bias := bounds_i32 hb
  have hdp := bounds_i64 hdp
  refine ⟨ws.length + 10, ?_⟩
  unfold spillwaylaw20_LaneWhole.f
  rw [show ws.length + 10 = (ws.length + 6) + 4 from rfl, lane_fixed, Option.bind_some, if_pos rfl]
  rcases lane_Dot_cases (k := ws.length + 8) hw2 hx2 (by unfold reachBytes at hw1; omega) (width := width) (depth := depth) (bias := bias) with ⟨e, he, _, hf⟩ | ⟨hl, h1, hc, hwid, hdep, hf⟩
  · rw [show ws.length + 6 + 4 = ws.length + 8 + 2 from rfl, hf, Option.bind_some]; dsimp only
    rw [if_neg he]
    simp only [spillwaylaw20_LaneWhole.j0, if_true]
    rw [if_neg he]
  · rw [show ws.length + 6 + 4 = ws.length + 8 + 2 from rfl, hf, Option.bind_some]; dsimp only
    rw [if_pos rfl, if_pos (by omega)]
    simp only [spillwaylaw20_LaneWhole.j0]
    by_cases hbig : (ws.length : Int) > 100000
    · rw [decide_eq_true hbig, if_pos rfl]; simp [hl]
    rw [decide_eq_false hbig, if_neg Bool.false_ne_true]
    have hlen : ws.length ≤ 100000 := by omega
    have dv := dinv_at (ws := ws) (xs := xs) (width := width) (depth := depth) hb ws.length (by omega)
    have hbd : ∀ i : Nat, i ≤ ws.length → -2147483648 - 4194304 * (i : Int) ≤ dsum ws xs bias i ∧ dsum ws xs bias i ≤ 2147483647 + 4194304 * (i : Int) := fun i hi => dsum_bd hw2 hx2 hl hb i hi
    -- the end
    have fin : ∀ f : Nat, spillwaylaw20_LaneWhole.l0 (f + 1) (dotAt ws xs width depth bias ws.length).1.1 (dsum ws xs bias ws.length) ws.length ws.length ws xs width depth bias (dotAt ws xs width depth bias ws.length).2.2.1 (dotAt ws xs width depth bias ws.length).2.2.2.1 (dotAt ws xs width depth bias ws.length).1.2.1 (dotAt ws xs width depth bias ws.length).1.2.2.1 (wrap64 ((dotAt ws xs width depth bias ws.length).2.2.2.2.1 + (dotAt ws xs width depth bias ws.length).1.2.2.2.1)) (wrap64 (dotAt ws xs width depth bias ws.length).2.2.2.2.2.1) (wrap64 (dotAt ws xs width depth bias ws.length).2.2.2.2.2.2) (wrap64 (dotAt ws xs width depth bias ws.length).1.2.2.2.2.1) (wrap64 (dotAt ws xs width depth bias ws.length).1.2.2.2.2.2) = some true := by
      intro f
      have hS := hbd ws.length (by omega)
      simp only [spillwaylaw20_LaneWhole.l0]
      rw [if_neg (by omega)]
      by_cases c : width = 32
      · have iv := winv32 (ws := ws) (xs := xs) (depth := depth) hb c ws.length hlen
        generalize dotAt ws xs width depth bias ws.length = s at *
        obtain ⟨⟨v, m, a, r, lo, hi'⟩, P⟩ := s
        obtain ⟨e1, e2, am, aa, p⟩ := iv
        have d1 := dv.a; have d4 := dv.ar
        dsimp only at e1 e2 am aa p d1 d4 ⊢
        subst p
        dsimp only
        unfold in32 at d1
        rw [if_pos c, w64 (x := v) (by omega), w64 (x := dsum ws xs bias ws.length - v) (by omega), w64 (x := 0 + r) (by omega), Int.zero_add, am, aa, if_pos (tmod_zero (by omega))]
        rw [w64 (x := (0 : Int) + 0) (by omega), w64 (x := (0 : Int) + 0 + ws.length) (by omega), w64 (x := (0 : Int) + 0 + ws.length + ws.length) (by omega), if_pos (by omega : r ≥ 0), decide_eq_true (by omega)]
        by_cases r0 : r = 0
        · rw [if_pos r0, if_pos (by rw [e2 r0])]
        · rw [if_neg r0]
      · obtain ⟨iv, pz⟩ := winv16 (ws := ws) (xs := xs) (depth := depth) hb c ws.length hlen
        have pz := pz rfl
        generalize dotAt ws xs width depth bias ws.length = s at *
        obtain ⟨⟨v, m, a, r, lo, hi'⟩, ⟨v2, m2, a2, r2, lo2, hi2⟩⟩ := s
        obtain ⟨e1, e2, am, ar, pm, pa⟩ := iv
        have d1 := dv.a; have d4 := dv.ar; have d5 := dv.pr; have d6 := dv.aa
        dsimp only at e1 e2 am ar pm pa pz d1 d4 d5 d6 ⊢
        subst pz
        unfold in32 at d1
        rw [if_neg c, w64 (x := v) (by omega), w64 (x := dsum ws xs bias ws.length - v) (by omega), w64 (x := r2 + r) (by omega), am, pm, pa, if_pos (tmod_zero (by omega))]
        rw [w64 (x := (ws.length : Int) + ws.length) (by omega), w64 (x := (ws.length : Int) + ws.length + 0) (by omega), w64 (x := (ws.length : Int) + ws.length + 0 + a) (by omega), if_pos (by omega : r2 + r ≥ 0), decide_eq_true (by omega)]
        by_cases r0 : r2 + r = 0
        · rw [if_pos r0, if_pos (by have := e2 (by omega) (by omega); omega)]
        · rw [if_neg r0]
    generalize dotAt ws xs width depth bias ws.length = s at *
    rw [w64 (x := bias) (by unfold in32 at hb; omega)]
    have go : ∀ (d i f : Nat), ws.length - i = d → i ≤ ws.length → d < f →
        spillwaylaw20_LaneWhole.l0 f s.1.1 (dsum ws xs bias i) ws.length i ws xs width depth bias s.2.2.1 s.2.2.2.1 s.1.2.1 s.1.2.2.1 (wrap64 (s.2.2.2.2.1 + s.1.2.2.2.1)) (wrap64 s.2.2.2.2.2.1) (wrap64 s.2.2.2.2.2.2) (wrap64 s.1.2.2.2.2.1) (wrap64 s.1.2.2.2.2.2) = some true := by
      intro d
      induction d with
      | zero =>
        intro i f q1 q2 q3
        obtain ⟨f, rfl⟩ : ∃ m, f = m + 1 := ⟨f - 1, by omega⟩
        obtain rfl : i = ws.length := by omega
        exact fin f
      | succ d ih =>
        intro i f q1 q2 q3
        obtain ⟨f, rfl⟩ : ∃ m, f = m + 1 := ⟨f - 1, by omega⟩
        have h := ih (i + 1) f (by omega) (by omega) (by omega)
        have b1 := hbd i (by omega)
        have g1 := rd_mem2 hw2 (i := i) (by omega)
        have g2 := rd_mem2 hx2 (i := i) (by omega)
        have g3 := mul8 g1 g2
        unfold in16 at g1
        simp only [spillwaylaw20_LaneWhole.l0]
        rw [if_pos (by omega), if_pos (by omega), if_pos (by omega), if_pos (by omega), w64 (x := rd ws i) (by omega), w64 (x := rd xs i) (by omega), w64 (x := rd ws i * rd xs i) (by omega), w64 (x := dsum ws xs bias i + rd ws i * rd xs i) (by omega), w64 (x := (i : Int) + 1) (by omega)]
        exact h
    exact go ws.length 0 _ (by omega) (by omega) (by omega)
end Go.Proofs.Ytnbhimgojnclbaa.Pure
