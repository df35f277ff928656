/- Every Dot is the document's: the register and its Track, or the error. What comes in is of bulk at most 1048576. -/
import Derived.Test.YtnbhimgojnclbaaCLneDotsLaneQ
import Derived.Test.YtnbhimgojnclbaaCLneDotsSayLaneDots
namespace Go.Proofs.Ytnbhimgojnclbaa.Pure
open Go.RowKit Go.Proofs.Ytnbhimgojnclbaa Go.Proofs.Ytnbhimgojnclbaa.Lib Go.Proofs.Ytnbhimgojnclbaa.CLneDots Go.Proofs.YtnbhimgojnclbaaW.PrintWords Go.Proofs.YtnbhimgojnclbaaW.PrintLast Go.Proofs.YtnbhimgojnclbaaW.PrintMore
set_option linter.unusedVariables false
theorem mn_min (a b : Int) : mn a b = min a b := by unfold mn; omega
theorem mx_max (a b : Int) : mx a b = max a b := by unfold mx; omega
theorem rcheck_eq (k : Nat) {n m width depth : Int} (hn : 0 ≤ n) : spillwayref20_Check.f (k + 2) n m width depth = some (chkOf n m width depth) := by
  unfold spillwayref20_Check.f chkOf
  by_cases h1 : n = m
  · rw [if_pos h1]
    by_cases h2 : n = 0
    · rw [decide_eq_true (show n < 1 by omega), if_pos (.inr h2)]; simp [spillwayref20_Check.j0]
    · have e1 : ∀ b : Bool, b = (!(decide (width = 16 ∨ width = 32))) → spillwayref20_Check.j1 (k + 1) n width depth b = some (if width ≠ 16 ∧ width ≠ 32 then 150 else if depth < 1 ∨ depth > n ∨ width = 32 ∧ depth < n then 151 else 0) := by
        intro b hb
        by_cases w : width = 16 ∨ width = 32
        · rw [hb, decide_eq_true w, if_neg (show ¬ (width ≠ 16 ∧ width ≠ 32) by omega)]; simp only [spillwayref20_Check.j1]
          rw [Bool.not_true, if_neg Bool.false_ne_true]
          by_cases a : depth < 1
          · rw [if_pos a, if_pos (.inl a)]
          · by_cases c : depth > n
            · rw [if_neg a, if_pos c, if_pos (.inr (.inl c))]
            · by_cases d : width = 32
              · by_cases e : depth = n
                · rw [if_neg a, if_neg c, if_pos d, if_pos e, if_neg (by omega)]
                · rw [if_neg a, if_neg c, if_pos d, if_neg e, if_pos (by omega)]
              · rw [if_neg a, if_neg c, if_neg d, if_neg (by omega)]
        · rw [hb, decide_eq_false w, if_pos (show width ≠ 16 ∧ width ≠ 32 by omega)]; simp only [spillwayref20_Check.j1]
          rw [Bool.not_false, if_pos rfl]
      rw [decide_eq_false (show ¬ n < 1 by omega), if_neg (show ¬ (n ≠ m ∨ n = 0) by omega)]; simp only [spillwayref20_Check.j0]; rw [if_neg Bool.false_ne_true]
      by_cases w : width = 16
      · rw [if_pos w]; exact e1 false (by simp [w])
      · rw [if_neg w]; exact e1 _ (by by_cases v : width = 32 <;> simp [w, v])
  · rw [if_neg h1, if_pos (.inl h1)]
    simp [spillwayref20_Check.j0]
theorem last_iff {i d : Int} (h0 : 0 ≤ i) (hd : 1 ≤ d) : i % d = d - 1 ↔ (i + 1) % d = 0 := by
  have e : (i + 1) % d = (i % d + 1) % d := by rw [Int.emod_add_emod]
  have r0 := Int.emod_nonneg i (by omega : d ≠ 0)
  have r1 := Int.emod_lt_of_pos i (by omega : 0 < d)
  rw [e]
  generalize i % d = r at *
  constructor
  · intro h; rw [show r + 1 = d by omega, Int.emod_self]
  · intro h
    by_cases c : r + 1 < d
    · rw [Int.emod_eq_of_lt (by omega) c] at h; omega
    · omega
theorem times16 (d : D9) {x y : Int} (h : in64 (x * y)) : rdTimes d 16 x y = some (w16 (x * y), (wrap64 (d.1 + 1), d.2.1, d.2.2.1, d.2.2.2.1, (if in16 (x * y) then d.2.2.2.2.1 else wrap64 (d.2.2.2.2.1 + 1)), d.2.2.2.2.2)) := by
  unfold rdTimes spillwayref20_Dots_times.f
  rw [ref20_Mul16 h, Option.bind_some]; dsimp only
  unfold spillwayref20_Dots_wrap.f
  by_cases c : in16 (x * y)
  · rw [decide_eq_true c, Bool.not_true, if_neg Bool.false_ne_true, Option.bind_some, if_pos rfl, if_pos c]
  · rw [decide_eq_false c, Bool.not_false, if_pos rfl, Option.bind_some, if_pos rfl, if_neg c]
theorem times32 (d : D9) {x y : Int} (h : in64 (x * y)) : rdTimes d 32 x y = some (w32 (x * y), (d.1, d.2.1, wrap64 (d.2.2.1 + 1), d.2.2.2.1, (if in32 (x * y) then d.2.2.2.2.1 else wrap64 (d.2.2.2.2.1 + 1)), d.2.2.2.2.2)) := by
  unfold rdTimes spillwayref20_Dots_times.f
  rw [ref20_Mul32 h, Option.bind_some]; dsimp only
  unfold spillwayref20_Dots_wrap.f
  by_cases c : in32 (x * y)
  · rw [decide_eq_true c, Bool.not_true, if_neg Bool.false_ne_true, Option.bind_some, if_neg (by decide), if_pos c]
  · rw [decide_eq_false c, Bool.not_false, if_pos rfl, Option.bind_some, if_neg (by decide), if_neg c]
theorem plus16 (d : D9) {x y : Int} (h : in64 (x + y)) : rdPlus d 16 x y = some (w16 (x + y), (d.1, wrap64 (d.2.1 + 1), d.2.2.1, d.2.2.2.1, (if in16 (x + y) then d.2.2.2.2.1 else wrap64 (d.2.2.2.2.1 + 1)),
    min (if d.2.1 = 0 then w16 (x + y) else d.2.2.2.2.2.1) (w16 (x + y)), max (if d.2.1 = 0 then w16 (x + y) else d.2.2.2.2.2.2.1) (w16 (x + y)), d.2.2.2.2.2.2.2)) := by
  unfold rdPlus spillwayref20_Dots_plus.f
  rw [ref20_Add16 h, Option.bind_some]; dsimp only
  unfold spillwayref20_Dots_wrap.f
  by_cases c : in16 (x + y)
  · rw [decide_eq_true c, Bool.not_true, if_neg Bool.false_ne_true, Option.bind_some, if_pos rfl]; dsimp only
    rw [if_pos c]
    by_cases z : d.2.1 = 0
    · rw [if_pos z, if_pos z, if_pos z, Int.min_self, Int.max_self]
    · rw [if_neg z, if_neg z, if_neg z, mn_min, mx_max]
  · rw [decide_eq_false c, Bool.not_false, if_pos rfl, Option.bind_some, if_pos rfl]; dsimp only
    rw [if_neg c]
    by_cases z : d.2.1 = 0
    · rw [if_pos z, if_pos z, if_pos z, Int.min_self, Int.max_self]
    · rw [if_neg z, if_neg z, if_neg z, mn_min, mx_max]
theorem plus32 (d : D9) {x y : Int} (h : in64 (x + y)) : rdPlus d 32 x y = some (w32 (x + y), (d.1, d.2.1, d.2.2.1, wrap64 (d.2.2.2.1 + 1), (if in32 (x + y) then d.2.2.2.2.1 else wrap64 (d.2.2.2.2.1 + 1)), d.2.2.2.2.2.1, d.2.2.2.2.2.2.1,
    min (if d.2.2.2.1 = 0 then w32 (x + y) else d.2.2.2.2.2.2.2.1) (w32 (x + y)), max (if d.2.2.2.1 = 0 then w32 (x + y) else d.2.2.2.2.2.2.2.2) (w32 (x + y)))) := by
  unfold rdPlus spillwayref20_Dots_plus.f
  rw [ref20_Add32 h, Option.bind_some]; dsimp only
  unfold spillwayref20_Dots_wrap.f
  by_cases c : in32 (x + y)
  · rw [decide_eq_true c, Bool.not_true, if_neg Bool.false_ne_true, Option.bind_some, if_neg (by decide)]; dsimp only
    rw [if_pos c]
    by_cases z : d.2.2.2.1 = 0
    · rw [if_pos z, if_pos z, if_pos z, Int.min_self, Int.max_self]
    · rw [if_neg z, if_neg z, if_neg z, mn_min, mx_max]
  · rw [decide_eq_false c, Bool.not_false, if_pos rfl, Option.bind_some, if_neg (by decide)]; dsimp only
    rw [if_neg c]
    by_cases z : d.2.2.2.1 = 0
    · rw [if_pos z, if_pos z, if_pos z, Int.min_self, Int.max_self]
    · rw [if_neg z, if_neg z, if_neg z, mn_min, mx_max]
/-- the Track of two registers -/
def trackOf (s : Reg × Reg) : D9 := (s.2.2.1, s.2.2.2.1, s.1.2.1, s.1.2.2.1, s.2.2.2.2.1 + s.1.2.2.2.1, s.2.2.2.2.2.1, s.2.2.2.2.2.2, s.1.2.2.2.2.1, s.1.2.2.2.2.2)
theorem cadd {c : Prop} [Decidable c] {a r : Int} (h : 0 ≤ a ∧ a ≤ 4611686018427387903) (h' : 0 ≤ r ∧ r ≤ 4611686018427387903) : (if c then a + r else wrap64 (a + r + 1)) = (if decide c = true then a else wrap64 (a + 1)) + r := by
  by_cases e : c
  · rw [if_pos e, decide_eq_true e, if_pos rfl]
  · rw [if_neg e, decide_eq_false e, if_neg Bool.false_ne_true, w64 (by omega), w64 (by omega)]; omega
theorem cadd2 {c : Prop} [Decidable c] {a r : Int} (h : 0 ≤ a ∧ a ≤ 4611686018427387903) (h' : 0 ≤ r ∧ r ≤ 4611686018427387903) : (if c then r + a else wrap64 (r + a + 1)) = r + (if decide c = true then a else wrap64 (a + 1)) := by
  by_cases e : c
  · rw [if_pos e, decide_eq_true e, if_pos rfl]
  · rw [if_neg e, decide_eq_false e, if_neg Bool.false_ne_true, w64 (by omega), w64 (by omega)]; omega
theorem rd_rel {ws xs : List Int} {width depth bias : Int} (hw : ∀ x ∈ ws, in16 x) (hx : ∀ x ∈ xs, -128 ≤ x ∧ x ≤ 127) (hl : ws.length = xs.length) (hn : ws.length ≤ 1048576) (hd : 1 ≤ depth) (hb : in32 bias) :
    ∀ i : Nat, i ≤ ws.length → rdAt ws xs width depth bias i = some ((dotAt ws xs width depth bias i).1.1, (dotAt ws xs width depth bias i).2.1, trackOf (dotAt ws xs width depth bias i)) := by
  intro i
  induction i with
  | zero => intro _; rfl
  | succ i ih =>
    intro hi
    have dv := dinv_at (ws := ws) (xs := xs) (width := width) (depth := depth) hb i (by omega)
    have g1 := rd_mem2 hw (i := i) (by omega)
    have g2 := rd_mem2 hx (i := i) (by omega)
    have g3 := mul8 g1 g2
    rw [rdAt, ih (by omega), Option.bind_some]
    unfold rdStep
    by_cases c : width = 32
    · rw [if_pos c, dotAt_succ32 i c]
      generalize dotAt ws xs width depth bias i = s at *
      obtain ⟨⟨v, m, a, r, lo, hi'⟩, ⟨v2, m2, a2, r2, lo2, hi2⟩⟩ := s
      have d1 := dv.a; have d4 := dv.ar; have d5 := dv.pr
      dsimp only at d1 d4 d5 ⊢
      rw [times32 _ ⟨by omega, by omega⟩, Option.bind_some]; dsimp only
      have wi := w32_in (rd ws i * rd xs i)
      rw [plus32 _ (by unfold in32 at d1 wi; exact ⟨by omega, by omega⟩), Option.bind_some, regMul32 d1]
      unfold addTo mulTo trackOf; dsimp only
      have k1 := cnt (decide (in32 (rd ws i * rd xs i))) d4 (by omega)
      rw [cadd2 ⟨d4.1, by omega⟩ ⟨d5.1, by omega⟩, cadd2 ⟨k1.1, by omega⟩ ⟨d5.1, by omega⟩]
    · rw [if_neg c]
      have hlast : ((i : Int) % depth = depth - 1 ∨ (i : Int) = ws.length - 1) ↔ (((i : Int) + 1) % depth = 0 ∨ (i : Int) + 1 = ws.length) := by
        rw [last_iff (by omega) hd]; constructor <;> rintro (h | h) <;> first | exact .inl h | exact .inr (by omega)
      by_cases e : ((i : Int) + 1) % depth = 0 ∨ (i : Int) + 1 = ws.length
      · rw [dotAt_succ16' i c e]
        generalize dotAt ws xs width depth bias i = s at *
        obtain ⟨⟨v, m, a, r, lo, hi'⟩, ⟨v2, m2, a2, r2, lo2, hi2⟩⟩ := s
        have d1 := dv.p; have d4 := dv.ar; have d5 := dv.pr; have d6 := dv.a
        dsimp only at d1 d4 d5 d6 ⊢
        rw [times16 _ ⟨by omega, by omega⟩, Option.bind_some]; dsimp only
        have wi := w16_in (rd ws i * rd xs i)
        rw [plus16 _ (by unfold in16 at d1 wi; exact ⟨by omega, by omega⟩), Option.bind_some, if_pos (hlast.mpr e)]; dsimp only
        rw [regMul16 d1]
        unfold addTo mulTo trackOf; dsimp only
        have wj := w16_in (v2 + w16 (rd ws i * rd xs i))
        rw [plus32 _ (by unfold in32 at d6; unfold in16 at wj; exact ⟨by omega, by omega⟩), Option.bind_some, regAdd32 d6 (by unfold in16 at wj; unfold in32; exact ⟨by omega, by omega⟩)]
        unfold addTo; dsimp only
        have k1 := cnt (decide (in16 (rd ws i * rd xs i))) d5 (by omega)
        have k2 := cnt (decide (in16 (v2 + w16 (rd ws i * rd xs i)))) k1 (by omega)
        rw [cadd ⟨d5.1, by omega⟩ ⟨d4.1, by omega⟩, cadd ⟨k1.1, by omega⟩ ⟨d4.1, by omega⟩, cadd2 ⟨d4.1, by omega⟩ ⟨k2.1, by omega⟩]
      · rw [dotAt_succ16 i c e]
        generalize dotAt ws xs width depth bias i = s at *
        obtain ⟨⟨v, m, a, r, lo, hi'⟩, ⟨v2, m2, a2, r2, lo2, hi2⟩⟩ := s
        have d1 := dv.p; have d4 := dv.ar; have d5 := dv.pr
        dsimp only at d1 d4 d5 ⊢
        rw [times16 _ ⟨by omega, by omega⟩, Option.bind_some]; dsimp only
        have wi := w16_in (rd ws i * rd xs i)
        rw [plus16 _ (by unfold in16 at d1 wi; exact ⟨by omega, by omega⟩), Option.bind_some, if_neg (fun h => e (hlast.mp h)), regMul16 d1]
        unfold addTo mulTo trackOf; dsimp only
        have k1 := cnt (decide (in16 (rd ws i * rd xs i))) d5 (by omega)
        rw [cadd ⟨d5.1, by omega⟩ ⟨d4.1, by omega⟩, cadd ⟨k1.1, by omega⟩ ⟨d4.1, by omega⟩]
theorem wide16 {xs : List Int} (hx : ∀ x ∈ xs, in16 x) (hn : xs.length ≤ 1048576) : ∀ (d i f : Nat), xs.length - i = d → i ≤ xs.length → d < f → spillwaylaw20_wide_int16.l0 f (xs.take i) xs xs.length i = some xs := by
  intro d
  induction d with
  | zero =>
    intro i f h1 h2 h3
    obtain ⟨f, rfl⟩ : ∃ m, f = m + 1 := ⟨f - 1, by omega⟩
    obtain rfl : i = xs.length := by omega
    simp only [spillwaylaw20_wide_int16.l0]; rw [if_neg (by omega), List.take_length]
  | succ d ih =>
    intro i f h1 h2 h3
    obtain ⟨f, rfl⟩ : ∃ m, f = m + 1 := ⟨f - 1, by omega⟩
    have g := rd_mem2 hx (i := i) (by omega)
    have e : rd xs i = xs[i] := by unfold rd; rw [Int.toNat_natCast]; simp [List.getD, show i < xs.length by omega]
    have h := ih (i + 1) f (by omega) (by omega) (by omega)
    rw [List.take_succ_eq_append_getElem (by omega), ← e] at h
    unfold in16 at g
    simp only [spillwaylaw20_wide_int16.l0]
    rw [if_pos (by omega), if_pos (by omega), if_pos (by omega), if_pos (by rw [List.length_take]; omega), w64 (x := rd xs i) (by omega), w64 (x := (i : Int) + 1) (by omega)]
    exact h
theorem wide8 {xs : List Int} (hx : ∀ x ∈ xs, -128 ≤ x ∧ x ≤ 127) (hn : xs.length ≤ 1048576) : ∀ (d i f : Nat), xs.length - i = d → i ≤ xs.length → d < f → spillwaylaw20_wide_int8.l0 f (xs.take i) xs xs.length i = some xs := by
  intro d
  induction d with
  | zero =>
    intro i f h1 h2 h3
    obtain ⟨f, rfl⟩ : ∃ m, f = m + 1 := ⟨f - 1, by omega⟩
    obtain rfl : i = xs.length := by omega
    simp only [spillwaylaw20_wide_int8.l0]; rw [if_neg (by omega), List.take_length]
  | succ d ih =>
    intro i f h1 h2 h3
    obtain ⟨f, rfl⟩ : ∃ m, f = m + 1 := ⟨f - 1, by omega⟩
    have g := rd_mem2 hx (i := i) (by omega)
    have e : rd xs i = xs[i] := by unfold rd; rw [Int.toNat_natCast]; simp [List.getD, show i < xs.length by omega]
    have h := ih (i + 1) f (by omega) (by omega) (by omega)
    rw [List.take_succ_eq_append_getElem (by omega), ← e] at h
    simp only [spillwaylaw20_wide_int8.l0]
    rw [if_pos (by omega), if_pos (by omega), if_pos (by omega), if_pos (by rw [List.length_take]; omega), w64 (x := rd xs i) (by omega), w64 (x := (i : Int) + 1) (by omega)]
    exact h
theorem LaneDots : spillwaylaw20_LaneDots.Pure := by
  intro ws xs width depth bias ⟨hw1, hw2⟩ ⟨hx1, hx2⟩ hwd hdp hb
  have hw2 : ∀ x ∈ ws, in16 x := fun x h => bounds_i16 (hw2 x h)
  have hx2 : ∀ x ∈ xs, -128 ≤ x ∧ x ≤ 127 := fun x h => bounds_i8 (hx2 x h)
  have hb : in32 bias := bounds_i32 hb
  refine ⟨ws.length + xs.length + 10, ?_⟩
  unfold spillwaylaw20_LaneDots.f spillwaylaw20_wide_int16.f spillwaylaw20_wide_int8.f
  rw [show spillwaylaw20_wide_int16.l0 (ws.length + xs.length + 10) [] ws ws.length 0 = some ws from wide16 hw2 hw1 ws.length 0 _ (by omega) (by omega) (by omega), Option.bind_some,
    show spillwaylaw20_wide_int8.l0 (ws.length + xs.length + 10) [] xs xs.length 0 = some xs from wide8 hx2 hx1 xs.length 0 _ (by omega) (by omega) (by omega), Option.bind_some]
  rw [show spillwayref20_Check.f (ws.length + xs.length + 10) ws.length xs.length width depth = _ from rcheck_eq (ws.length + xs.length + 8) (by omega)]
  rcases lane_Dot_cases (k := ws.length + xs.length + 8) hw2 hx2 (by omega) (width := width) (depth := depth) (bias := bias) with ⟨e, he, hc, hf⟩ | ⟨hl, h1, hc, hwid, hdep, hf⟩
  · rw [show ws.length + xs.length + 10 = ws.length + xs.length + 8 + 2 from rfl, hf, Option.bind_some, Option.bind_some, ← hc]
    rw [show ws.length + xs.length + 8 + 2 = (ws.length + xs.length + 6) + 4 from rfl, lane_fixed, Option.bind_some, if_pos rfl]; dsimp only
    simp only [spillwaylaw20_LaneDots.j0, bne_self_eq_false, Bool.false_eq_true, if_false, he]
    simp
  · rw [show ws.length + xs.length + 10 = ws.length + xs.length + 8 + 2 from rfl, hf, Option.bind_some, Option.bind_some, hc]
    rw [show ws.length + xs.length + 8 + 2 = (ws.length + xs.length + 6) + 4 from rfl, lane_fixed, Option.bind_some, if_pos rfl]; dsimp only
    have rel := rd_rel (width := width) hw2 hx2 hl hw1 hdep.1 hb ws.length (by omega)
    have dv := dinv_at (ws := ws) (xs := xs) (width := width) (depth := depth) hb ws.length (by omega)
    have hD : spillwayref20_Dot.f ws xs width depth bias = some ((dotAt ws xs width depth bias ws.length).1.1, trackOf (dotAt ws xs width depth bias ws.length)) := by
      unfold spillwayref20_Dot.f
      rw [if_pos (by unfold rdOk; simp only [Bool.and_eq_true, decide_eq_true_eq]; exact ⟨⟨⟨hl, hdep.1⟩, hdep.2⟩, by omega⟩), rel, Option.bind_some]
    generalize dotAt ws xs width depth bias ws.length = s at *
    simp only [spillwaylaw20_LaneDots.j0, bne_self_eq_false, Bool.false_eq_true, if_false, if_true]
    have go : ∀ (d i f : Nat), ws.length - i = d → i ≤ ws.length → d < f →
        spillwaylaw20_LaneDots.l0 f ws xs s.1.1 ws.length i ws xs width depth bias s.2.2.1 s.2.2.2.1 s.1.2.1 s.1.2.2.1 (wrap64 (s.2.2.2.2.1 + s.1.2.2.2.1)) (wrap64 s.2.2.2.2.2.1) (wrap64 s.2.2.2.2.2.2) (wrap64 s.1.2.2.2.2.1) (wrap64 s.1.2.2.2.2.2) = some true := by
      intro d
      induction d with
      | zero =>
        intro i f q1 q2 q3
        obtain ⟨f, rfl⟩ : ∃ m, f = m + 1 := ⟨f - 1, by omega⟩
        obtain rfl : i = ws.length := by omega
        simp only [spillwaylaw20_LaneDots.l0]
        have b1 := dv.a; have b2 := dv.ar; have b3 := dv.pr; have b4 := dv.al; have b5 := dv.ah; have b6 := dv.pl; have b7 := dv.ph
        unfold in32 at b1 b4 b5 hb
        unfold in16 at b6 b7
        rw [if_neg (by omega), w64 (x := bias) (by omega), hD, Option.bind_some, w64 (x := s.1.1) (by omega), if_pos rfl, w64 (x := s.2.2.2.2.1 + s.1.2.2.2.1) (by omega), w64 (x := s.2.2.2.2.2.1) (by omega), w64 (x := s.2.2.2.2.2.2) (by omega), w64 (x := s.1.2.2.2.2.1) (by omega), w64 (x := s.1.2.2.2.2.2) (by omega)]
        unfold trackOf
        simp
      | succ d ih =>
        intro i f q1 q2 q3
        obtain ⟨f, rfl⟩ : ∃ m, f = m + 1 := ⟨f - 1, by omega⟩
        have h := ih (i + 1) f (by omega) (by omega) (by omega)
        have g1 := rd_mem2 hw2 (i := i) (by omega)
        have g2 := rd_mem2 hx2 (i := i) (by omega)
        unfold in16 at g1
        simp only [spillwaylaw20_LaneDots.l0]
        rw [if_pos (by omega), if_pos (by omega), if_pos (by omega), if_pos (by omega), w64 (x := rd ws i) (by omega), if_pos rfl, if_pos (by omega), if_pos (by omega), w64 (x := rd xs i) (by omega), if_pos rfl, w64 (x := (i : Int) + 1) (by omega)]
        exact h
    exact go ws.length 0 _ (by omega) (by omega) (by omega)
end Go.Proofs.Ytnbhimgojnclbaa.Pure
