-- PRINTED by print.py (a twelfth state) out of the translation. Not trusted: Lean checks it.
import Derived.Test.YthjfmgdldjbkgaaCSnTightx0
import Derived.Test.YthjfmgdldjbkgaaCSnTightx2
import Derived.Test.YthjfmgdldjbkgaaCSnTightx3
namespace Go.Proofs.Ythjfmgdldjbkgaa.CSnTight
open Go.RowKit Go.Proofs.YthjfmgdldjbkgaaW.PrintWords Go.Proofs.YthjfmgdldjbkgaaW.PrintLast Go.Proofs.YthjfmgdldjbkgaaW.PrintMore
attribute [local go_sem] max2_int min2_int max_two min_two max_three min_three max_four min_four   -- for this text's walks alone
set_option linter.unusedVariables false
set_option linter.unusedSimpArgs false

/-! ### spillwaylaw03_SpanTight: function 6 -/
mutual
def spillwaylaw03_SpanTight.j1 : Nat → Int → Int → Int → Int → Int → Int → Int → Int → Int → Int → Option (Bool)
 | 0, _, _, _, _, _, _, _, _, _, _ => none
 | k + 1, x6, x8, x175000, x175001, x176000, x176001, x177000, x177001, x182000, x182001 => (span_Add.f k x177000 x177001 x176000 x176001).bind fun bt186 => ((span_Holds.f x175000 x175001 x177000 x177001).bind fun t190 => (if t190 = true then (if x8 = 0 then ((span_Valid.f x176000 x176001).bind fun t191 => (if ((bt186.2.2 == 0) != t191) = true then (spillwaylaw03_SpanTight.j2 k x6 true x175000 x175001) else (if bt186.2.2 = 0 then ((span_Holds.f x175000 x175001 x177000 x177001).bind fun t192 => ((span_Holds.f x182000 x182001 bt186.1 bt186.2.1).bind fun t193 => (spillwaylaw03_SpanTight.j2 k x6 (t192 != t193) x175000 x175001))) else (spillwaylaw03_SpanTight.j2 k x6 false x175000 x175001)))) else (spillwaylaw03_SpanTight.j2 k x6 false x175000 x175001)) else (if x8 = 0 then (if bt186.2.2 = 0 then ((span_Holds.f x175000 x175001 x177000 x177001).bind fun t194 => ((span_Holds.f x182000 x182001 bt186.1 bt186.2.1).bind fun t195 => (spillwaylaw03_SpanTight.j2 k x6 (t194 != t195) x175000 x175001))) else (spillwaylaw03_SpanTight.j2 k x6 false x175000 x175001)) else (spillwaylaw03_SpanTight.j2 k x6 false x175000 x175001))))
def spillwaylaw03_SpanTight.j2 : Nat → Int → Bool → Int → Int → Option (Bool)
 | 0, _, _, _, _ => none
 | k + 1, x6, x105, x175000, x175001 => if x105 = true then (some false) else ((span_Times.f k x175000 x175001 x6).bind fun bt196 => ((span_Times.f k x175000 x175001 (wrap64 (-x6))).bind fun bt200 => (if x6 = (-9223372036854775808) then (spillwaylaw03_SpanTight.j3 k true bt196.1 bt196.2.1 bt200.1 bt200.2.1) else (if bt196.2.2 = 0 then (spillwaylaw03_SpanTight.j3 k (bt200.2.2 != 0) bt196.1 bt196.2.1 bt200.1 bt200.2.1) else (spillwaylaw03_SpanTight.j3 k true bt196.1 bt196.2.1 bt200.1 bt200.2.1)))))
def spillwaylaw03_SpanTight.j3 : Nat → Bool → Int → Int → Int → Int → Option (Bool)
 | 0, _, _, _, _, _ => none
 | k + 1, x128, x200000, x200001, x204000, x204001 => if x128 = true then (some true) else (if x200000 = (wrap64 (-x204001)) then (if x200001 = (wrap64 (-x204000)) then (some (decide (x200000 ≤ x200001))) else (some false)) else (some false))
def spillwaylaw03_SpanTight.j0 : Nat → Int → Int → Bool → Int → Int → Int → Int → Int → Int → Int → Int → Option (Bool)
 | 0, _, _, _, _, _, _, _, _, _, _, _ => none
 | k + 1, x6, x8, x68, x175000, x175001, x176000, x176001, x177000, x177001, x182000, x182001 => if x68 = true then (some false) else (spillwaylaw03_SpanTight.j1 k x6 x8 x175000 x175001 x176000 x176001 x177000 x177001 x182000 x182001)
end
def spillwaylaw03_SpanTight.f (k : Nat) (a0_0 : Int) (a0_1 : Int) (a0_2 : Int) (a0_3 : Int) (a0_4 : Int) (a0_5 : Int) (a0_6 : Int) : Option (Bool) := (spillwaylaw03_fixed.f k).bind fun t177 => (if t177 = true then ((span_Add.f k a0_0 a0_1 a0_2 a0_3).bind fun bt178 => (if bt178.2.2 = 0 then ((num_Add.f a0_0 a0_2).bind fun bt182 => ((num_Add.f a0_1 a0_3).bind fun bt184 => (if bt182.2 = 0 then (if bt184.2 = 0 then (if bt178.1 = bt182.1 then (spillwaylaw03_SpanTight.j0 k a0_6 bt178.2.2 (bt178.2.1 != bt184.1) a0_0 a0_1 a0_2 a0_3 a0_4 a0_5 bt178.1 bt178.2.1) else (spillwaylaw03_SpanTight.j0 k a0_6 bt178.2.2 true a0_0 a0_1 a0_2 a0_3 a0_4 a0_5 bt178.1 bt178.2.1)) else (spillwaylaw03_SpanTight.j0 k a0_6 bt178.2.2 true a0_0 a0_1 a0_2 a0_3 a0_4 a0_5 bt178.1 bt178.2.1)) else (spillwaylaw03_SpanTight.j0 k a0_6 bt178.2.2 true a0_0 a0_1 a0_2 a0_3 a0_4 a0_5 bt178.1 bt178.2.1)))) else (spillwaylaw03_SpanTight.j1 k a0_6 bt178.2.2 a0_0 a0_1 a0_2 a0_3 a0_4 a0_5 bt178.1 bt178.2.1))) else (some false))
theorem spillwaylaw03_SpanTight.mono_l : ∀ k, (∀ y0 y1 y2 y3 y4 y5 y6 y7 y8 y9, LeO (spillwaylaw03_SpanTight.j1 k y0 y1 y2 y3 y4 y5 y6 y7 y8 y9) (spillwaylaw03_SpanTight.j1 (k + 1) y0 y1 y2 y3 y4 y5 y6 y7 y8 y9)) ∧ (∀ y0 y1 y2 y3, LeO (spillwaylaw03_SpanTight.j2 k y0 y1 y2 y3) (spillwaylaw03_SpanTight.j2 (k + 1) y0 y1 y2 y3)) ∧ (∀ y0 y1 y2 y3 y4, LeO (spillwaylaw03_SpanTight.j3 k y0 y1 y2 y3 y4) (spillwaylaw03_SpanTight.j3 (k + 1) y0 y1 y2 y3 y4)) ∧ (∀ y0 y1 y2 y3 y4 y5 y6 y7 y8 y9 y10, LeO (spillwaylaw03_SpanTight.j0 k y0 y1 y2 y3 y4 y5 y6 y7 y8 y9 y10) (spillwaylaw03_SpanTight.j0 (k + 1) y0 y1 y2 y3 y4 y5 y6 y7 y8 y9 y10))
 | 0 => ⟨fun _ _ _ _ _ _ _ _ _ _ r h => by simp [spillwaylaw03_SpanTight.j1] at h, fun _ _ _ _ r h => by simp [spillwaylaw03_SpanTight.j2] at h, fun _ _ _ _ _ r h => by simp [spillwaylaw03_SpanTight.j3] at h, fun _ _ _ _ _ _ _ _ _ _ _ r h => by simp [spillwaylaw03_SpanTight.j0] at h⟩
 | k + 1 => by
  obtain ⟨ih0, ih1, ih2, ih3⟩ := spillwaylaw03_SpanTight.mono_l k
  refine ⟨?_, ?_, ?_, ?_⟩
  ·intro y0 y1 y2 y3 y4 y5 y6 y7 y8 y9
   unfold spillwaylaw03_SpanTight.j1
   repeat' first
   | (with_reducible exact ih0 _ _ _ _ _ _ _ _ _ _)
   | (with_reducible exact ih1 _ _ _ _)
   | (with_reducible exact ih2 _ _ _ _ _)
   | (with_reducible exact ih3 _ _ _ _ _ _ _ _ _ _ _)
   | (with_reducible exact span_Add.mono _ _ _ _ _)
   | (with_reducible exact span_Times.mono _ _ _ _)
   | (with_reducible exact spillwaylaw03_fixed.mono _)
   | (with_reducible exact LeO.refl _)
   | (with_reducible exact LeO.none _)
   | (with_reducible refine LeO.ite ?_ ?_)
   | (with_reducible refine LeO.bind ?_ (fun _ => ?_))
   | exact ih0 _ _ _ _ _ _ _ _ _ _
   | exact ih1 _ _ _ _
   | exact ih2 _ _ _ _ _
   | exact ih3 _ _ _ _ _ _ _ _ _ _ _
   | exact span_Add.mono _ _ _ _ _
   | exact span_Times.mono _ _ _ _
   | exact spillwaylaw03_fixed.mono _
   | exact LeO.none _
   | refine LeO.ite ?_ ?_
   | refine LeO.bind ?_ (fun _ => ?_)
  ·intro y0 y1 y2 y3
   unfold spillwaylaw03_SpanTight.j2
   repeat' first
   | (with_reducible exact ih0 _ _ _ _ _ _ _ _ _ _)
   | (with_reducible exact ih1 _ _ _ _)
   | (with_reducible exact ih2 _ _ _ _ _)
   | (with_reducible exact ih3 _ _ _ _ _ _ _ _ _ _ _)
   | (with_reducible exact span_Add.mono _ _ _ _ _)
   | (with_reducible exact span_Times.mono _ _ _ _)
   | (with_reducible exact spillwaylaw03_fixed.mono _)
   | (with_reducible exact LeO.refl _)
   | (with_reducible exact LeO.none _)
   | (with_reducible refine LeO.ite ?_ ?_)
   | (with_reducible refine LeO.bind ?_ (fun _ => ?_))
   | exact ih0 _ _ _ _ _ _ _ _ _ _
   | exact ih1 _ _ _ _
   | exact ih2 _ _ _ _ _
   | exact ih3 _ _ _ _ _ _ _ _ _ _ _
   | exact span_Add.mono _ _ _ _ _
   | exact span_Times.mono _ _ _ _
   | exact spillwaylaw03_fixed.mono _
   | exact LeO.none _
   | refine LeO.ite ?_ ?_
   | refine LeO.bind ?_ (fun _ => ?_)
  ·intro y0 y1 y2 y3 y4
   unfold spillwaylaw03_SpanTight.j3
   repeat' first
   | (with_reducible exact ih0 _ _ _ _ _ _ _ _ _ _)
   | (with_reducible exact ih1 _ _ _ _)
   | (with_reducible exact ih2 _ _ _ _ _)
   | (with_reducible exact ih3 _ _ _ _ _ _ _ _ _ _ _)
   | (with_reducible exact span_Add.mono _ _ _ _ _)
   | (with_reducible exact span_Times.mono _ _ _ _)
   | (with_reducible exact spillwaylaw03_fixed.mono _)
   | (with_reducible exact LeO.refl _)
   | (with_reducible exact LeO.none _)
   | (with_reducible refine LeO.ite ?_ ?_)
   | (with_reducible refine LeO.bind ?_ (fun _ => ?_))
   | exact ih0 _ _ _ _ _ _ _ _ _ _
   | exact ih1 _ _ _ _
   | exact ih2 _ _ _ _ _
   | exact ih3 _ _ _ _ _ _ _ _ _ _ _
   | exact span_Add.mono _ _ _ _ _
   | exact span_Times.mono _ _ _ _
   | exact spillwaylaw03_fixed.mono _
   | exact LeO.none _
   | refine LeO.ite ?_ ?_
   | refine LeO.bind ?_ (fun _ => ?_)
  ·intro y0 y1 y2 y3 y4 y5 y6 y7 y8 y9 y10
   unfold spillwaylaw03_SpanTight.j0
   repeat' first
   | (with_reducible exact ih0 _ _ _ _ _ _ _ _ _ _)
   | (with_reducible exact ih1 _ _ _ _)
   | (with_reducible exact ih2 _ _ _ _ _)
   | (with_reducible exact ih3 _ _ _ _ _ _ _ _ _ _ _)
   | (with_reducible exact span_Add.mono _ _ _ _ _)
   | (with_reducible exact span_Times.mono _ _ _ _)
   | (with_reducible exact spillwaylaw03_fixed.mono _)
   | (with_reducible exact LeO.refl _)
   | (with_reducible exact LeO.none _)
   | (with_reducible refine LeO.ite ?_ ?_)
   | (with_reducible refine LeO.bind ?_ (fun _ => ?_))
   | exact ih0 _ _ _ _ _ _ _ _ _ _
   | exact ih1 _ _ _ _
   | exact ih2 _ _ _ _ _
   | exact ih3 _ _ _ _ _ _ _ _ _ _ _
   | exact span_Add.mono _ _ _ _ _
   | exact span_Times.mono _ _ _ _
   | exact spillwaylaw03_fixed.mono _
   | exact LeO.none _
   | refine LeO.ite ?_ ?_
   | refine LeO.bind ?_ (fun _ => ?_)
theorem spillwaylaw03_SpanTight.mono : ∀ a0 a1 a2 a3 a4 a5 a6 k, LeO (spillwaylaw03_SpanTight.f k a0 a1 a2 a3 a4 a5 a6) (spillwaylaw03_SpanTight.f (k + 1) a0 a1 a2 a3 a4 a5 a6) := by
 intro a0 a1 a2 a3 a4 a5 a6 k
 obtain ⟨ih0, ih1, ih2, ih3⟩ := spillwaylaw03_SpanTight.mono_l k
 unfold spillwaylaw03_SpanTight.f
 repeat' first
   | (with_reducible exact ih0 _ _ _ _ _ _ _ _ _ _)
   | (with_reducible exact ih1 _ _ _ _)
   | (with_reducible exact ih2 _ _ _ _ _)
   | (with_reducible exact ih3 _ _ _ _ _ _ _ _ _ _ _)
   | (with_reducible exact span_Add.mono _ _ _ _ _)
   | (with_reducible exact span_Times.mono _ _ _ _)
   | (with_reducible exact spillwaylaw03_fixed.mono _)
   | (with_reducible exact LeO.refl _)
   | (with_reducible exact LeO.none _)
   | (with_reducible refine LeO.ite ?_ ?_)
   | (with_reducible refine LeO.bind ?_ (fun _ => ?_))
   | exact ih0 _ _ _ _ _ _ _ _ _ _
   | exact ih1 _ _ _ _
   | exact ih2 _ _ _ _ _
   | exact ih3 _ _ _ _ _ _ _ _ _ _ _
   | exact span_Add.mono _ _ _ _ _
   | exact span_Times.mono _ _ _ _
   | exact spillwaylaw03_fixed.mono _
   | exact LeO.none _
   | refine LeO.ite ?_ ?_
   | refine LeO.bind ?_ (fun _ => ?_)
def spillwaylaw03_SpanTight.T1 : Bool × List (List Nat × List Nat) := (true, [([], []), ([0], [0]), ([], []), ([2], [2]), ([], []), ([4], [4]), ([], []), ([6], [6]), ([], []), ([], []), ([], []), ([8, 1, 0, 1, 8, 9, 10], [1, 8]), ([9, 3, 11, 0, 1, 2, 3, 8, 9, 10, 11], [3, 9]), ([10, 5, 12, 0, 1, 2, 3, 4, 5, 8, 9, 10, 11, 12], [5, 10]), ([7, 13, 0, 1, 2, 3, 4, 5, 6, 7, 8, 9, 10, 11, 12, 13], [7])])
def spillwaylaw03_SpanTight.B1 : List Nat := [0, 1, 0, 4, 0, 16, 0, 64, 0, 0, 0, 1795, 3855, 7999, 16383]
theorem spillwaylaw03_SpanTight.tab1 : rtab .any (opsOf Try.f6 1) = spillwaylaw03_SpanTight.T1 := by kernel_rfl
theorem spillwaylaw03_SpanTight.bits1 : waitsOk spillwaylaw03_SpanTight.T1.2 spillwaylaw03_SpanTight.B1 = true := by kernel_rfl
def spillwaylaw03_SpanTight.T11 : Bool × List (List Nat × List Nat) := (true, [([], []), ([], []), ([0, 1], [0, 1]), ([2, 2], [2]), ([3], [3]), ([4, 3], [3, 4]), ([3, 5], [3, 5]), ([6, 3], [6]), ([7], [7]), ([8, 7], [7, 8]), ([7], [7]), ([10, 7, 7], [7, 10]), ([9, 11, 7], [7, 9, 11]), ([7, 12], [7, 12]), ([13, 11], [13]), ([14], [14]), ([15, 14], [14, 15]), ([16, 14, 14], [14, 16]), ([17], [17]), ([18, 17], [17, 18]), ([17, 19, 14], [14, 17, 19]), ([20, 17, 14], [14, 20]), ([21], [21]), ([21], [21]), ([22, 23, 21, 21], [21, 22, 23]), ([21], [21]), ([21], [21]), ([25, 26, 24, 21], [21, 25, 26]), ([24, 27, 21], [21, 24, 27]), ([21, 28, 14], [14, 21, 28]), ([14, 29], [14, 29])])
def spillwaylaw03_SpanTight.B11 : List Nat := [0, 0, 3, 7, 15, 31, 63, 127, 255, 511, 255, 1279, 4095, 8191, 16383, 32767, 65535, 131071, 262143, 524287, 1048575, 2097151, 4194303, 4194303, 16777215, 4194303, 4194303, 134217727, 268435455, 536870911, 1073741823]
theorem spillwaylaw03_SpanTight.tab11 : rtab .any (opsOf Try.f6 11) = spillwaylaw03_SpanTight.T11 := by kernel_rfl
theorem spillwaylaw03_SpanTight.bits11 : waitsOk spillwaylaw03_SpanTight.T11.2 spillwaylaw03_SpanTight.B11 = true := by kernel_rfl
set_option maxHeartbeats 8000000 in
set_option maxRecDepth 100000 in
theorem spillwaylaw03_SpanTight.calls (k : Nat) (a0_0 : Int) (a0_1 : Int) (a0_2 : Int) (a0_3 : Int) (a0_4 : Int) (a0_5 : Int) (a0_6 : Int) (r : Bool) (w : World) (hrt : r = true) (h : spillwaylaw03_SpanTight.f k a0_0 a0_1 a0_2 a0_3 a0_4 a0_5 a0_6 = some r) :
  Calls Try.prog 6 #[.agg #[.int .i64 a0_0, .int .i64 a0_1, .int .i64 a0_2, .int .i64 a0_3, .int .i64 a0_4, .int .i64 a0_5, .int .i64 a0_6]] w fun e w' => e = .returned (.bool r) ∧ Below w.heap.size w w' := by
 have hu40 := Try.underlying40
 have hu23 := Try.underlying23
 have HB := Aside0.mk (Below.refl w.heap.size w)
 have H : ((spillwaylaw03_fixed.f k).bind fun t177 => (if t177 = true then ((span_Add.f k a0_0 a0_1 a0_2 a0_3).bind fun bt178 => (if bt178.2.2 = 0 then ((num_Add.f a0_0 a0_2).bind fun bt182 => ((num_Add.f a0_1 a0_3).bind fun bt184 => (if bt182.2 = 0 then (if bt184.2 = 0 then (if bt178.1 = bt182.1 then (spillwaylaw03_SpanTight.j0 k a0_6 bt178.2.2 (bt178.2.1 != bt184.1) a0_0 a0_1 a0_2 a0_3 a0_4 a0_5 bt178.1 bt178.2.1) else (spillwaylaw03_SpanTight.j0 k a0_6 bt178.2.2 true a0_0 a0_1 a0_2 a0_3 a0_4 a0_5 bt178.1 bt178.2.1)) else (spillwaylaw03_SpanTight.j0 k a0_6 bt178.2.2 true a0_0 a0_1 a0_2 a0_3 a0_4 a0_5 bt178.1 bt178.2.1)) else (spillwaylaw03_SpanTight.j0 k a0_6 bt178.2.2 true a0_0 a0_1 a0_2 a0_3 a0_4 a0_5 bt178.1 bt178.2.1)))) else (spillwaylaw03_SpanTight.j1 k a0_6 bt178.2.2 a0_0 a0_1 a0_2 a0_3 a0_4 a0_5 bt178.1 bt178.2.1))) else (some false))) = some r := h
 clear h
 have HRT := Aside0.mk hrt
 clear hrt
 replace H := Option.bind_eq_some_iff.mp H
 obtain ⟨t177, A20, H⟩ := H
 replace H : (if t177 = true then ((span_Add.f k a0_0 a0_1 a0_2 a0_3).bind fun bt178 => (if bt178.2.2 = 0 then ((num_Add.f a0_0 a0_2).bind fun bt182 => ((num_Add.f a0_1 a0_3).bind fun bt184 => (if bt182.2 = 0 then (if bt184.2 = 0 then (if bt178.1 = bt182.1 then (spillwaylaw03_SpanTight.j0 k a0_6 bt178.2.2 (bt178.2.1 != bt184.1) a0_0 a0_1 a0_2 a0_3 a0_4 a0_5 bt178.1 bt178.2.1) else (spillwaylaw03_SpanTight.j0 k a0_6 bt178.2.2 true a0_0 a0_1 a0_2 a0_3 a0_4 a0_5 bt178.1 bt178.2.1)) else (spillwaylaw03_SpanTight.j0 k a0_6 bt178.2.2 true a0_0 a0_1 a0_2 a0_3 a0_4 a0_5 bt178.1 bt178.2.1)) else (spillwaylaw03_SpanTight.j0 k a0_6 bt178.2.2 true a0_0 a0_1 a0_2 a0_3 a0_4 a0_5 bt178.1 bt178.2.1)))) else (spillwaylaw03_SpanTight.j1 k a0_6 bt178.2.2 a0_0 a0_1 a0_2 a0_3 a0_4 a0_5 bt178.1 bt178.2.1))) else (some false)) = some r := H
 have A2 := Aside0.mk A20
 clear A20
 by_cases c3 : t177 = true
 ·subst c3
  have H1 : ((span_Add.f k a0_0 a0_1 a0_2 a0_3).bind fun bt178 => (if bt178.2.2 = 0 then ((num_Add.f a0_0 a0_2).bind fun bt182 => ((num_Add.f a0_1 a0_3).bind fun bt184 => (if bt182.2 = 0 then (if bt184.2 = 0 then (if bt178.1 = bt182.1 then (spillwaylaw03_SpanTight.j0 k a0_6 bt178.2.2 (bt178.2.1 != bt184.1) a0_0 a0_1 a0_2 a0_3 a0_4 a0_5 bt178.1 bt178.2.1) else (spillwaylaw03_SpanTight.j0 k a0_6 bt178.2.2 true a0_0 a0_1 a0_2 a0_3 a0_4 a0_5 bt178.1 bt178.2.1)) else (spillwaylaw03_SpanTight.j0 k a0_6 bt178.2.2 true a0_0 a0_1 a0_2 a0_3 a0_4 a0_5 bt178.1 bt178.2.1)) else (spillwaylaw03_SpanTight.j0 k a0_6 bt178.2.2 true a0_0 a0_1 a0_2 a0_3 a0_4 a0_5 bt178.1 bt178.2.1)))) else (spillwaylaw03_SpanTight.j1 k a0_6 bt178.2.2 a0_0 a0_1 a0_2 a0_3 a0_4 a0_5 bt178.1 bt178.2.1))) = some r := by rw [if_pos rfl] at H; exact H
  clear H
  have H := H1
  clear H1
  replace H := Option.bind_eq_some_iff.mp H
  obtain ⟨⟨t178, t179, t180⟩, A40, H⟩ := H
  replace H : (if t180 = 0 then ((num_Add.f a0_0 a0_2).bind fun bt182 => ((num_Add.f a0_1 a0_3).bind fun bt184 => (if bt182.2 = 0 then (if bt184.2 = 0 then (if t178 = bt182.1 then (spillwaylaw03_SpanTight.j0 k a0_6 t180 (t179 != bt184.1) a0_0 a0_1 a0_2 a0_3 a0_4 a0_5 t178 t179) else (spillwaylaw03_SpanTight.j0 k a0_6 t180 true a0_0 a0_1 a0_2 a0_3 a0_4 a0_5 t178 t179)) else (spillwaylaw03_SpanTight.j0 k a0_6 t180 true a0_0 a0_1 a0_2 a0_3 a0_4 a0_5 t178 t179)) else (spillwaylaw03_SpanTight.j0 k a0_6 t180 true a0_0 a0_1 a0_2 a0_3 a0_4 a0_5 t178 t179)))) else (spillwaylaw03_SpanTight.j1 k a0_6 t180 a0_0 a0_1 a0_2 a0_3 a0_4 a0_5 t178 t179)) = some r := H
  have A4 := Aside0.mk A40
  clear A40
  have HC5 := Aside0.mk H
  clear H
  go_enter Try.func6, Try.ntmps6
  try go_wp2_with (first | ((with_reducible refine gate_dst (N := 1) rfl ?_); refine box_event ?hg (N := 1) ?hd (cs := #[.int .i64 a0_0, .int .i64 a0_1, .int .i64 a0_2, .int .i64 a0_3, .int .i64 a0_4, .int .i64 a0_5, .int .i64 a0_6]) (t := 40) ?hr ?_; (case hd => rfl); (case hg => rfl); (case hr => first | (go_simp; done) | (go_simp; rfl)); intro gb173 hg w6 hbox hb; have n0_ := Aside0.mk (below_step (by repeat (first | (with_reducible first | exact HB.out | apply bA | apply bD | apply bW) | exact HB.out)) hb); have n1_ := Aside0.mk (hbox); have n2_ := Aside0.mk ((by rw [hg]; exact (below_size (by repeat (first | (with_reducible first | exact HB.out | apply bA | apply bD | apply bW) | exact HB.out))) : w.heap.size ≤ gb173)); have n3_ := Aside0.mk ((by rw [hg]; exact (below_size (by repeat (first | (with_reducible first | exact HB.out | apply bA | apply bD | apply bW) | exact HB.out))) : w.heap.size ≤ gb173)); clear HB; have HB := n0_; have BK173 := n1_; have GW173 := n2_; have GE173 := n3_; clear n0_ n1_ n2_ n3_; clear hb hbox hg))
  have n0_ := Aside0.mk (blk_drew BK173.out)
  have n1_ := Aside0.mk (below_drew1 HB.out)
  clear BK173
  clear HB
  have BK173 := n0_
  have HB := n1_
  clear n0_ n1_
  refine start_ (n := 15) (S := fun w' => w'.cell? ⟨gb173, 0, none⟩ = some (.int .i64 a0_0) ∧ w'.cell? ⟨gb173, 1, none⟩ = some (.int .i64 a0_1) ∧ w'.cell? ⟨gb173, 2, none⟩ = some (.int .i64 a0_2) ∧ w'.cell? ⟨gb173, 3, none⟩ = some (.int .i64 a0_3) ∧ w'.cell? ⟨gb173, 4, none⟩ = some (.int .i64 a0_4) ∧ w'.cell? ⟨gb173, 5, none⟩ = some (.int .i64 a0_5) ∧ w'.cell? ⟨gb173, 6, none⟩ = some (.int .i64 a0_6)) (ds := []) tf15_0 (by kernel_rfl) rfl rfl ⟨(blk_cell BK173.out 0).trans rfl, (blk_cell BK173.out 1).trans rfl, (blk_cell BK173.out 2).trans rfl, (blk_cell BK173.out 3).trans rfl, (blk_cell BK173.out 4).trans rfl, (blk_cell BK173.out 5).trans rfl, (blk_cell BK173.out 6).trans rfl⟩ (fun hHeld => ?_); refine with_tabW spillwaylaw03_SpanTight.tab1 spillwaylaw03_SpanTight.bits1 (fun HT_ HW_ => ?_)
  generalize w6.drew = w7 at BK173 HB hHeld ⊢
  refine pure_ (i := 0) (N := some 17) (v := ?_) (a' := ?_) tf15_4000 rfl rfl (any_of HT_.out (by kernel_rfl)) (fun _ _ _ h => h) (Or.inl ⟨by rfl, ?_⟩) ?_ ?_
  rotate_left
  ·intro w'
   go_simp
   with_reducible rfl
  rotate_left
  ·simp only [Act.put, sA, sZ, sS, i64_w, i32_w]
   rfl
  refine pure_ (i := 2) (N := some 19) (v := ?_) (a' := ?_) tf15_5000 rfl rfl (any_of HT_.out (by kernel_rfl)) (fun _ _ _ h => h) (Or.inl ⟨by rfl, ?_⟩) ?_ ?_
  rotate_left
  ·intro w'
   go_simp
   with_reducible rfl
  rotate_left
  ·simp only [Act.put, sA, sZ, sS, i64_w, i32_w]
   rfl
  refine pure_ (i := 4) (N := some 21) (v := ?_) (a' := ?_) tf15_5400 rfl rfl (any_of HT_.out (by kernel_rfl)) (fun _ _ _ h => h) (Or.inl ⟨by rfl, ?_⟩) ?_ ?_
  rotate_left
  ·intro w'
   go_simp
   with_reducible rfl
  rotate_left
  ·simp only [Act.put, sA, sZ, sS, i64_w, i32_w]
   rfl
  refine pure_ (i := 6) (N := some 23) (v := ?_) (a' := ?_) tf15_5500 rfl rfl (any_of HT_.out (by kernel_rfl)) (fun _ _ _ h => h) (Or.inl ⟨by rfl, ?_⟩) ?_ ?_
  rotate_left
  ·intro w'
   go_simp
   with_reducible rfl
  rotate_left
  ·simp only [Act.put, sA, sZ, sS, i64_w, i32_w]
   rfl
  refine take_ (i := 1) (N := some 18) (v := ?_) (a' := ?_) tf15_7500 rfl rfl (take_ofW HT_.out HW_.out (by kernel_rfl)) (fun _ _ _ h => h) (Or.inl ⟨by rfl, ?_⟩) hHeld ?_ ?_
  rotate_left
  ·rintro w' ⟨s0, s1, s2, s3, s4, s5, s6⟩
   go_simp
   with_reducible rfl
  rotate_left
  ·simp only [Act.put, sA, sZ, sS, i64_w, i32_w]
   rfl
  refine take_ (i := 3) (N := some 20) (v := ?_) (a' := ?_) tf15_7d00 rfl rfl (take_ofW HT_.out HW_.out (by kernel_rfl)) (fun _ _ _ h => h) (Or.inl ⟨by rfl, ?_⟩) hHeld ?_ ?_
  rotate_left
  ·rintro w' ⟨s0, s1, s2, s3, s4, s5, s6⟩
   go_simp
   with_reducible rfl
  rotate_left
  ·simp only [Act.put, sA, sZ, sS, i64_w, i32_w]
   rfl
  refine take_ (i := 5) (N := some 22) (v := ?_) (a' := ?_) tf15_7f00 rfl rfl (take_ofW HT_.out HW_.out (by kernel_rfl)) (fun _ _ _ h => h) (Or.inl ⟨by rfl, ?_⟩) hHeld ?_ ?_
  rotate_left
  ·rintro w' ⟨s0, s1, s2, s3, s4, s5, s6⟩
   go_simp
   with_reducible rfl
  rotate_left
  ·simp only [Act.put, sA, sZ, sS, i64_w, i32_w]
   rfl
  refine take_ (i := 7) (N := some 24) (v := ?_) (a' := ?_) tf15_7f80 rfl rfl (take_ofW HT_.out HW_.out (by kernel_rfl)) (fun _ _ _ h => h) (Or.inl ⟨by rfl, ?_⟩) hHeld ?_ ?_
  rotate_left
  ·rintro w' ⟨s0, s1, s2, s3, s4, s5, s6⟩
   go_simp
   with_reducible rfl
  rotate_left
  ·simp only [Act.put, sA, sZ, sS, i64_w, i32_w]
   rfl
  refine join_ (σ := Nat × Nat × Nat) 4 tf15_7ff0 (fun s_ => [(3, .pointer (some ⟨s_.1, 0, none⟩)), (4, .pointer (some ⟨s_.2.1, 0, none⟩)), (5, .pointer (some ⟨s_.2.2, 0, none⟩))]) (fun s_ w' => (w'.cell? ⟨gb173, 0, none⟩ = some (.int .i64 a0_0) ∧ w'.cell? ⟨gb173, 1, none⟩ = some (.int .i64 a0_1) ∧ w'.cell? ⟨gb173, 2, none⟩ = some (.int .i64 a0_2) ∧ w'.cell? ⟨gb173, 3, none⟩ = some (.int .i64 a0_3) ∧ w'.cell? ⟨gb173, 4, none⟩ = some (.int .i64 a0_4) ∧ w'.cell? ⟨gb173, 5, none⟩ = some (.int .i64 a0_5) ∧ w'.cell? ⟨gb173, 6, none⟩ = some (.int .i64 a0_6)) ∧ (w'.heap[gb173]? = some (.cells #[.int .i64 a0_0, .int .i64 a0_1, .int .i64 a0_2, .int .i64 a0_3, .int .i64 a0_4, .int .i64 a0_5, .int .i64 a0_6] 40 (0, 0))) ∧ (w'.heap[s_.1]? = some (.cells #[.int .i64 0, .int .i64 0] 23 (0, 0))) ∧ (w'.heap[s_.2.1]? = some (.cells #[.int .i64 0, .int .i64 0] 23 (0, 0))) ∧ (w'.heap[s_.2.2]? = some (.cells #[.int .i64 0, .int .i64 0] 23 (0, 0))) ∧ (w.heap.size ≤ s_.1) ∧ (w.heap.size ≤ s_.1) ∧ (gb173 ≠ s_.1) ∧ (s_.1 ≠ gb173) ∧ (s_.2.1 ≠ s_.1) ∧ (s_.1 ≠ s_.2.1) ∧ (s_.2.2 ≠ s_.1) ∧ (s_.1 ≠ s_.2.2) ∧ (w.heap.size ≤ s_.2.1) ∧ (w.heap.size ≤ s_.2.1) ∧ (gb173 ≠ s_.2.1) ∧ (s_.2.1 ≠ gb173) ∧ (s_.2.2 ≠ s_.2.1) ∧ (s_.2.1 ≠ s_.2.2) ∧ (w.heap.size ≤ s_.2.2) ∧ (w.heap.size ≤ s_.2.2) ∧ (gb173 ≠ s_.2.2) ∧ (s_.2.2 ≠ gb173) ∧ (Below w.heap.size w w')) ?_ ?_
  rotate_left
  ·intro hJ8_9_10
   refine join_ (σ := Nat × Nat) 5 tf15_7fe0 (fun s_ => [(3, .pointer (some ⟨s_.1, 0, none⟩)), (4, .pointer (some ⟨s_.2, 0, none⟩))]) (fun s_ w' => (w'.cell? ⟨gb173, 0, none⟩ = some (.int .i64 a0_0) ∧ w'.cell? ⟨gb173, 1, none⟩ = some (.int .i64 a0_1) ∧ w'.cell? ⟨gb173, 2, none⟩ = some (.int .i64 a0_2) ∧ w'.cell? ⟨gb173, 3, none⟩ = some (.int .i64 a0_3) ∧ w'.cell? ⟨gb173, 4, none⟩ = some (.int .i64 a0_4) ∧ w'.cell? ⟨gb173, 5, none⟩ = some (.int .i64 a0_5) ∧ w'.cell? ⟨gb173, 6, none⟩ = some (.int .i64 a0_6)) ∧ (w'.heap[gb173]? = some (.cells #[.int .i64 a0_0, .int .i64 a0_1, .int .i64 a0_2, .int .i64 a0_3, .int .i64 a0_4, .int .i64 a0_5, .int .i64 a0_6] 40 (0, 0))) ∧ (w'.heap[s_.1]? = some (.cells #[.int .i64 0, .int .i64 0] 23 (0, 0))) ∧ (w'.heap[s_.2]? = some (.cells #[.int .i64 0, .int .i64 0] 23 (0, 0))) ∧ (w.heap.size ≤ s_.1) ∧ (w.heap.size ≤ s_.1) ∧ (gb173 ≠ s_.1) ∧ (s_.1 ≠ gb173) ∧ (s_.2 ≠ s_.1) ∧ (s_.1 ≠ s_.2) ∧ (w.heap.size ≤ s_.2) ∧ (w.heap.size ≤ s_.2) ∧ (gb173 ≠ s_.2) ∧ (s_.2 ≠ gb173) ∧ (Below w.heap.size w w')) ?_ ?_
   rotate_left
   ·intro hJ8_9
    refine join_ (σ := Nat × Nat) 5 tf15_7fd0 (fun s_ => [(3, .pointer (some ⟨s_.1, 0, none⟩)), (5, .pointer (some ⟨s_.2, 0, none⟩))]) (fun s_ w' => (w'.cell? ⟨gb173, 0, none⟩ = some (.int .i64 a0_0) ∧ w'.cell? ⟨gb173, 1, none⟩ = some (.int .i64 a0_1) ∧ w'.cell? ⟨gb173, 2, none⟩ = some (.int .i64 a0_2) ∧ w'.cell? ⟨gb173, 3, none⟩ = some (.int .i64 a0_3) ∧ w'.cell? ⟨gb173, 4, none⟩ = some (.int .i64 a0_4) ∧ w'.cell? ⟨gb173, 5, none⟩ = some (.int .i64 a0_5) ∧ w'.cell? ⟨gb173, 6, none⟩ = some (.int .i64 a0_6)) ∧ (w'.heap[gb173]? = some (.cells #[.int .i64 a0_0, .int .i64 a0_1, .int .i64 a0_2, .int .i64 a0_3, .int .i64 a0_4, .int .i64 a0_5, .int .i64 a0_6] 40 (0, 0))) ∧ (w'.heap[s_.1]? = some (.cells #[.int .i64 0, .int .i64 0] 23 (0, 0))) ∧ (w'.heap[s_.2]? = some (.cells #[.int .i64 0, .int .i64 0] 23 (0, 0))) ∧ (w.heap.size ≤ s_.1) ∧ (w.heap.size ≤ s_.1) ∧ (gb173 ≠ s_.1) ∧ (s_.1 ≠ gb173) ∧ (s_.2 ≠ s_.1) ∧ (s_.1 ≠ s_.2) ∧ (w.heap.size ≤ s_.2) ∧ (w.heap.size ≤ s_.2) ∧ (gb173 ≠ s_.2) ∧ (s_.2 ≠ gb173) ∧ (Below w.heap.size w w')) ?_ ?_
    rotate_left
    ·intro hJ8_10
     refine join_ (σ := Nat × Nat) 5 tf15_7fb0 (fun s_ => [(4, .pointer (some ⟨s_.1, 0, none⟩)), (5, .pointer (some ⟨s_.2, 0, none⟩))]) (fun s_ w' => (w'.cell? ⟨gb173, 0, none⟩ = some (.int .i64 a0_0) ∧ w'.cell? ⟨gb173, 1, none⟩ = some (.int .i64 a0_1) ∧ w'.cell? ⟨gb173, 2, none⟩ = some (.int .i64 a0_2) ∧ w'.cell? ⟨gb173, 3, none⟩ = some (.int .i64 a0_3) ∧ w'.cell? ⟨gb173, 4, none⟩ = some (.int .i64 a0_4) ∧ w'.cell? ⟨gb173, 5, none⟩ = some (.int .i64 a0_5) ∧ w'.cell? ⟨gb173, 6, none⟩ = some (.int .i64 a0_6)) ∧ (w'.heap[gb173]? = some (.cells #[.int .i64 a0_0, .int .i64 a0_1, .int .i64 a0_2, .int .i64 a0_3, .int .i64 a0_4, .int .i64 a0_5, .int .i64 a0_6] 40 (0, 0))) ∧ (w'.heap[s_.1]? = some (.cells #[.int .i64 0, .int .i64 0] 23 (0, 0))) ∧ (w'.heap[s_.2]? = some (.cells #[.int .i64 0, .int .i64 0] 23 (0, 0))) ∧ (w.heap.size ≤ s_.1) ∧ (w.heap.size ≤ s_.1) ∧ (gb173 ≠ s_.1) ∧ (s_.1 ≠ gb173) ∧ (s_.2 ≠ s_.1) ∧ (s_.1 ≠ s_.2) ∧ (w.heap.size ≤ s_.2) ∧ (w.heap.size ≤ s_.2) ∧ (gb173 ≠ s_.2) ∧ (s_.2 ≠ gb173) ∧ (Below w.heap.size w w')) ?_ ?_
     rotate_left
     ·intro hJ9_10
      refine join_ (σ := Nat) 6 tf15_7fc0 (fun s_ => [(3, .pointer (some ⟨s_, 0, none⟩))]) (fun s_ w' => (w'.cell? ⟨gb173, 0, none⟩ = some (.int .i64 a0_0) ∧ w'.cell? ⟨gb173, 1, none⟩ = some (.int .i64 a0_1) ∧ w'.cell? ⟨gb173, 2, none⟩ = some (.int .i64 a0_2) ∧ w'.cell? ⟨gb173, 3, none⟩ = some (.int .i64 a0_3) ∧ w'.cell? ⟨gb173, 4, none⟩ = some (.int .i64 a0_4) ∧ w'.cell? ⟨gb173, 5, none⟩ = some (.int .i64 a0_5) ∧ w'.cell? ⟨gb173, 6, none⟩ = some (.int .i64 a0_6)) ∧ (w'.heap[gb173]? = some (.cells #[.int .i64 a0_0, .int .i64 a0_1, .int .i64 a0_2, .int .i64 a0_3, .int .i64 a0_4, .int .i64 a0_5, .int .i64 a0_6] 40 (0, 0))) ∧ (w'.heap[s_]? = some (.cells #[.int .i64 0, .int .i64 0] 23 (0, 0))) ∧ (w.heap.size ≤ s_) ∧ (w.heap.size ≤ s_) ∧ (gb173 ≠ s_) ∧ (s_ ≠ gb173) ∧ (Below w.heap.size w w')) ?_ ?_
      rotate_left
      ·intro hJ8
       refine join_ (σ := Nat) 6 tf15_7fa0 (fun s_ => [(4, .pointer (some ⟨s_, 0, none⟩))]) (fun s_ w' => (w'.cell? ⟨gb173, 0, none⟩ = some (.int .i64 a0_0) ∧ w'.cell? ⟨gb173, 1, none⟩ = some (.int .i64 a0_1) ∧ w'.cell? ⟨gb173, 2, none⟩ = some (.int .i64 a0_2) ∧ w'.cell? ⟨gb173, 3, none⟩ = some (.int .i64 a0_3) ∧ w'.cell? ⟨gb173, 4, none⟩ = some (.int .i64 a0_4) ∧ w'.cell? ⟨gb173, 5, none⟩ = some (.int .i64 a0_5) ∧ w'.cell? ⟨gb173, 6, none⟩ = some (.int .i64 a0_6)) ∧ (w'.heap[gb173]? = some (.cells #[.int .i64 a0_0, .int .i64 a0_1, .int .i64 a0_2, .int .i64 a0_3, .int .i64 a0_4, .int .i64 a0_5, .int .i64 a0_6] 40 (0, 0))) ∧ (w'.heap[s_]? = some (.cells #[.int .i64 0, .int .i64 0] 23 (0, 0))) ∧ (w.heap.size ≤ s_) ∧ (w.heap.size ≤ s_) ∧ (gb173 ≠ s_) ∧ (s_ ≠ gb173) ∧ (Below w.heap.size w w')) ?_ ?_
       rotate_left
       ·intro hJ9
        refine join_ (σ := Nat) 6 tf15_7f90 (fun s_ => [(5, .pointer (some ⟨s_, 0, none⟩))]) (fun s_ w' => (w'.cell? ⟨gb173, 0, none⟩ = some (.int .i64 a0_0) ∧ w'.cell? ⟨gb173, 1, none⟩ = some (.int .i64 a0_1) ∧ w'.cell? ⟨gb173, 2, none⟩ = some (.int .i64 a0_2) ∧ w'.cell? ⟨gb173, 3, none⟩ = some (.int .i64 a0_3) ∧ w'.cell? ⟨gb173, 4, none⟩ = some (.int .i64 a0_4) ∧ w'.cell? ⟨gb173, 5, none⟩ = some (.int .i64 a0_5) ∧ w'.cell? ⟨gb173, 6, none⟩ = some (.int .i64 a0_6)) ∧ (w'.heap[gb173]? = some (.cells #[.int .i64 a0_0, .int .i64 a0_1, .int .i64 a0_2, .int .i64 a0_3, .int .i64 a0_4, .int .i64 a0_5, .int .i64 a0_6] 40 (0, 0))) ∧ (w'.heap[s_]? = some (.cells #[.int .i64 0, .int .i64 0] 23 (0, 0))) ∧ (w.heap.size ≤ s_) ∧ (w.heap.size ≤ s_) ∧ (gb173 ≠ s_) ∧ (s_ ≠ gb173) ∧ (Below w.heap.size w w')) ?_ ?_
        rotate_left
        ·intro hJ10
         refine three_ (i := 8) (j := 9) (k := 10) (Ni := some 3) (Nj := some 4) (Nk := some 5) tf15_7fc0 tf15_7fa0 tf15_7f90 rfl rfl rfl rfl rfl rfl (three_of HT_.out (by kernel_rfl)) (by decide) (by decide) (by decide) (fun K hK => ?_) (fun K hK => ?_) (fun K hK => ?_)
         ·skip
          refine box_step ?hg (N := 3) ?hd (cs := #[.int .i64 0, .int .i64 0]) (t := 23) ?hr ?_; (case hd => rfl); (case hg => rfl); (case hr => first | (go_simp; done) | (go_simp; rfl))
          intro gb174 hg w8 hbox hb
          have n0_ := Aside0.mk (blk_below (sp BK173.out) hb)
          have n1_ := Aside0.mk (below_step (by repeat (first | (with_reducible first | exact HB.out | apply bA | apply bD | apply bW | refine bS ?_ GE173.out) | exact HB.out)) hb)
          have n2_ := Aside0.mk (hbox)
          have n3_ := Aside0.mk ((by rw [hg]; exact (below_size (by repeat (first | (with_reducible first | exact HB.out | apply bA | apply bD | apply bW | refine bS ?_ GE173.out) | exact HB.out))) : w.heap.size ≤ gb174))
          have n4_ := Aside0.mk ((by rw [hg]; exact (below_size (by repeat (first | (with_reducible first | exact HB.out | apply bA | apply bD | apply bW | refine bS ?_ GE173.out) | exact HB.out))) : w.heap.size ≤ gb174))
          have n5_ := Aside0.mk ((by rw [hg]; exact Nat.ne_of_lt (blk_lt (g := gb173) (o := .cells #[.int .i64 a0_0, .int .i64 a0_1, .int .i64 a0_2, .int .i64 a0_3, .int .i64 a0_4, .int .i64 a0_5, .int .i64 a0_6] 40 (0, 0)) (sp BK173.out)) : gb173 ≠ gb174))
          have n6_ := Aside0.mk ((by rw [hg]; exact Nat.ne_of_gt (blk_lt (g := gb173) (o := .cells #[.int .i64 a0_0, .int .i64 a0_1, .int .i64 a0_2, .int .i64 a0_3, .int .i64 a0_4, .int .i64 a0_5, .int .i64 a0_6] 40 (0, 0)) (sp BK173.out)) : gb174 ≠ gb173))
          clear BK173
          clear HB
          have BK173 := n0_
          have HB := n1_
          have BK174 := n2_
          have GW174 := n3_
          have GE174 := n4_
          have NB173_174 := n5_
          have NB174_173 := n6_
          clear n0_ n1_ n2_ n3_ n4_ n5_ n6_
          clear hb hbox hg
          refine hK.out _ _ ⟨(blk_cell BK173.out 0).trans rfl, (blk_cell BK173.out 1).trans rfl, (blk_cell BK173.out 2).trans rfl, (blk_cell BK173.out 3).trans rfl, (blk_cell BK173.out 4).trans rfl, (blk_cell BK173.out 5).trans rfl, (blk_cell BK173.out 6).trans rfl⟩ (fun hHeld => ?_)
          clear hK K
          refine norm_ (a' := ?_) ?_ ?_
          rotate_left
          ·show Act.put _ (some 3) _ = _
           simp only [Act.put, sA, sZ, sS, i64_w, i32_w]
           rfl
          exact norm_ (by first | (simp only [putAll, Act.put, List.setIfInBounds_toArray, List.set_cons_zero, List.set_cons_succ]; done) | (simp only [putAll, Act.put, List.setIfInBounds_toArray, List.set_cons_zero, List.set_cons_succ]; rfl)) (hJ8 (gb174) _ ⟨hHeld, (sp BK173.out), (sp BK174.out), GW174.out, GE174.out, NB173_174.out, NB174_173.out, (by repeat (first | (with_reducible first | exact HB.out | apply bA | apply bD | apply bW | refine bS ?_ GE173.out | refine bS ?_ GE174.out) | exact HB.out))⟩)
         ·skip
          refine box_step ?hg (N := 4) ?hd (cs := #[.int .i64 0, .int .i64 0]) (t := 23) ?hr ?_; (case hd => rfl); (case hg => rfl); (case hr => first | (go_simp; done) | (go_simp; rfl))
          intro gb175 hg w8 hbox hb
          have n0_ := Aside0.mk (blk_below (sp BK173.out) hb)
          have n1_ := Aside0.mk (below_step (by repeat (first | (with_reducible first | exact HB.out | apply bA | apply bD | apply bW | refine bS ?_ GE173.out) | exact HB.out)) hb)
          have n2_ := Aside0.mk (hbox)
          have n3_ := Aside0.mk ((by rw [hg]; exact (below_size (by repeat (first | (with_reducible first | exact HB.out | apply bA | apply bD | apply bW | refine bS ?_ GE173.out) | exact HB.out))) : w.heap.size ≤ gb175))
          have n4_ := Aside0.mk ((by rw [hg]; exact (below_size (by repeat (first | (with_reducible first | exact HB.out | apply bA | apply bD | apply bW | refine bS ?_ GE173.out) | exact HB.out))) : w.heap.size ≤ gb175))
          have n5_ := Aside0.mk ((by rw [hg]; exact Nat.ne_of_lt (blk_lt (g := gb173) (o := .cells #[.int .i64 a0_0, .int .i64 a0_1, .int .i64 a0_2, .int .i64 a0_3, .int .i64 a0_4, .int .i64 a0_5, .int .i64 a0_6] 40 (0, 0)) (sp BK173.out)) : gb173 ≠ gb175))
          have n6_ := Aside0.mk ((by rw [hg]; exact Nat.ne_of_gt (blk_lt (g := gb173) (o := .cells #[.int .i64 a0_0, .int .i64 a0_1, .int .i64 a0_2, .int .i64 a0_3, .int .i64 a0_4, .int .i64 a0_5, .int .i64 a0_6] 40 (0, 0)) (sp BK173.out)) : gb175 ≠ gb173))
          clear BK173
          clear HB
          have BK173 := n0_
          have HB := n1_
          have BK175 := n2_
          have GW175 := n3_
          have GE175 := n4_
          have NB173_175 := n5_
          have NB175_173 := n6_
          clear n0_ n1_ n2_ n3_ n4_ n5_ n6_
          clear hb hbox hg
          refine hK.out _ _ ⟨(blk_cell BK173.out 0).trans rfl, (blk_cell BK173.out 1).trans rfl, (blk_cell BK173.out 2).trans rfl, (blk_cell BK173.out 3).trans rfl, (blk_cell BK173.out 4).trans rfl, (blk_cell BK173.out 5).trans rfl, (blk_cell BK173.out 6).trans rfl⟩ (fun hHeld => ?_)
          clear hK K
          refine norm_ (a' := ?_) ?_ ?_
          rotate_left
          ·show Act.put _ (some 4) _ = _
           simp only [Act.put, sA, sZ, sS, i64_w, i32_w]
           rfl
          exact norm_ (by first | (simp only [putAll, Act.put, List.setIfInBounds_toArray, List.set_cons_zero, List.set_cons_succ]; done) | (simp only [putAll, Act.put, List.setIfInBounds_toArray, List.set_cons_zero, List.set_cons_succ]; rfl)) (hJ9 (gb175) _ ⟨hHeld, (sp BK173.out), (sp BK175.out), GW175.out, GE175.out, NB173_175.out, NB175_173.out, (by repeat (first | (with_reducible first | exact HB.out | apply bA | apply bD | apply bW | refine bS ?_ GE173.out | refine bS ?_ GE175.out) | exact HB.out))⟩)
         ·skip
          refine box_step ?hg (N := 5) ?hd (cs := #[.int .i64 0, .int .i64 0]) (t := 23) ?hr ?_; (case hd => rfl); (case hg => rfl); (case hr => first | (go_simp; done) | (go_simp; rfl))
          intro gb176 hg w8 hbox hb
          have n0_ := Aside0.mk (blk_below (sp BK173.out) hb)
          have n1_ := Aside0.mk (below_step (by repeat (first | (with_reducible first | exact HB.out | apply bA | apply bD | apply bW | refine bS ?_ GE173.out) | exact HB.out)) hb)
          have n2_ := Aside0.mk (hbox)
          have n3_ := Aside0.mk ((by rw [hg]; exact (below_size (by repeat (first | (with_reducible first | exact HB.out | apply bA | apply bD | apply bW | refine bS ?_ GE173.out) | exact HB.out))) : w.heap.size ≤ gb176))
          have n4_ := Aside0.mk ((by rw [hg]; exact (below_size (by repeat (first | (with_reducible first | exact HB.out | apply bA | apply bD | apply bW | refine bS ?_ GE173.out) | exact HB.out))) : w.heap.size ≤ gb176))
          have n5_ := Aside0.mk ((by rw [hg]; exact Nat.ne_of_lt (blk_lt (g := gb173) (o := .cells #[.int .i64 a0_0, .int .i64 a0_1, .int .i64 a0_2, .int .i64 a0_3, .int .i64 a0_4, .int .i64 a0_5, .int .i64 a0_6] 40 (0, 0)) (sp BK173.out)) : gb173 ≠ gb176))
          have n6_ := Aside0.mk ((by rw [hg]; exact Nat.ne_of_gt (blk_lt (g := gb173) (o := .cells #[.int .i64 a0_0, .int .i64 a0_1, .int .i64 a0_2, .int .i64 a0_3, .int .i64 a0_4, .int .i64 a0_5, .int .i64 a0_6] 40 (0, 0)) (sp BK173.out)) : gb176 ≠ gb173))
          clear BK173
          clear HB
          have BK173 := n0_
          have HB := n1_
          have BK176 := n2_
          have GW176 := n3_
          have GE176 := n4_
          have NB173_176 := n5_
          have NB176_173 := n6_
          clear n0_ n1_ n2_ n3_ n4_ n5_ n6_
          clear hb hbox hg
          refine hK.out _ _ ⟨(blk_cell BK173.out 0).trans rfl, (blk_cell BK173.out 1).trans rfl, (blk_cell BK173.out 2).trans rfl, (blk_cell BK173.out 3).trans rfl, (blk_cell BK173.out 4).trans rfl, (blk_cell BK173.out 5).trans rfl, (blk_cell BK173.out 6).trans rfl⟩ (fun hHeld => ?_)
          clear hK K
          refine norm_ (a' := ?_) ?_ ?_
          rotate_left
          ·show Act.put _ (some 5) _ = _
           simp only [Act.put, sA, sZ, sS, i64_w, i32_w]
           rfl
          exact norm_ (by first | (simp only [putAll, Act.put, List.setIfInBounds_toArray, List.set_cons_zero, List.set_cons_succ]; done) | (simp only [putAll, Act.put, List.setIfInBounds_toArray, List.set_cons_zero, List.set_cons_succ]; rfl)) (hJ10 (gb176) _ ⟨hHeld, (sp BK173.out), (sp BK176.out), GW176.out, GE176.out, NB173_176.out, NB176_173.out, (by repeat (first | (with_reducible first | exact HB.out | apply bA | apply bD | apply bW | refine bS ?_ GE173.out | refine bS ?_ GE176.out) | exact HB.out))⟩)
        ·skip
         rintro gb176 w9 ⟨hS_, h0_, h1_, h2_, h3_, h4_, h5_, h6_⟩
         have n0_ : Aside0 (w9.heap[gb173]? = some (.cells #[.int .i64 a0_0, .int .i64 a0_1, .int .i64 a0_2, .int .i64 a0_3, .int .i64 a0_4, .int .i64 a0_5, .int .i64 a0_6] 40 (0, 0))) := ⟨h0_⟩
         have n1_ : Aside0 (w9.heap[gb176]? = some (.cells #[.int .i64 0, .int .i64 0] 23 (0, 0))) := ⟨h1_⟩
         have n2_ : Aside0 (w.heap.size ≤ gb176) := ⟨h2_⟩
         have n3_ : Aside0 (w.heap.size ≤ gb176) := ⟨h3_⟩
         have n4_ : Aside0 (gb173 ≠ gb176) := ⟨h4_⟩
         have n5_ : Aside0 (gb176 ≠ gb173) := ⟨h5_⟩
         have n6_ : Aside0 (Below w.heap.size w w9) := ⟨h6_⟩
         clear BK173
         clear HB
         clear h0_ h1_ h2_ h3_ h4_ h5_ h6_
         have BK173 := n0_
         have BK176 := n1_
         have GW176 := n2_
         have GE176 := n3_
         have NB173_176 := n4_
         have NB176_173 := n5_
         have HB := n6_
         clear n0_ n1_ n2_ n3_ n4_ n5_ n6_
         have hHeld : w9.cell? ⟨gb173, 0, none⟩ = some (.int .i64 a0_0) ∧ w9.cell? ⟨gb173, 1, none⟩ = some (.int .i64 a0_1) ∧ w9.cell? ⟨gb173, 2, none⟩ = some (.int .i64 a0_2) ∧ w9.cell? ⟨gb173, 3, none⟩ = some (.int .i64 a0_3) ∧ w9.cell? ⟨gb173, 4, none⟩ = some (.int .i64 a0_4) ∧ w9.cell? ⟨gb173, 5, none⟩ = some (.int .i64 a0_5) ∧ w9.cell? ⟨gb173, 6, none⟩ = some (.int .i64 a0_6) := hS_
         refine norm_ (a' := ?_) ?_ ?_
         rotate_left
         ·simp only [putAll, Act.put, List.setIfInBounds_toArray, List.set_cons_zero, List.set_cons_succ]
          rfl
         refine two_ (i := 8) (j := 9) (Ni := some 3) (Nj := some 4) tf15_7fd0 tf15_7fb0 rfl rfl rfl rfl (two_of HT_.out (by kernel_rfl)) (by decide) (by decide) (fun K hK => ?_) (fun K hK => ?_)
         ·skip
          refine box_step ?hg (N := 3) ?hd (cs := #[.int .i64 0, .int .i64 0]) (t := 23) ?hr ?_; (case hd => rfl); (case hg => rfl); (case hr => first | (go_simp; done) | (go_simp; rfl))
          intro gb174 hg w10 hbox hb
          have n0_ := Aside0.mk (blk_below (sp BK173.out) hb)
          have n1_ := Aside0.mk (blk_below (sp BK176.out) hb)
          have n2_ := Aside0.mk (below_step (by repeat (first | (with_reducible first | exact HB.out | apply bA | apply bD | apply bW | refine bS ?_ GE173.out | refine bS ?_ GE176.out) | exact HB.out)) hb)
          have n3_ := Aside0.mk (hbox)
          have n4_ := Aside0.mk ((by rw [hg]; exact (below_size (by repeat (first | (with_reducible first | exact HB.out | apply bA | apply bD | apply bW | refine bS ?_ GE173.out | refine bS ?_ GE176.out) | exact HB.out))) : w.heap.size ≤ gb174))
          have n5_ := Aside0.mk ((by rw [hg]; exact (below_size (by repeat (first | (with_reducible first | exact HB.out | apply bA | apply bD | apply bW | refine bS ?_ GE173.out | refine bS ?_ GE176.out) | exact HB.out))) : w.heap.size ≤ gb174))
          have n6_ := Aside0.mk ((by rw [hg]; exact Nat.ne_of_lt (blk_lt (g := gb173) (o := .cells #[.int .i64 a0_0, .int .i64 a0_1, .int .i64 a0_2, .int .i64 a0_3, .int .i64 a0_4, .int .i64 a0_5, .int .i64 a0_6] 40 (0, 0)) (sp BK173.out)) : gb173 ≠ gb174))
          have n7_ := Aside0.mk ((by rw [hg]; exact Nat.ne_of_gt (blk_lt (g := gb173) (o := .cells #[.int .i64 a0_0, .int .i64 a0_1, .int .i64 a0_2, .int .i64 a0_3, .int .i64 a0_4, .int .i64 a0_5, .int .i64 a0_6] 40 (0, 0)) (sp BK173.out)) : gb174 ≠ gb173))
          have n8_ := Aside0.mk ((by rw [hg]; exact Nat.ne_of_lt (blk_lt (g := gb176) (o := .cells #[.int .i64 0, .int .i64 0] 23 (0, 0)) (sp BK176.out)) : gb176 ≠ gb174))
          have n9_ := Aside0.mk ((by rw [hg]; exact Nat.ne_of_gt (blk_lt (g := gb176) (o := .cells #[.int .i64 0, .int .i64 0] 23 (0, 0)) (sp BK176.out)) : gb174 ≠ gb176))
          clear BK173
          clear BK176
          clear HB
          have BK173 := n0_
          have BK176 := n1_
          have HB := n2_
          have BK174 := n3_
          have GW174 := n4_
          have GE174 := n5_
          have NB173_174 := n6_
          have NB174_173 := n7_
          have NB176_174 := n8_
          have NB174_176 := n9_
          clear n0_ n1_ n2_ n3_ n4_ n5_ n6_ n7_ n8_ n9_
          clear hb hbox hg
          refine hK.out _ _ ⟨(blk_cell BK173.out 0).trans rfl, (blk_cell BK173.out 1).trans rfl, (blk_cell BK173.out 2).trans rfl, (blk_cell BK173.out 3).trans rfl, (blk_cell BK173.out 4).trans rfl, (blk_cell BK173.out 5).trans rfl, (blk_cell BK173.out 6).trans rfl⟩ (fun hHeld => ?_)
          clear hK K
          refine norm_ (a' := ?_) ?_ ?_
          rotate_left
          ·show Act.put _ (some 3) _ = _
           simp only [Act.put, sA, sZ, sS, i64_w, i32_w]
           rfl
          exact norm_ (by first | (simp only [putAll, Act.put, List.setIfInBounds_toArray, List.set_cons_zero, List.set_cons_succ]; done) | (simp only [putAll, Act.put, List.setIfInBounds_toArray, List.set_cons_zero, List.set_cons_succ]; rfl)) (hJ8_10 (gb174, gb176) _ ⟨hHeld, (sp BK173.out), (sp BK174.out), (sp BK176.out), GW174.out, GE174.out, NB173_174.out, NB174_173.out, NB176_174.out, NB174_176.out, GW176.out, GE176.out, NB173_176.out, NB176_173.out, (by repeat (first | (with_reducible first | exact HB.out | apply bA | apply bD | apply bW | refine bS ?_ GE173.out | refine bS ?_ GE176.out | refine bS ?_ GE174.out) | exact HB.out))⟩)
         ·skip
          refine box_step ?hg (N := 4) ?hd (cs := #[.int .i64 0, .int .i64 0]) (t := 23) ?hr ?_; (case hd => rfl); (case hg => rfl); (case hr => first | (go_simp; done) | (go_simp; rfl))
          intro gb175 hg w10 hbox hb
          have n0_ := Aside0.mk (blk_below (sp BK173.out) hb)
          have n1_ := Aside0.mk (blk_below (sp BK176.out) hb)
          have n2_ := Aside0.mk (below_step (by repeat (first | (with_reducible first | exact HB.out | apply bA | apply bD | apply bW | refine bS ?_ GE173.out | refine bS ?_ GE176.out) | exact HB.out)) hb)
          have n3_ := Aside0.mk (hbox)
          have n4_ := Aside0.mk ((by rw [hg]; exact (below_size (by repeat (first | (with_reducible first | exact HB.out | apply bA | apply bD | apply bW | refine bS ?_ GE173.out | refine bS ?_ GE176.out) | exact HB.out))) : w.heap.size ≤ gb175))
          have n5_ := Aside0.mk ((by rw [hg]; exact (below_size (by repeat (first | (with_reducible first | exact HB.out | apply bA | apply bD | apply bW | refine bS ?_ GE173.out | refine bS ?_ GE176.out) | exact HB.out))) : w.heap.size ≤ gb175))
          have n6_ := Aside0.mk ((by rw [hg]; exact Nat.ne_of_lt (blk_lt (g := gb173) (o := .cells #[.int .i64 a0_0, .int .i64 a0_1, .int .i64 a0_2, .int .i64 a0_3, .int .i64 a0_4, .int .i64 a0_5, .int .i64 a0_6] 40 (0, 0)) (sp BK173.out)) : gb173 ≠ gb175))
          have n7_ := Aside0.mk ((by rw [hg]; exact Nat.ne_of_gt (blk_lt (g := gb173) (o := .cells #[.int .i64 a0_0, .int .i64 a0_1, .int .i64 a0_2, .int .i64 a0_3, .int .i64 a0_4, .int .i64 a0_5, .int .i64 a0_6] 40 (0, 0)) (sp BK173.out)) : gb175 ≠ gb173))
          have n8_ := Aside0.mk ((by rw [hg]; exact Nat.ne_of_lt (blk_lt (g := gb176) (o := .cells #[.int .i64 0, .int .i64 0] 23 (0, 0)) (sp BK176.out)) : gb176 ≠ gb175))
          have n9_ := Aside0.mk ((by rw [hg]; exact Nat.ne_of_gt (blk_lt (g := gb176) (o := .cells #[.int .i64 0, .int .i64 0] 23 (0, 0)) (sp BK176.out)) : gb175 ≠ gb176))
          clear BK173
          clear BK176
          clear HB
          have BK173 := n0_
          have BK176 := n1_
          have HB := n2_
          have BK175 := n3_
          have GW175 := n4_
          have GE175 := n5_
          have NB173_175 := n6_
          have NB175_173 := n7_
          have NB176_175 := n8_
          have NB175_176 := n9_
          clear n0_ n1_ n2_ n3_ n4_ n5_ n6_ n7_ n8_ n9_
          clear hb hbox hg
          refine hK.out _ _ ⟨(blk_cell BK173.out 0).trans rfl, (blk_cell BK173.out 1).trans rfl, (blk_cell BK173.out 2).trans rfl, (blk_cell BK173.out 3).trans rfl, (blk_cell BK173.out 4).trans rfl, (blk_cell BK173.out 5).trans rfl, (blk_cell BK173.out 6).trans rfl⟩ (fun hHeld => ?_)
          clear hK K
          refine norm_ (a' := ?_) ?_ ?_
          rotate_left
          ·show Act.put _ (some 4) _ = _
           simp only [Act.put, sA, sZ, sS, i64_w, i32_w]
           rfl
          exact norm_ (by first | (simp only [putAll, Act.put, List.setIfInBounds_toArray, List.set_cons_zero, List.set_cons_succ]; done) | (simp only [putAll, Act.put, List.setIfInBounds_toArray, List.set_cons_zero, List.set_cons_succ]; rfl)) (hJ9_10 (gb175, gb176) _ ⟨hHeld, (sp BK173.out), (sp BK175.out), (sp BK176.out), GW175.out, GE175.out, NB173_175.out, NB175_173.out, NB176_175.out, NB175_176.out, GW176.out, GE176.out, NB173_176.out, NB176_173.out, (by repeat (first | (with_reducible first | exact HB.out | apply bA | apply bD | apply bW | refine bS ?_ GE173.out | refine bS ?_ GE176.out | refine bS ?_ GE175.out) | exact HB.out))⟩)
       ·skip
        rintro gb175 w9 ⟨hS_, h0_, h1_, h2_, h3_, h4_, h5_, h6_⟩
        have n0_ : Aside0 (w9.heap[gb173]? = some (.cells #[.int .i64 a0_0, .int .i64 a0_1, .int .i64 a0_2, .int .i64 a0_3, .int .i64 a0_4, .int .i64 a0_5, .int .i64 a0_6] 40 (0, 0))) := ⟨h0_⟩
        have n1_ : Aside0 (w9.heap[gb175]? = some (.cells #[.int .i64 0, .int .i64 0] 23 (0, 0))) := ⟨h1_⟩
        have n2_ : Aside0 (w.heap.size ≤ gb175) := ⟨h2_⟩
        have n3_ : Aside0 (w.heap.size ≤ gb175) := ⟨h3_⟩
        have n4_ : Aside0 (gb173 ≠ gb175) := ⟨h4_⟩
        have n5_ : Aside0 (gb175 ≠ gb173) := ⟨h5_⟩
        have n6_ : Aside0 (Below w.heap.size w w9) := ⟨h6_⟩
        clear BK173
        clear HB
        clear h0_ h1_ h2_ h3_ h4_ h5_ h6_
        have BK173 := n0_
        have BK175 := n1_
        have GW175 := n2_
        have GE175 := n3_
        have NB173_175 := n4_
        have NB175_173 := n5_
        have HB := n6_
        clear n0_ n1_ n2_ n3_ n4_ n5_ n6_
        have hHeld : w9.cell? ⟨gb173, 0, none⟩ = some (.int .i64 a0_0) ∧ w9.cell? ⟨gb173, 1, none⟩ = some (.int .i64 a0_1) ∧ w9.cell? ⟨gb173, 2, none⟩ = some (.int .i64 a0_2) ∧ w9.cell? ⟨gb173, 3, none⟩ = some (.int .i64 a0_3) ∧ w9.cell? ⟨gb173, 4, none⟩ = some (.int .i64 a0_4) ∧ w9.cell? ⟨gb173, 5, none⟩ = some (.int .i64 a0_5) ∧ w9.cell? ⟨gb173, 6, none⟩ = some (.int .i64 a0_6) := hS_
        refine norm_ (a' := ?_) ?_ ?_
        rotate_left
        ·simp only [putAll, Act.put, List.setIfInBounds_toArray, List.set_cons_zero, List.set_cons_succ]
         rfl
        refine two_ (i := 8) (j := 10) (Ni := some 3) (Nj := some 5) tf15_7fe0 tf15_7fb0 rfl rfl rfl rfl (two_of HT_.out (by kernel_rfl)) (by decide) (by decide) (fun K hK => ?_) (fun K hK => ?_)
        ·skip
         refine box_step ?hg (N := 3) ?hd (cs := #[.int .i64 0, .int .i64 0]) (t := 23) ?hr ?_; (case hd => rfl); (case hg => rfl); (case hr => first | (go_simp; done) | (go_simp; rfl))
         intro gb174 hg w10 hbox hb
         have n0_ := Aside0.mk (blk_below (sp BK173.out) hb)
         have n1_ := Aside0.mk (blk_below (sp BK175.out) hb)
         have n2_ := Aside0.mk (below_step (by repeat (first | (with_reducible first | exact HB.out | apply bA | apply bD | apply bW | refine bS ?_ GE173.out | refine bS ?_ GE175.out) | exact HB.out)) hb)
         have n3_ := Aside0.mk (hbox)
         have n4_ := Aside0.mk ((by rw [hg]; exact (below_size (by repeat (first | (with_reducible first | exact HB.out | apply bA | apply bD | apply bW | refine bS ?_ GE173.out | refine bS ?_ GE175.out) | exact HB.out))) : w.heap.size ≤ gb174))
         have n5_ := Aside0.mk ((by rw [hg]; exact (below_size (by repeat (first | (with_reducible first | exact HB.out | apply bA | apply bD | apply bW | refine bS ?_ GE173.out | refine bS ?_ GE175.out) | exact HB.out))) : w.heap.size ≤ gb174))
         have n6_ := Aside0.mk ((by rw [hg]; exact Nat.ne_of_lt (blk_lt (g := gb173) (o := .cells #[.int .i64 a0_0, .int .i64 a0_1, .int .i64 a0_2, .int .i64 a0_3, .int .i64 a0_4, .int .i64 a0_5, .int .i64 a0_6] 40 (0, 0)) (sp BK173.out)) : gb173 ≠ gb174))
         have n7_ := Aside0.mk ((by rw [hg]; exact Nat.ne_of_gt (blk_lt (g := gb173) (o := .cells #[.int .i64 a0_0, .int .i64 a0_1, .int .i64 a0_2, .int .i64 a0_3, .int .i64 a0_4, .int .i64 a0_5, .int .i64 a0_6] 40 (0, 0)) (sp BK173.out)) : gb174 ≠ gb173))
         have n8_ := Aside0.mk ((by rw [hg]; exact Nat.ne_of_lt (blk_lt (g := gb175) (o := .cells #[.int .i64 0, .int .i64 0] 23 (0, 0)) (sp BK175.out)) : gb175 ≠ gb174))
         have n9_ := Aside0.mk ((by rw [hg]; exact Nat.ne_of_gt (blk_lt (g := gb175) (o := .cells #[.int .i64 0, .int .i64 0] 23 (0, 0)) (sp BK175.out)) : gb174 ≠ gb175))
         clear BK173
         clear BK175
         clear HB
         have BK173 := n0_
         have BK175 := n1_
         have HB := n2_
         have BK174 := n3_
         have GW174 := n4_
         have GE174 := n5_
         have NB173_174 := n6_
         have NB174_173 := n7_
         have NB175_174 := n8_
         have NB174_175 := n9_
         clear n0_ n1_ n2_ n3_ n4_ n5_ n6_ n7_ n8_ n9_
         clear hb hbox hg
         refine hK.out _ _ ⟨(blk_cell BK173.out 0).trans rfl, (blk_cell BK173.out 1).trans rfl, (blk_cell BK173.out 2).trans rfl, (blk_cell BK173.out 3).trans rfl, (blk_cell BK173.out 4).trans rfl, (blk_cell BK173.out 5).trans rfl, (blk_cell BK173.out 6).trans rfl⟩ (fun hHeld => ?_)
         clear hK K
         refine norm_ (a' := ?_) ?_ ?_
         rotate_left
         ·show Act.put _ (some 3) _ = _
          simp only [Act.put, sA, sZ, sS, i64_w, i32_w]
          rfl
         exact norm_ (by first | (simp only [putAll, Act.put, List.setIfInBounds_toArray, List.set_cons_zero, List.set_cons_succ]; done) | (simp only [putAll, Act.put, List.setIfInBounds_toArray, List.set_cons_zero, List.set_cons_succ]; rfl)) (hJ8_9 (gb174, gb175) _ ⟨hHeld, (sp BK173.out), (sp BK174.out), (sp BK175.out), GW174.out, GE174.out, NB173_174.out, NB174_173.out, NB175_174.out, NB174_175.out, GW175.out, GE175.out, NB173_175.out, NB175_173.out, (by repeat (first | (with_reducible first | exact HB.out | apply bA | apply bD | apply bW | refine bS ?_ GE173.out | refine bS ?_ GE175.out | refine bS ?_ GE174.out) | exact HB.out))⟩)
        ·skip
         refine box_step ?hg (N := 5) ?hd (cs := #[.int .i64 0, .int .i64 0]) (t := 23) ?hr ?_; (case hd => rfl); (case hg => rfl); (case hr => first | (go_simp; done) | (go_simp; rfl))
         intro gb176 hg w10 hbox hb
         have n0_ := Aside0.mk (blk_below (sp BK173.out) hb)
         have n1_ := Aside0.mk (blk_below (sp BK175.out) hb)
         have n2_ := Aside0.mk (below_step (by repeat (first | (with_reducible first | exact HB.out | apply bA | apply bD | apply bW | refine bS ?_ GE173.out | refine bS ?_ GE175.out) | exact HB.out)) hb)
         have n3_ := Aside0.mk (hbox)
         have n4_ := Aside0.mk ((by rw [hg]; exact (below_size (by repeat (first | (with_reducible first | exact HB.out | apply bA | apply bD | apply bW | refine bS ?_ GE173.out | refine bS ?_ GE175.out) | exact HB.out))) : w.heap.size ≤ gb176))
         have n5_ := Aside0.mk ((by rw [hg]; exact (below_size (by repeat (first | (with_reducible first | exact HB.out | apply bA | apply bD | apply bW | refine bS ?_ GE173.out | refine bS ?_ GE175.out) | exact HB.out))) : w.heap.size ≤ gb176))
         have n6_ := Aside0.mk ((by rw [hg]; exact Nat.ne_of_lt (blk_lt (g := gb173) (o := .cells #[.int .i64 a0_0, .int .i64 a0_1, .int .i64 a0_2, .int .i64 a0_3, .int .i64 a0_4, .int .i64 a0_5, .int .i64 a0_6] 40 (0, 0)) (sp BK173.out)) : gb173 ≠ gb176))
         have n7_ := Aside0.mk ((by rw [hg]; exact Nat.ne_of_gt (blk_lt (g := gb173) (o := .cells #[.int .i64 a0_0, .int .i64 a0_1, .int .i64 a0_2, .int .i64 a0_3, .int .i64 a0_4, .int .i64 a0_5, .int .i64 a0_6] 40 (0, 0)) (sp BK173.out)) : gb176 ≠ gb173))
         have n8_ := Aside0.mk ((by rw [hg]; exact Nat.ne_of_lt (blk_lt (g := gb175) (o := .cells #[.int .i64 0, .int .i64 0] 23 (0, 0)) (sp BK175.out)) : gb175 ≠ gb176))
         have n9_ := Aside0.mk ((by rw [hg]; exact Nat.ne_of_gt (blk_lt (g := gb175) (o := .cells #[.int .i64 0, .int .i64 0] 23 (0, 0)) (sp BK175.out)) : gb176 ≠ gb175))
         clear BK173
         clear BK175
         clear HB
         have BK173 := n0_
         have BK175 := n1_
         have HB := n2_
         have BK176 := n3_
         have GW176 := n4_
         have GE176 := n5_
         have NB173_176 := n6_
         have NB176_173 := n7_
         have NB175_176 := n8_
         have NB176_175 := n9_
         clear n0_ n1_ n2_ n3_ n4_ n5_ n6_ n7_ n8_ n9_
         clear hb hbox hg
         refine hK.out _ _ ⟨(blk_cell BK173.out 0).trans rfl, (blk_cell BK173.out 1).trans rfl, (blk_cell BK173.out 2).trans rfl, (blk_cell BK173.out 3).trans rfl, (blk_cell BK173.out 4).trans rfl, (blk_cell BK173.out 5).trans rfl, (blk_cell BK173.out 6).trans rfl⟩ (fun hHeld => ?_)
         clear hK K
         refine norm_ (a' := ?_) ?_ ?_
         rotate_left
         ·show Act.put _ (some 5) _ = _
          simp only [Act.put, sA, sZ, sS, i64_w, i32_w]
          rfl
         exact norm_ (by first | (simp only [putAll, Act.put, List.setIfInBounds_toArray, List.set_cons_zero, List.set_cons_succ]; done) | (simp only [putAll, Act.put, List.setIfInBounds_toArray, List.set_cons_zero, List.set_cons_succ]; rfl)) (hJ9_10 (gb175, gb176) _ ⟨hHeld, (sp BK173.out), (sp BK175.out), (sp BK176.out), GW175.out, GE175.out, NB173_175.out, NB175_173.out, NB176_175.out, NB175_176.out, GW176.out, GE176.out, NB173_176.out, NB176_173.out, (by repeat (first | (with_reducible first | exact HB.out | apply bA | apply bD | apply bW | refine bS ?_ GE173.out | refine bS ?_ GE175.out | refine bS ?_ GE176.out) | exact HB.out))⟩)
      ·skip
       rintro gb174 w9 ⟨hS_, h0_, h1_, h2_, h3_, h4_, h5_, h6_⟩
       have n0_ : Aside0 (w9.heap[gb173]? = some (.cells #[.int .i64 a0_0, .int .i64 a0_1, .int .i64 a0_2, .int .i64 a0_3, .int .i64 a0_4, .int .i64 a0_5, .int .i64 a0_6] 40 (0, 0))) := ⟨h0_⟩
       have n1_ : Aside0 (w9.heap[gb174]? = some (.cells #[.int .i64 0, .int .i64 0] 23 (0, 0))) := ⟨h1_⟩
       have n2_ : Aside0 (w.heap.size ≤ gb174) := ⟨h2_⟩
       have n3_ : Aside0 (w.heap.size ≤ gb174) := ⟨h3_⟩
       have n4_ : Aside0 (gb173 ≠ gb174) := ⟨h4_⟩
       have n5_ : Aside0 (gb174 ≠ gb173) := ⟨h5_⟩
       have n6_ : Aside0 (Below w.heap.size w w9) := ⟨h6_⟩
       clear BK173
       clear HB
       clear h0_ h1_ h2_ h3_ h4_ h5_ h6_
       have BK173 := n0_
       have BK174 := n1_
       have GW174 := n2_
       have GE174 := n3_
       have NB173_174 := n4_
       have NB174_173 := n5_
       have HB := n6_
       clear n0_ n1_ n2_ n3_ n4_ n5_ n6_
       have hHeld : w9.cell? ⟨gb173, 0, none⟩ = some (.int .i64 a0_0) ∧ w9.cell? ⟨gb173, 1, none⟩ = some (.int .i64 a0_1) ∧ w9.cell? ⟨gb173, 2, none⟩ = some (.int .i64 a0_2) ∧ w9.cell? ⟨gb173, 3, none⟩ = some (.int .i64 a0_3) ∧ w9.cell? ⟨gb173, 4, none⟩ = some (.int .i64 a0_4) ∧ w9.cell? ⟨gb173, 5, none⟩ = some (.int .i64 a0_5) ∧ w9.cell? ⟨gb173, 6, none⟩ = some (.int .i64 a0_6) := hS_
       refine norm_ (a' := ?_) ?_ ?_
       rotate_left
       ·simp only [putAll, Act.put, List.setIfInBounds_toArray, List.set_cons_zero, List.set_cons_succ]
        rfl
       refine two_ (i := 9) (j := 10) (Ni := some 4) (Nj := some 5) tf15_7fe0 tf15_7fd0 rfl rfl rfl rfl (two_of HT_.out (by kernel_rfl)) (by decide) (by decide) (fun K hK => ?_) (fun K hK => ?_)
       ·skip
        refine box_step ?hg (N := 4) ?hd (cs := #[.int .i64 0, .int .i64 0]) (t := 23) ?hr ?_; (case hd => rfl); (case hg => rfl); (case hr => first | (go_simp; done) | (go_simp; rfl))
        intro gb175 hg w10 hbox hb
        have n0_ := Aside0.mk (blk_below (sp BK173.out) hb)
        have n1_ := Aside0.mk (blk_below (sp BK174.out) hb)
        have n2_ := Aside0.mk (below_step (by repeat (first | (with_reducible first | exact HB.out | apply bA | apply bD | apply bW | refine bS ?_ GE173.out | refine bS ?_ GE174.out) | exact HB.out)) hb)
        have n3_ := Aside0.mk (hbox)
        have n4_ := Aside0.mk ((by rw [hg]; exact (below_size (by repeat (first | (with_reducible first | exact HB.out | apply bA | apply bD | apply bW | refine bS ?_ GE173.out | refine bS ?_ GE174.out) | exact HB.out))) : w.heap.size ≤ gb175))
        have n5_ := Aside0.mk ((by rw [hg]; exact (below_size (by repeat (first | (with_reducible first | exact HB.out | apply bA | apply bD | apply bW | refine bS ?_ GE173.out | refine bS ?_ GE174.out) | exact HB.out))) : w.heap.size ≤ gb175))
        have n6_ := Aside0.mk ((by rw [hg]; exact Nat.ne_of_lt (blk_lt (g := gb173) (o := .cells #[.int .i64 a0_0, .int .i64 a0_1, .int .i64 a0_2, .int .i64 a0_3, .int .i64 a0_4, .int .i64 a0_5, .int .i64 a0_6] 40 (0, 0)) (sp BK173.out)) : gb173 ≠ gb175))
        have n7_ := Aside0.mk ((by rw [hg]; exact Nat.ne_of_gt (blk_lt (g := gb173) (o := .cells #[.int .i64 a0_0, .int .i64 a0_1, .int .i64 a0_2, .int .i64 a0_3, .int .i64 a0_4, .int .i64 a0_5, .int .i64 a0_6] 40 (0, 0)) (sp BK173.out)) : gb175 ≠ gb173))
        have n8_ := Aside0.mk ((by rw [hg]; exact Nat.ne_of_lt (blk_lt (g := gb174) (o := .cells #[.int .i64 0, .int .i64 0] 23 (0, 0)) (sp BK174.out)) : gb174 ≠ gb175))
        have n9_ := Aside0.mk ((by rw [hg]; exact Nat.ne_of_gt (blk_lt (g := gb174) (o := .cells #[.int .i64 0, .int .i64 0] 23 (0, 0)) (sp BK174.out)) : gb175 ≠ gb174))
        clear BK173
        clear BK174
        clear HB
        have BK173 := n0_
        have BK174 := n1_
        have HB := n2_
        have BK175 := n3_
        have GW175 := n4_
        have GE175 := n5_
        have NB173_175 := n6_
        have NB175_173 := n7_
        have NB174_175 := n8_
        have NB175_174 := n9_
        clear n0_ n1_ n2_ n3_ n4_ n5_ n6_ n7_ n8_ n9_
        clear hb hbox hg
        refine hK.out _ _ ⟨(blk_cell BK173.out 0).trans rfl, (blk_cell BK173.out 1).trans rfl, (blk_cell BK173.out 2).trans rfl, (blk_cell BK173.out 3).trans rfl, (blk_cell BK173.out 4).trans rfl, (blk_cell BK173.out 5).trans rfl, (blk_cell BK173.out 6).trans rfl⟩ (fun hHeld => ?_)
        clear hK K
        refine norm_ (a' := ?_) ?_ ?_
        rotate_left
        ·show Act.put _ (some 4) _ = _
         simp only [Act.put, sA, sZ, sS, i64_w, i32_w]
         rfl
        exact norm_ (by first | (simp only [putAll, Act.put, List.setIfInBounds_toArray, List.set_cons_zero, List.set_cons_succ]; done) | (simp only [putAll, Act.put, List.setIfInBounds_toArray, List.set_cons_zero, List.set_cons_succ]; rfl)) (hJ8_9 (gb174, gb175) _ ⟨hHeld, (sp BK173.out), (sp BK174.out), (sp BK175.out), GW174.out, GE174.out, NB173_174.out, NB174_173.out, NB175_174.out, NB174_175.out, GW175.out, GE175.out, NB173_175.out, NB175_173.out, (by repeat (first | (with_reducible first | exact HB.out | apply bA | apply bD | apply bW | refine bS ?_ GE173.out | refine bS ?_ GE174.out | refine bS ?_ GE175.out) | exact HB.out))⟩)
       ·skip
        refine box_step ?hg (N := 5) ?hd (cs := #[.int .i64 0, .int .i64 0]) (t := 23) ?hr ?_; (case hd => rfl); (case hg => rfl); (case hr => first | (go_simp; done) | (go_simp; rfl))
        intro gb176 hg w10 hbox hb
        have n0_ := Aside0.mk (blk_below (sp BK173.out) hb)
        have n1_ := Aside0.mk (blk_below (sp BK174.out) hb)
        have n2_ := Aside0.mk (below_step (by repeat (first | (with_reducible first | exact HB.out | apply bA | apply bD | apply bW | refine bS ?_ GE173.out | refine bS ?_ GE174.out) | exact HB.out)) hb)
        have n3_ := Aside0.mk (hbox)
        have n4_ := Aside0.mk ((by rw [hg]; exact (below_size (by repeat (first | (with_reducible first | exact HB.out | apply bA | apply bD | apply bW | refine bS ?_ GE173.out | refine bS ?_ GE174.out) | exact HB.out))) : w.heap.size ≤ gb176))
        have n5_ := Aside0.mk ((by rw [hg]; exact (below_size (by repeat (first | (with_reducible first | exact HB.out | apply bA | apply bD | apply bW | refine bS ?_ GE173.out | refine bS ?_ GE174.out) | exact HB.out))) : w.heap.size ≤ gb176))
        have n6_ := Aside0.mk ((by rw [hg]; exact Nat.ne_of_lt (blk_lt (g := gb173) (o := .cells #[.int .i64 a0_0, .int .i64 a0_1, .int .i64 a0_2, .int .i64 a0_3, .int .i64 a0_4, .int .i64 a0_5, .int .i64 a0_6] 40 (0, 0)) (sp BK173.out)) : gb173 ≠ gb176))
        have n7_ := Aside0.mk ((by rw [hg]; exact Nat.ne_of_gt (blk_lt (g := gb173) (o := .cells #[.int .i64 a0_0, .int .i64 a0_1, .int .i64 a0_2, .int .i64 a0_3, .int .i64 a0_4, .int .i64 a0_5, .int .i64 a0_6] 40 (0, 0)) (sp BK173.out)) : gb176 ≠ gb173))
        have n8_ := Aside0.mk ((by rw [hg]; exact Nat.ne_of_lt (blk_lt (g := gb174) (o := .cells #[.int .i64 0, .int .i64 0] 23 (0, 0)) (sp BK174.out)) : gb174 ≠ gb176))
        have n9_ := Aside0.mk ((by rw [hg]; exact Nat.ne_of_gt (blk_lt (g := gb174) (o := .cells #[.int .i64 0, .int .i64 0] 23 (0, 0)) (sp BK174.out)) : gb176 ≠ gb174))
        clear BK173
        clear BK174
        clear HB
        have BK173 := n0_
        have BK174 := n1_
        have HB := n2_
        have BK176 := n3_
        have GW176 := n4_
        have GE176 := n5_
        have NB173_176 := n6_
        have NB176_173 := n7_
        have NB174_176 := n8_
        have NB176_174 := n9_
        clear n0_ n1_ n2_ n3_ n4_ n5_ n6_ n7_ n8_ n9_
        clear hb hbox hg
        refine hK.out _ _ ⟨(blk_cell BK173.out 0).trans rfl, (blk_cell BK173.out 1).trans rfl, (blk_cell BK173.out 2).trans rfl, (blk_cell BK173.out 3).trans rfl, (blk_cell BK173.out 4).trans rfl, (blk_cell BK173.out 5).trans rfl, (blk_cell BK173.out 6).trans rfl⟩ (fun hHeld => ?_)
        clear hK K
        refine norm_ (a' := ?_) ?_ ?_
        rotate_left
        ·show Act.put _ (some 5) _ = _
         simp only [Act.put, sA, sZ, sS, i64_w, i32_w]
         rfl
        exact norm_ (by first | (simp only [putAll, Act.put, List.setIfInBounds_toArray, List.set_cons_zero, List.set_cons_succ]; done) | (simp only [putAll, Act.put, List.setIfInBounds_toArray, List.set_cons_zero, List.set_cons_succ]; rfl)) (hJ8_10 (gb174, gb176) _ ⟨hHeld, (sp BK173.out), (sp BK174.out), (sp BK176.out), GW174.out, GE174.out, NB173_174.out, NB174_173.out, NB176_174.out, NB174_176.out, GW176.out, GE176.out, NB173_176.out, NB176_173.out, (by repeat (first | (with_reducible first | exact HB.out | apply bA | apply bD | apply bW | refine bS ?_ GE173.out | refine bS ?_ GE174.out | refine bS ?_ GE176.out) | exact HB.out))⟩)
     ·skip
      rintro ⟨gb175, gb176⟩ w10 ⟨hS_, h0_, h1_, h2_, h3_, h4_, h5_, h6_, h7_, h8_, h9_, h10_, h11_, h12_, h13_⟩
      have n0_ : Aside0 (w10.heap[gb173]? = some (.cells #[.int .i64 a0_0, .int .i64 a0_1, .int .i64 a0_2, .int .i64 a0_3, .int .i64 a0_4, .int .i64 a0_5, .int .i64 a0_6] 40 (0, 0))) := ⟨h0_⟩
      have n1_ : Aside0 (w10.heap[gb175]? = some (.cells #[.int .i64 0, .int .i64 0] 23 (0, 0))) := ⟨h1_⟩
      have n2_ : Aside0 (w10.heap[gb176]? = some (.cells #[.int .i64 0, .int .i64 0] 23 (0, 0))) := ⟨h2_⟩
      have n3_ : Aside0 (w.heap.size ≤ gb175) := ⟨h3_⟩
      have n4_ : Aside0 (w.heap.size ≤ gb175) := ⟨h4_⟩
      have n5_ : Aside0 (gb173 ≠ gb175) := ⟨h5_⟩
      have n6_ : Aside0 (gb175 ≠ gb173) := ⟨h6_⟩
      have n7_ : Aside0 (gb176 ≠ gb175) := ⟨h7_⟩
      have n8_ : Aside0 (gb175 ≠ gb176) := ⟨h8_⟩
      have n9_ : Aside0 (w.heap.size ≤ gb176) := ⟨h9_⟩
      have n10_ : Aside0 (w.heap.size ≤ gb176) := ⟨h10_⟩
      have n11_ : Aside0 (gb173 ≠ gb176) := ⟨h11_⟩
      have n12_ : Aside0 (gb176 ≠ gb173) := ⟨h12_⟩
      have n13_ : Aside0 (Below w.heap.size w w10) := ⟨h13_⟩
      clear BK173
      clear HB
      clear h0_ h1_ h2_ h3_ h4_ h5_ h6_ h7_ h8_ h9_ h10_ h11_ h12_ h13_
      have BK173 := n0_
      have BK175 := n1_
      have BK176 := n2_
      have GW175 := n3_
      have GE175 := n4_
      have NB173_175 := n5_
      have NB175_173 := n6_
      have NB176_175 := n7_
      have NB175_176 := n8_
      have GW176 := n9_
      have GE176 := n10_
      have NB173_176 := n11_
      have NB176_173 := n12_
      have HB := n13_
      clear n0_ n1_ n2_ n3_ n4_ n5_ n6_ n7_ n8_ n9_ n10_ n11_ n12_ n13_
      have hHeld : w10.cell? ⟨gb173, 0, none⟩ = some (.int .i64 a0_0) ∧ w10.cell? ⟨gb173, 1, none⟩ = some (.int .i64 a0_1) ∧ w10.cell? ⟨gb173, 2, none⟩ = some (.int .i64 a0_2) ∧ w10.cell? ⟨gb173, 3, none⟩ = some (.int .i64 a0_3) ∧ w10.cell? ⟨gb173, 4, none⟩ = some (.int .i64 a0_4) ∧ w10.cell? ⟨gb173, 5, none⟩ = some (.int .i64 a0_5) ∧ w10.cell? ⟨gb173, 6, none⟩ = some (.int .i64 a0_6) := hS_
      refine norm_ (a' := ?_) ?_ ?_
      rotate_left
      ·simp only [putAll, Act.put, List.setIfInBounds_toArray, List.set_cons_zero, List.set_cons_succ]
       rfl
      refine one_ (i := 8) (N := some 3) tf15_7ff0 rfl rfl (one_of HT_.out (by kernel_rfl)) (by decide) (fun K hK => ?_)
      refine box_step ?hg (N := 3) ?hd (cs := #[.int .i64 0, .int .i64 0]) (t := 23) ?hr ?_; (case hd => rfl); (case hg => rfl); (case hr => first | (go_simp; done) | (go_simp; rfl))
      intro gb174 hg w11 hbox hb
      have n0_ := Aside0.mk (blk_below (sp BK173.out) hb)
      have n1_ := Aside0.mk (blk_below (sp BK175.out) hb)
      have n2_ := Aside0.mk (blk_below (sp BK176.out) hb)
      have n3_ := Aside0.mk (below_step (by repeat (first | (with_reducible first | exact HB.out | apply bA | apply bD | apply bW | refine bS ?_ GE173.out | refine bS ?_ GE175.out | refine bS ?_ GE176.out) | exact HB.out)) hb)
      have n4_ := Aside0.mk (hbox)
      have n5_ := Aside0.mk ((by rw [hg]; exact (below_size (by repeat (first | (with_reducible first | exact HB.out | apply bA | apply bD | apply bW | refine bS ?_ GE173.out | refine bS ?_ GE175.out | refine bS ?_ GE176.out) | exact HB.out))) : w.heap.size ≤ gb174))
      have n6_ := Aside0.mk ((by rw [hg]; exact (below_size (by repeat (first | (with_reducible first | exact HB.out | apply bA | apply bD | apply bW | refine bS ?_ GE173.out | refine bS ?_ GE175.out | refine bS ?_ GE176.out) | exact HB.out))) : w.heap.size ≤ gb174))
      have n7_ := Aside0.mk ((by rw [hg]; exact Nat.ne_of_lt (blk_lt (g := gb173) (o := .cells #[.int .i64 a0_0, .int .i64 a0_1, .int .i64 a0_2, .int .i64 a0_3, .int .i64 a0_4, .int .i64 a0_5, .int .i64 a0_6] 40 (0, 0)) (sp BK173.out)) : gb173 ≠ gb174))
      have n8_ := Aside0.mk ((by rw [hg]; exact Nat.ne_of_gt (blk_lt (g := gb173) (o := .cells #[.int .i64 a0_0, .int .i64 a0_1, .int .i64 a0_2, .int .i64 a0_3, .int .i64 a0_4, .int .i64 a0_5, .int .i64 a0_6] 40 (0, 0)) (sp BK173.out)) : gb174 ≠ gb173))
      have n9_ := Aside0.mk ((by rw [hg]; exact Nat.ne_of_lt (blk_lt (g := gb175) (o := .cells #[.int .i64 0, .int .i64 0] 23 (0, 0)) (sp BK175.out)) : gb175 ≠ gb174))
      have n10_ := Aside0.mk ((by rw [hg]; exact Nat.ne_of_gt (blk_lt (g := gb175) (o := .cells #[.int .i64 0, .int .i64 0] 23 (0, 0)) (sp BK175.out)) : gb174 ≠ gb175))
      have n11_ := Aside0.mk ((by rw [hg]; exact Nat.ne_of_lt (blk_lt (g := gb176) (o := .cells #[.int .i64 0, .int .i64 0] 23 (0, 0)) (sp BK176.out)) : gb176 ≠ gb174))
      have n12_ := Aside0.mk ((by rw [hg]; exact Nat.ne_of_gt (blk_lt (g := gb176) (o := .cells #[.int .i64 0, .int .i64 0] 23 (0, 0)) (sp BK176.out)) : gb174 ≠ gb176))
      clear BK173
      clear BK175
      clear BK176
      clear HB
      have BK173 := n0_
      have BK175 := n1_
      have BK176 := n2_
      have HB := n3_
      have BK174 := n4_
      have GW174 := n5_
      have GE174 := n6_
      have NB173_174 := n7_
      have NB174_173 := n8_
      have NB175_174 := n9_
      have NB174_175 := n10_
      have NB176_174 := n11_
      have NB174_176 := n12_
      clear n0_ n1_ n2_ n3_ n4_ n5_ n6_ n7_ n8_ n9_ n10_ n11_ n12_
      clear hb hbox hg
      refine hK.out _ _ ⟨(blk_cell BK173.out 0).trans rfl, (blk_cell BK173.out 1).trans rfl, (blk_cell BK173.out 2).trans rfl, (blk_cell BK173.out 3).trans rfl, (blk_cell BK173.out 4).trans rfl, (blk_cell BK173.out 5).trans rfl, (blk_cell BK173.out 6).trans rfl⟩ (fun hHeld => ?_)
      clear hK K
      refine norm_ (a' := ?_) ?_ ?_
      rotate_left
      ·show Act.put _ (some 3) _ = _
       simp only [Act.put, sA, sZ, sS, i64_w, i32_w]
       rfl
      exact norm_ (by first | (simp only [putAll, Act.put, List.setIfInBounds_toArray, List.set_cons_zero, List.set_cons_succ]; done) | (simp only [putAll, Act.put, List.setIfInBounds_toArray, List.set_cons_zero, List.set_cons_succ]; rfl)) (hJ8_9_10 (gb174, gb175, gb176) _ ⟨hHeld, (sp BK173.out), (sp BK174.out), (sp BK175.out), (sp BK176.out), GW174.out, GE174.out, NB173_174.out, NB174_173.out, NB175_174.out, NB174_175.out, NB176_174.out, NB174_176.out, GW175.out, GE175.out, NB173_175.out, NB175_173.out, NB176_175.out, NB175_176.out, GW176.out, GE176.out, NB173_176.out, NB176_173.out, (by repeat (first | (with_reducible first | exact HB.out | apply bA | apply bD | apply bW | refine bS ?_ GE173.out | refine bS ?_ GE175.out | refine bS ?_ GE176.out | refine bS ?_ GE174.out) | exact HB.out))⟩)
    ·skip
     rintro ⟨gb174, gb176⟩ w10 ⟨hS_, h0_, h1_, h2_, h3_, h4_, h5_, h6_, h7_, h8_, h9_, h10_, h11_, h12_, h13_⟩
     have n0_ : Aside0 (w10.heap[gb173]? = some (.cells #[.int .i64 a0_0, .int .i64 a0_1, .int .i64 a0_2, .int .i64 a0_3, .int .i64 a0_4, .int .i64 a0_5, .int .i64 a0_6] 40 (0, 0))) := ⟨h0_⟩
     have n1_ : Aside0 (w10.heap[gb174]? = some (.cells #[.int .i64 0, .int .i64 0] 23 (0, 0))) := ⟨h1_⟩
     have n2_ : Aside0 (w10.heap[gb176]? = some (.cells #[.int .i64 0, .int .i64 0] 23 (0, 0))) := ⟨h2_⟩
     have n3_ : Aside0 (w.heap.size ≤ gb174) := ⟨h3_⟩
     have n4_ : Aside0 (w.heap.size ≤ gb174) := ⟨h4_⟩
     have n5_ : Aside0 (gb173 ≠ gb174) := ⟨h5_⟩
     have n6_ : Aside0 (gb174 ≠ gb173) := ⟨h6_⟩
     have n7_ : Aside0 (gb176 ≠ gb174) := ⟨h7_⟩
     have n8_ : Aside0 (gb174 ≠ gb176) := ⟨h8_⟩
     have n9_ : Aside0 (w.heap.size ≤ gb176) := ⟨h9_⟩
     have n10_ : Aside0 (w.heap.size ≤ gb176) := ⟨h10_⟩
     have n11_ : Aside0 (gb173 ≠ gb176) := ⟨h11_⟩
     have n12_ : Aside0 (gb176 ≠ gb173) := ⟨h12_⟩
     have n13_ : Aside0 (Below w.heap.size w w10) := ⟨h13_⟩
     clear BK173
     clear HB
     clear h0_ h1_ h2_ h3_ h4_ h5_ h6_ h7_ h8_ h9_ h10_ h11_ h12_ h13_
     have BK173 := n0_
     have BK174 := n1_
     have BK176 := n2_
     have GW174 := n3_
     have GE174 := n4_
     have NB173_174 := n5_
     have NB174_173 := n6_
     have NB176_174 := n7_
     have NB174_176 := n8_
     have GW176 := n9_
     have GE176 := n10_
     have NB173_176 := n11_
     have NB176_173 := n12_
     have HB := n13_
     clear n0_ n1_ n2_ n3_ n4_ n5_ n6_ n7_ n8_ n9_ n10_ n11_ n12_ n13_
     have hHeld : w10.cell? ⟨gb173, 0, none⟩ = some (.int .i64 a0_0) ∧ w10.cell? ⟨gb173, 1, none⟩ = some (.int .i64 a0_1) ∧ w10.cell? ⟨gb173, 2, none⟩ = some (.int .i64 a0_2) ∧ w10.cell? ⟨gb173, 3, none⟩ = some (.int .i64 a0_3) ∧ w10.cell? ⟨gb173, 4, none⟩ = some (.int .i64 a0_4) ∧ w10.cell? ⟨gb173, 5, none⟩ = some (.int .i64 a0_5) ∧ w10.cell? ⟨gb173, 6, none⟩ = some (.int .i64 a0_6) := hS_
     refine norm_ (a' := ?_) ?_ ?_
     rotate_left
     ·simp only [putAll, Act.put, List.setIfInBounds_toArray, List.set_cons_zero, List.set_cons_succ]
      rfl
     refine one_ (i := 9) (N := some 4) tf15_7ff0 rfl rfl (one_of HT_.out (by kernel_rfl)) (by decide) (fun K hK => ?_)
     refine box_step ?hg (N := 4) ?hd (cs := #[.int .i64 0, .int .i64 0]) (t := 23) ?hr ?_; (case hd => rfl); (case hg => rfl); (case hr => first | (go_simp; done) | (go_simp; rfl))
     intro gb175 hg w11 hbox hb
     have n0_ := Aside0.mk (blk_below (sp BK173.out) hb)
     have n1_ := Aside0.mk (blk_below (sp BK174.out) hb)
     have n2_ := Aside0.mk (blk_below (sp BK176.out) hb)
     have n3_ := Aside0.mk (below_step (by repeat (first | (with_reducible first | exact HB.out | apply bA | apply bD | apply bW | refine bS ?_ GE173.out | refine bS ?_ GE174.out | refine bS ?_ GE176.out) | exact HB.out)) hb)
     have n4_ := Aside0.mk (hbox)
     have n5_ := Aside0.mk ((by rw [hg]; exact (below_size (by repeat (first | (with_reducible first | exact HB.out | apply bA | apply bD | apply bW | refine bS ?_ GE173.out | refine bS ?_ GE174.out | refine bS ?_ GE176.out) | exact HB.out))) : w.heap.size ≤ gb175))
     have n6_ := Aside0.mk ((by rw [hg]; exact (below_size (by repeat (first | (with_reducible first | exact HB.out | apply bA | apply bD | apply bW | refine bS ?_ GE173.out | refine bS ?_ GE174.out | refine bS ?_ GE176.out) | exact HB.out))) : w.heap.size ≤ gb175))
     have n7_ := Aside0.mk ((by rw [hg]; exact Nat.ne_of_lt (blk_lt (g := gb173) (o := .cells #[.int .i64 a0_0, .int .i64 a0_1, .int .i64 a0_2, .int .i64 a0_3, .int .i64 a0_4, .int .i64 a0_5, .int .i64 a0_6] 40 (0, 0)) (sp BK173.out)) : gb173 ≠ gb175))
     have n8_ := Aside0.mk ((by rw [hg]; exact Nat.ne_of_gt (blk_lt (g := gb173) (o := .cells #[.int .i64 a0_0, .int .i64 a0_1, .int .i64 a0_2, .int .i64 a0_3, .int .i64 a0_4, .int .i64 a0_5, .int .i64 a0_6] 40 (0, 0)) (sp BK173.out)) : gb175 ≠ gb173))
     have n9_ := Aside0.mk ((by rw [hg]; exact Nat.ne_of_lt (blk_lt (g := gb174) (o := .cells #[.int .i64 0, .int .i64 0] 23 (0, 0)) (sp BK174.out)) : gb174 ≠ gb175))
     have n10_ := Aside0.mk ((by rw [hg]; exact Nat.ne_of_gt (blk_lt (g := gb174) (o := .cells #[.int .i64 0, .int .i64 0] 23 (0, 0)) (sp BK174.out)) : gb175 ≠ gb174))
     have n11_ := Aside0.mk ((by rw [hg]; exact Nat.ne_of_lt (blk_lt (g := gb176) (o := .cells #[.int .i64 0, .int .i64 0] 23 (0, 0)) (sp BK176.out)) : gb176 ≠ gb175))
     have n12_ := Aside0.mk ((by rw [hg]; exact Nat.ne_of_gt (blk_lt (g := gb176) (o := .cells #[.int .i64 0, .int .i64 0] 23 (0, 0)) (sp BK176.out)) : gb175 ≠ gb176))
     clear BK173
     clear BK174
     clear BK176
     clear HB
     have BK173 := n0_
     have BK174 := n1_
     have BK176 := n2_
     have HB := n3_
     have BK175 := n4_
     have GW175 := n5_
     have GE175 := n6_
     have NB173_175 := n7_
     have NB175_173 := n8_
     have NB174_175 := n9_
     have NB175_174 := n10_
     have NB176_175 := n11_
     have NB175_176 := n12_
     clear n0_ n1_ n2_ n3_ n4_ n5_ n6_ n7_ n8_ n9_ n10_ n11_ n12_
     clear hb hbox hg
     refine hK.out _ _ ⟨(blk_cell BK173.out 0).trans rfl, (blk_cell BK173.out 1).trans rfl, (blk_cell BK173.out 2).trans rfl, (blk_cell BK173.out 3).trans rfl, (blk_cell BK173.out 4).trans rfl, (blk_cell BK173.out 5).trans rfl, (blk_cell BK173.out 6).trans rfl⟩ (fun hHeld => ?_)
     clear hK K
     refine norm_ (a' := ?_) ?_ ?_
     rotate_left
     ·show Act.put _ (some 4) _ = _
      simp only [Act.put, sA, sZ, sS, i64_w, i32_w]
      rfl
     exact norm_ (by first | (simp only [putAll, Act.put, List.setIfInBounds_toArray, List.set_cons_zero, List.set_cons_succ]; done) | (simp only [putAll, Act.put, List.setIfInBounds_toArray, List.set_cons_zero, List.set_cons_succ]; rfl)) (hJ8_9_10 (gb174, gb175, gb176) _ ⟨hHeld, (sp BK173.out), (sp BK174.out), (sp BK175.out), (sp BK176.out), GW174.out, GE174.out, NB173_174.out, NB174_173.out, NB175_174.out, NB174_175.out, NB176_174.out, NB174_176.out, GW175.out, GE175.out, NB173_175.out, NB175_173.out, NB176_175.out, NB175_176.out, GW176.out, GE176.out, NB173_176.out, NB176_173.out, (by repeat (first | (with_reducible first | exact HB.out | apply bA | apply bD | apply bW | refine bS ?_ GE173.out | refine bS ?_ GE174.out | refine bS ?_ GE176.out | refine bS ?_ GE175.out) | exact HB.out))⟩)
   ·skip
    rintro ⟨gb174, gb175⟩ w10 ⟨hS_, h0_, h1_, h2_, h3_, h4_, h5_, h6_, h7_, h8_, h9_, h10_, h11_, h12_, h13_⟩
    have n0_ : Aside0 (w10.heap[gb173]? = some (.cells #[.int .i64 a0_0, .int .i64 a0_1, .int .i64 a0_2, .int .i64 a0_3, .int .i64 a0_4, .int .i64 a0_5, .int .i64 a0_6] 40 (0, 0))) := ⟨h0_⟩
    have n1_ : Aside0 (w10.heap[gb174]? = some (.cells #[.int .i64 0, .int .i64 0] 23 (0, 0))) := ⟨h1_⟩
    have n2_ : Aside0 (w10.heap[gb175]? = some (.cells #[.int .i64 0, .int .i64 0] 23 (0, 0))) := ⟨h2_⟩
    have n3_ : Aside0 (w.heap.size ≤ gb174) := ⟨h3_⟩
    have n4_ : Aside0 (w.heap.size ≤ gb174) := ⟨h4_⟩
    have n5_ : Aside0 (gb173 ≠ gb174) := ⟨h5_⟩
    have n6_ : Aside0 (gb174 ≠ gb173) := ⟨h6_⟩
    have n7_ : Aside0 (gb175 ≠ gb174) := ⟨h7_⟩
    have n8_ : Aside0 (gb174 ≠ gb175) := ⟨h8_⟩
    have n9_ : Aside0 (w.heap.size ≤ gb175) := ⟨h9_⟩
    have n10_ : Aside0 (w.heap.size ≤ gb175) := ⟨h10_⟩
    have n11_ : Aside0 (gb173 ≠ gb175) := ⟨h11_⟩
    have n12_ : Aside0 (gb175 ≠ gb173) := ⟨h12_⟩
    have n13_ : Aside0 (Below w.heap.size w w10) := ⟨h13_⟩
    clear BK173
    clear HB
    clear h0_ h1_ h2_ h3_ h4_ h5_ h6_ h7_ h8_ h9_ h10_ h11_ h12_ h13_
    have BK173 := n0_
    have BK174 := n1_
    have BK175 := n2_
    have GW174 := n3_
    have GE174 := n4_
    have NB173_174 := n5_
    have NB174_173 := n6_
    have NB175_174 := n7_
    have NB174_175 := n8_
    have GW175 := n9_
    have GE175 := n10_
    have NB173_175 := n11_
    have NB175_173 := n12_
    have HB := n13_
    clear n0_ n1_ n2_ n3_ n4_ n5_ n6_ n7_ n8_ n9_ n10_ n11_ n12_ n13_
    have hHeld : w10.cell? ⟨gb173, 0, none⟩ = some (.int .i64 a0_0) ∧ w10.cell? ⟨gb173, 1, none⟩ = some (.int .i64 a0_1) ∧ w10.cell? ⟨gb173, 2, none⟩ = some (.int .i64 a0_2) ∧ w10.cell? ⟨gb173, 3, none⟩ = some (.int .i64 a0_3) ∧ w10.cell? ⟨gb173, 4, none⟩ = some (.int .i64 a0_4) ∧ w10.cell? ⟨gb173, 5, none⟩ = some (.int .i64 a0_5) ∧ w10.cell? ⟨gb173, 6, none⟩ = some (.int .i64 a0_6) := hS_
    refine norm_ (a' := ?_) ?_ ?_
    rotate_left
    ·simp only [putAll, Act.put, List.setIfInBounds_toArray, List.set_cons_zero, List.set_cons_succ]
     rfl
    refine one_ (i := 10) (N := some 5) tf15_7ff0 rfl rfl (one_of HT_.out (by kernel_rfl)) (by decide) (fun K hK => ?_)
    refine box_step ?hg (N := 5) ?hd (cs := #[.int .i64 0, .int .i64 0]) (t := 23) ?hr ?_; (case hd => rfl); (case hg => rfl); (case hr => first | (go_simp; done) | (go_simp; rfl))
    intro gb176 hg w11 hbox hb
    have n0_ := Aside0.mk (blk_below (sp BK173.out) hb)
    have n1_ := Aside0.mk (blk_below (sp BK174.out) hb)
    have n2_ := Aside0.mk (blk_below (sp BK175.out) hb)
    have n3_ := Aside0.mk (below_step (by repeat (first | (with_reducible first | exact HB.out | apply bA | apply bD | apply bW | refine bS ?_ GE173.out | refine bS ?_ GE174.out | refine bS ?_ GE175.out) | exact HB.out)) hb)
    have n4_ := Aside0.mk (hbox)
    have n5_ := Aside0.mk ((by rw [hg]; exact (below_size (by repeat (first | (with_reducible first | exact HB.out | apply bA | apply bD | apply bW | refine bS ?_ GE173.out | refine bS ?_ GE174.out | refine bS ?_ GE175.out) | exact HB.out))) : w.heap.size ≤ gb176))
    have n6_ := Aside0.mk ((by rw [hg]; exact (below_size (by repeat (first | (with_reducible first | exact HB.out | apply bA | apply bD | apply bW | refine bS ?_ GE173.out | refine bS ?_ GE174.out | refine bS ?_ GE175.out) | exact HB.out))) : w.heap.size ≤ gb176))
    have n7_ := Aside0.mk ((by rw [hg]; exact Nat.ne_of_lt (blk_lt (g := gb173) (o := .cells #[.int .i64 a0_0, .int .i64 a0_1, .int .i64 a0_2, .int .i64 a0_3, .int .i64 a0_4, .int .i64 a0_5, .int .i64 a0_6] 40 (0, 0)) (sp BK173.out)) : gb173 ≠ gb176))
    have n8_ := Aside0.mk ((by rw [hg]; exact Nat.ne_of_gt (blk_lt (g := gb173) (o := .cells #[.int .i64 a0_0, .int .i64 a0_1, .int .i64 a0_2, .int .i64 a0_3, .int .i64 a0_4, .int .i64 a0_5, .int .i64 a0_6] 40 (0, 0)) (sp BK173.out)) : gb176 ≠ gb173))
    have n9_ := Aside0.mk ((by rw [hg]; exact Nat.ne_of_lt (blk_lt (g := gb174) (o := .cells #[.int .i64 0, .int .i64 0] 23 (0, 0)) (sp BK174.out)) : gb174 ≠ gb176))
    have n10_ := Aside0.mk ((by rw [hg]; exact Nat.ne_of_gt (blk_lt (g := gb174) (o := .cells #[.int .i64 0, .int .i64 0] 23 (0, 0)) (sp BK174.out)) : gb176 ≠ gb174))
    have n11_ := Aside0.mk ((by rw [hg]; exact Nat.ne_of_lt (blk_lt (g := gb175) (o := .cells #[.int .i64 0, .int .i64 0] 23 (0, 0)) (sp BK175.out)) : gb175 ≠ gb176))
    have n12_ := Aside0.mk ((by rw [hg]; exact Nat.ne_of_gt (blk_lt (g := gb175) (o := .cells #[.int .i64 0, .int .i64 0] 23 (0, 0)) (sp BK175.out)) : gb176 ≠ gb175))
    clear BK173
    clear BK174
    clear BK175
    clear HB
    have BK173 := n0_
    have BK174 := n1_
    have BK175 := n2_
    have HB := n3_
    have BK176 := n4_
    have GW176 := n5_
    have GE176 := n6_
    have NB173_176 := n7_
    have NB176_173 := n8_
    have NB174_176 := n9_
    have NB176_174 := n10_
    have NB175_176 := n11_
    have NB176_175 := n12_
    clear n0_ n1_ n2_ n3_ n4_ n5_ n6_ n7_ n8_ n9_ n10_ n11_ n12_
    clear hb hbox hg
    refine hK.out _ _ ⟨(blk_cell BK173.out 0).trans rfl, (blk_cell BK173.out 1).trans rfl, (blk_cell BK173.out 2).trans rfl, (blk_cell BK173.out 3).trans rfl, (blk_cell BK173.out 4).trans rfl, (blk_cell BK173.out 5).trans rfl, (blk_cell BK173.out 6).trans rfl⟩ (fun hHeld => ?_)
    clear hK K
    refine norm_ (a' := ?_) ?_ ?_
    rotate_left
    ·show Act.put _ (some 5) _ = _
     simp only [Act.put, sA, sZ, sS, i64_w, i32_w]
     rfl
    exact norm_ (by first | (simp only [putAll, Act.put, List.setIfInBounds_toArray, List.set_cons_zero, List.set_cons_succ]; done) | (simp only [putAll, Act.put, List.setIfInBounds_toArray, List.set_cons_zero, List.set_cons_succ]; rfl)) (hJ8_9_10 (gb174, gb175, gb176) _ ⟨hHeld, (sp BK173.out), (sp BK174.out), (sp BK175.out), (sp BK176.out), GW174.out, GE174.out, NB173_174.out, NB174_173.out, NB175_174.out, NB174_175.out, NB176_174.out, NB174_176.out, GW175.out, GE175.out, NB173_175.out, NB175_173.out, NB176_175.out, NB175_176.out, GW176.out, GE176.out, NB173_176.out, NB176_173.out, (by repeat (first | (with_reducible first | exact HB.out | apply bA | apply bD | apply bW | refine bS ?_ GE173.out | refine bS ?_ GE174.out | refine bS ?_ GE175.out | refine bS ?_ GE176.out) | exact HB.out))⟩)
  rintro ⟨gb174, gb175, gb176⟩ w11 ⟨hS_, h0_, h1_, h2_, h3_, h4_, h5_, h6_, h7_, h8_, h9_, h10_, h11_, h12_, h13_, h14_, h15_, h16_, h17_, h18_, h19_, h20_, h21_, h22_⟩
  have n0_ : Aside0 (w11.heap[gb173]? = some (.cells #[.int .i64 a0_0, .int .i64 a0_1, .int .i64 a0_2, .int .i64 a0_3, .int .i64 a0_4, .int .i64 a0_5, .int .i64 a0_6] 40 (0, 0))) := ⟨h0_⟩
  have n1_ : Aside0 (w11.heap[gb174]? = some (.cells #[.int .i64 0, .int .i64 0] 23 (0, 0))) := ⟨h1_⟩
  have n2_ : Aside0 (w11.heap[gb175]? = some (.cells #[.int .i64 0, .int .i64 0] 23 (0, 0))) := ⟨h2_⟩
  have n3_ : Aside0 (w11.heap[gb176]? = some (.cells #[.int .i64 0, .int .i64 0] 23 (0, 0))) := ⟨h3_⟩
  have n4_ : Aside0 (w.heap.size ≤ gb174) := ⟨h4_⟩
  have n5_ : Aside0 (w.heap.size ≤ gb174) := ⟨h5_⟩
  have n6_ : Aside0 (gb173 ≠ gb174) := ⟨h6_⟩
  have n7_ : Aside0 (gb174 ≠ gb173) := ⟨h7_⟩
  have n8_ : Aside0 (gb175 ≠ gb174) := ⟨h8_⟩
  have n9_ : Aside0 (gb174 ≠ gb175) := ⟨h9_⟩
  have n10_ : Aside0 (gb176 ≠ gb174) := ⟨h10_⟩
  have n11_ : Aside0 (gb174 ≠ gb176) := ⟨h11_⟩
  have n12_ : Aside0 (w.heap.size ≤ gb175) := ⟨h12_⟩
  have n13_ : Aside0 (w.heap.size ≤ gb175) := ⟨h13_⟩
  have n14_ : Aside0 (gb173 ≠ gb175) := ⟨h14_⟩
  have n15_ : Aside0 (gb175 ≠ gb173) := ⟨h15_⟩
  have n16_ : Aside0 (gb176 ≠ gb175) := ⟨h16_⟩
  have n17_ : Aside0 (gb175 ≠ gb176) := ⟨h17_⟩
  have n18_ : Aside0 (w.heap.size ≤ gb176) := ⟨h18_⟩
  have n19_ : Aside0 (w.heap.size ≤ gb176) := ⟨h19_⟩
  have n20_ : Aside0 (gb173 ≠ gb176) := ⟨h20_⟩
  have n21_ : Aside0 (gb176 ≠ gb173) := ⟨h21_⟩
  have n22_ : Aside0 (Below w.heap.size w w11) := ⟨h22_⟩
  clear BK173
  clear HB
  clear h0_ h1_ h2_ h3_ h4_ h5_ h6_ h7_ h8_ h9_ h10_ h11_ h12_ h13_ h14_ h15_ h16_ h17_ h18_ h19_ h20_ h21_ h22_
  have BK173 := n0_
  have BK174 := n1_
  have BK175 := n2_
  have BK176 := n3_
  have GW174 := n4_
  have GE174 := n5_
  have NB173_174 := n6_
  have NB174_173 := n7_
  have NB175_174 := n8_
  have NB174_175 := n9_
  have NB176_174 := n10_
  have NB174_176 := n11_
  have GW175 := n12_
  have GE175 := n13_
  have NB173_175 := n14_
  have NB175_173 := n15_
  have NB176_175 := n16_
  have NB175_176 := n17_
  have GW176 := n18_
  have GE176 := n19_
  have NB173_176 := n20_
  have NB176_173 := n21_
  have HB := n22_
  clear n0_ n1_ n2_ n3_ n4_ n5_ n6_ n7_ n8_ n9_ n10_ n11_ n12_ n13_ n14_ n15_ n16_ n17_ n18_ n19_ n20_ n21_ n22_
  have hHeld : w11.cell? ⟨gb173, 0, none⟩ = some (.int .i64 a0_0) ∧ w11.cell? ⟨gb173, 1, none⟩ = some (.int .i64 a0_1) ∧ w11.cell? ⟨gb173, 2, none⟩ = some (.int .i64 a0_2) ∧ w11.cell? ⟨gb173, 3, none⟩ = some (.int .i64 a0_3) ∧ w11.cell? ⟨gb173, 4, none⟩ = some (.int .i64 a0_4) ∧ w11.cell? ⟨gb173, 5, none⟩ = some (.int .i64 a0_5) ∧ w11.cell? ⟨gb173, 6, none⟩ = some (.int .i64 a0_6) := hS_
  refine norm_ (a' := ?_) ?_ ?_
  rotate_left
  ·simp only [putAll, Act.put, List.setIfInBounds_toArray, List.set_cons_zero, List.set_cons_succ]
   rfl
  refine one_ (i := 11) (N := none) tf15_7ff8 rfl rfl (one_of HT_.out (by kernel_rfl)) (by decide) (fun K hK => ?_)
  have hs12 : w11.cell? ⟨gb174, 0, none⟩ = some (.int .i64 0) := (blk_cell BK174.out 0).trans rfl
  have hfs12 := blk_frozen BK174.out 0
  have hns12_0 := NB173_174.out
  have hns12_2 := NB175_174.out
  have hns12_3 := NB176_174.out
  have hms12_0 := NB174_173.out
  have hms12_2 := NB174_175.out
  have hms12_3 := NB174_176.out
  have hs13 : w11.cell? ⟨gb174, 1, none⟩ = some (.int .i64 0) := (blk_cell BK174.out 1).trans rfl
  have hfs13 := blk_frozen BK174.out 1
  have hns13_0 := NB173_174.out
  have hns13_2 := NB175_174.out
  have hns13_3 := NB176_174.out
  have hms13_0 := NB174_173.out
  have hms13_2 := NB174_175.out
  have hms13_3 := NB174_176.out
  refine skip_ (w1 := ?_) (by rfl) rfl ?_ ?_
  rotate_left
  ·go_simp
   rfl
  refine hK.out _ _ ⟨(cfs2 NB173_174.out hHeld.1), (cfs2 NB173_174.out hHeld.2.1), (cfs2 NB173_174.out hHeld.2.2.1), (cfs2 NB173_174.out hHeld.2.2.2.1), (cfs2 NB173_174.out hHeld.2.2.2.2.1), (cfs2 NB173_174.out hHeld.2.2.2.2.2.1), (cfs2 NB173_174.out hHeld.2.2.2.2.2.2)⟩ (fun hHeld => ?_)
  clear hK K
  refine one_ (i := 12) (N := none) tf15_7ffc rfl rfl (one_of HT_.out (by kernel_rfl)) (by decide) (fun K hK => ?_)
  have hs14 : w11.cell? ⟨gb175, 0, none⟩ = some (.int .i64 0) := (blk_cell BK175.out 0).trans rfl
  have hfs14 := blk_frozen BK175.out 0
  have hns14_0 := NB173_175.out
  have hns14_1 := NB174_175.out
  have hns14_3 := NB176_175.out
  have hms14_0 := NB175_173.out
  have hms14_1 := NB175_174.out
  have hms14_3 := NB175_176.out
  have hs15 : w11.cell? ⟨gb175, 1, none⟩ = some (.int .i64 0) := (blk_cell BK175.out 1).trans rfl
  have hfs15 := blk_frozen BK175.out 1
  have hns15_0 := NB173_175.out
  have hns15_1 := NB174_175.out
  have hns15_3 := NB176_175.out
  have hms15_0 := NB175_173.out
  have hms15_1 := NB175_174.out
  have hms15_3 := NB175_176.out
  refine skip_ (w1 := ?_) (by rfl) rfl ?_ ?_
  rotate_left
  ·go_simp
   rfl
  refine hK.out _ _ ⟨(cfs2 NB173_175.out hHeld.1), (cfs2 NB173_175.out hHeld.2.1), (cfs2 NB173_175.out hHeld.2.2.1), (cfs2 NB173_175.out hHeld.2.2.2.1), (cfs2 NB173_175.out hHeld.2.2.2.2.1), (cfs2 NB173_175.out hHeld.2.2.2.2.2.1), (cfs2 NB173_175.out hHeld.2.2.2.2.2.2)⟩ (fun hHeld => ?_)
  clear hK K
  refine one_ (i := 13) (N := none) tf15_7ffe rfl rfl (one_of HT_.out (by kernel_rfl)) (by decide) (fun K hK => ?_)
  have hs16 : w11.cell? ⟨gb176, 0, none⟩ = some (.int .i64 0) := (blk_cell BK176.out 0).trans rfl
  have hfs16 := blk_frozen BK176.out 0
  have hns16_0 := NB173_176.out
  have hns16_1 := NB174_176.out
  have hns16_2 := NB175_176.out
  have hms16_0 := NB176_173.out
  have hms16_1 := NB176_174.out
  have hms16_2 := NB176_175.out
  have hs17 : w11.cell? ⟨gb176, 1, none⟩ = some (.int .i64 0) := (blk_cell BK176.out 1).trans rfl
  have hfs17 := blk_frozen BK176.out 1
  have hns17_0 := NB173_176.out
  have hns17_1 := NB174_176.out
  have hns17_2 := NB175_176.out
  have hms17_0 := NB176_173.out
  have hms17_1 := NB176_174.out
  have hms17_2 := NB176_175.out
  refine skip_ (w1 := ?_) (by rfl) rfl ?_ ?_
  rotate_left
  ·go_simp
   rfl
  refine hK.out _ _ ⟨(cfs2 NB173_176.out hHeld.1), (cfs2 NB173_176.out hHeld.2.1), (cfs2 NB173_176.out hHeld.2.2.1), (cfs2 NB173_176.out hHeld.2.2.2.1), (cfs2 NB173_176.out hHeld.2.2.2.2.1), (cfs2 NB173_176.out hHeld.2.2.2.2.2.1), (cfs2 NB173_176.out hHeld.2.2.2.2.2.2)⟩ (fun hHeld => ?_)
  clear hK K
  refine pure_ (i := 14) (N := some 6) (v := ?_) (a' := ?_) tf15_7fff rfl rfl (any_of HT_.out (by kernel_rfl)) (fun _ _ _ h => h) (Or.inl ⟨by rfl, ?_⟩) ?_ ?_
  rotate_left
  ·intro w'
   go_simp
   with_reducible rfl
  rotate_left
  ·simp only [Act.put, sA, sZ, sS, i64_w, i32_w]
   rfl
  refine done_ (done_of HT_.out (by kernel_rfl)) ?_
  go_upto_if 34 with (first | ((with_reducible refine gate_callee (f := 17) rfl ?_); refine goesL_ (some 25) rfl rfl Try.func17 (by kernel_rfl) rfl #[] rfl (by (try simp only [List.map_toArray, List.map_cons, List.map_nil]); first | done | rfl | (simp only [List.length_drop, List.length_take]; rfl)) ?_; (with_reducible refine (spillwaylaw03_fixed.calls k  true _ A2.out).mono ?_); rintro e w18 ⟨rfl, hb⟩; refine ⟨_, rfl, ?_⟩; have n0_ := Aside0.mk (blk_below (g := gb173) (o := .cells #[.int .i64 a0_0, .int .i64 a0_1, .int .i64 a0_2, .int .i64 a0_3, .int .i64 a0_4, .int .i64 a0_5, .int .i64 a0_6] 40 (0, 0)) (sp (blk_far (sp (blk_far (sp (blk_far (sp (blk_far (sp (blk_far (sp (blk_far (sp BK173.out) NB173_174.out _)) NB173_174.out _)) NB173_175.out _)) NB173_175.out _)) NB173_176.out _)) NB173_176.out _)) hb); have n1_ := Aside0.mk (blk_below (g := gb174) (o := .cells #[.int .i64 a0_0, .int .i64 a0_1] 23 (0, 0)) (by refine sp (blk_far ?_ NB174_176.out _); refine sp (blk_far ?_ NB174_176.out _); refine sp (blk_far ?_ NB174_175.out _); refine sp (blk_far ?_ NB174_175.out _); (with_reducible repeat first | apply dN | apply dW | apply dL); refine blk_put (cs := #[.int .i64 a0_0, .int .i64 0]) ?_ 1 _ rfl; (with_reducible repeat first | apply dN | apply dW | apply dL); refine blk_put (cs := #[.int .i64 0, .int .i64 0]) ?_ 0 _ rfl; exact sp BK174.out) hb); have n2_ := Aside0.mk (blk_below (g := gb175) (o := .cells #[.int .i64 a0_2, .int .i64 a0_3] 23 (0, 0)) (by refine sp (blk_far ?_ NB175_176.out _); refine sp (blk_far ?_ NB175_176.out _); (with_reducible repeat first | apply dN | apply dW | apply dL); refine blk_put (cs := #[.int .i64 a0_2, .int .i64 0]) ?_ 1 _ rfl; (with_reducible repeat first | apply dN | apply dW | apply dL); refine blk_put (cs := #[.int .i64 0, .int .i64 0]) ?_ 0 _ rfl; refine sp (blk_far ?_ NB175_174.out _); refine sp (blk_far ?_ NB175_174.out _); exact sp BK175.out) hb); have n3_ := Aside0.mk (blk_below (g := gb176) (o := .cells #[.int .i64 a0_4, .int .i64 a0_5] 23 (0, 0)) (by (with_reducible repeat first | apply dN | apply dW | apply dL); refine blk_put (cs := #[.int .i64 a0_4, .int .i64 0]) ?_ 1 _ rfl; (with_reducible repeat first | apply dN | apply dW | apply dL); refine blk_put (cs := #[.int .i64 0, .int .i64 0]) ?_ 0 _ rfl; refine sp (blk_far ?_ NB176_175.out _); refine sp (blk_far ?_ NB176_175.out _); refine sp (blk_far ?_ NB176_174.out _); refine sp (blk_far ?_ NB176_174.out _); exact sp BK176.out) hb); have n4_ := Aside0.mk (below_step (by repeat (first | (with_reducible first | exact HB.out | apply bA | apply bD | apply bW | refine bS ?_ GE173.out | refine bS ?_ GE174.out | refine bS ?_ GE175.out | refine bS ?_ GE176.out) | exact HB.out)) hb); clear BK173; clear BK174; clear BK175; clear BK176; clear HB; have BK173 := n0_; have BK174 := n1_; have BK175 := n2_; have BK176 := n3_; have HB := n4_; clear n0_ n1_ n2_ n3_ n4_; (try clear hb); (try clear hb2); (try clear hk); (try clear hi); have hnb19 := NB174_173.out; have hnc19 := NB173_174.out; have hnb20 := NB174_175.out; have hnc20 := NB175_174.out; have hnb21 := NB174_176.out; have hnc21 := NB176_174.out; have hcz22_0 : w18.cell? ⟨gb174, 0, none⟩ = some (.int .i64 a0_0) := (blk_cell BK174.out 0).trans rfl; have hcz22_1 : w18.cell? ⟨gb174, 1, none⟩ = some (.int .i64 a0_1) := (blk_cell BK174.out 1).trans rfl; have hfz22_0 := blk_frozen BK174.out 0; have hfz22_1 := blk_frozen BK174.out 1; have hnb23 := NB175_173.out; have hnc23 := NB173_175.out; have hnb24 := NB175_176.out; have hnc24 := NB176_175.out; have hcz25_0 : w18.cell? ⟨gb175, 0, none⟩ = some (.int .i64 a0_2) := (blk_cell BK175.out 0).trans rfl; have hcz25_1 : w18.cell? ⟨gb175, 1, none⟩ = some (.int .i64 a0_3) := (blk_cell BK175.out 1).trans rfl; have hfz25_0 := blk_frozen BK175.out 0; have hfz25_1 := blk_frozen BK175.out 1) | ((with_reducible refine gate_callee (f := 28) rfl ?_); refine goesL_ (some 30) rfl rfl Try.func28 (by kernel_rfl) rfl #[.agg #[.int .i64 a0_0, .int .i64 a0_1], .agg #[.int .i64 a0_2, .int .i64 a0_3]] rfl (by (try simp only [List.map_toArray, List.map_cons, List.map_nil]); first | done | rfl | (simp only [List.length_drop, List.length_take]; rfl)) ?_; (with_reducible refine (span_Add.calls k a0_0 a0_1 a0_2 a0_3 t178 t179 t180 _ A4.out).mono ?_); rintro e w26 ⟨rfl, hb⟩; refine ⟨_, rfl, ?_⟩; have n0_ := Aside0.mk (blk_below (sp BK173.out) hb); have n1_ := Aside0.mk (blk_below (sp BK174.out) hb); have n2_ := Aside0.mk (blk_below (sp BK175.out) hb); have n3_ := Aside0.mk (blk_below (sp BK176.out) hb); have n4_ := Aside0.mk (below_step (by repeat (first | (with_reducible first | exact HB.out | apply bA | apply bD | apply bW | refine bS ?_ GE173.out | refine bS ?_ GE174.out | refine bS ?_ GE175.out | refine bS ?_ GE176.out) | exact HB.out)) hb); clear BK173; clear BK174; clear BK175; clear BK176; clear HB; have BK173 := n0_; have BK174 := n1_; have BK175 := n2_; have BK176 := n3_; have HB := n4_; clear n0_ n1_ n2_ n3_ n4_; (try clear hb); (try clear hb2); (try clear hk); (try clear hi)) | ((with_reducible refine gate_dst (N := 7) rfl ?_); refine box_event ?hg (N := 7) ?hd (cs := #[.int .i64 0, .int .i64 0]) (t := 23) ?hr ?_; (case hd => rfl); (case hg => rfl); (case hr => first | (go_simp; done) | (go_simp; rfl)); intro gb181 hg w27 hbox hb; have n0_ := Aside0.mk (blk_below (sp BK173.out) hb); have n1_ := Aside0.mk (blk_below (sp BK174.out) hb); have n2_ := Aside0.mk (blk_below (sp BK175.out) hb); have n3_ := Aside0.mk (blk_below (sp BK176.out) hb); have n4_ := Aside0.mk (below_step (by repeat (first | (with_reducible first | exact HB.out | apply bA | apply bD | apply bW | refine bS ?_ GE173.out | refine bS ?_ GE174.out | refine bS ?_ GE175.out | refine bS ?_ GE176.out) | exact HB.out)) hb); have n5_ := Aside0.mk (hbox); have n6_ := Aside0.mk ((by rw [hg]; exact (below_size (by repeat (first | (with_reducible first | exact HB.out | apply bA | apply bD | apply bW | refine bS ?_ GE173.out | refine bS ?_ GE174.out | refine bS ?_ GE175.out | refine bS ?_ GE176.out) | exact HB.out))) : w.heap.size ≤ gb181)); have n7_ := Aside0.mk ((by rw [hg]; exact (below_size (by repeat (first | (with_reducible first | exact HB.out | apply bA | apply bD | apply bW | refine bS ?_ GE173.out | refine bS ?_ GE174.out | refine bS ?_ GE175.out | refine bS ?_ GE176.out) | exact HB.out))) : w.heap.size ≤ gb181)); have n8_ := Aside0.mk ((by rw [hg]; exact Nat.ne_of_lt (blk_lt (g := gb173) (o := .cells #[.int .i64 a0_0, .int .i64 a0_1, .int .i64 a0_2, .int .i64 a0_3, .int .i64 a0_4, .int .i64 a0_5, .int .i64 a0_6] 40 (0, 0)) (sp BK173.out)) : gb173 ≠ gb181)); have n9_ := Aside0.mk ((by rw [hg]; exact Nat.ne_of_gt (blk_lt (g := gb173) (o := .cells #[.int .i64 a0_0, .int .i64 a0_1, .int .i64 a0_2, .int .i64 a0_3, .int .i64 a0_4, .int .i64 a0_5, .int .i64 a0_6] 40 (0, 0)) (sp BK173.out)) : gb181 ≠ gb173)); have n10_ := Aside0.mk ((by rw [hg]; exact Nat.ne_of_lt (blk_lt (g := gb174) (o := .cells #[.int .i64 a0_0, .int .i64 a0_1] 23 (0, 0)) (sp BK174.out)) : gb174 ≠ gb181)); have n11_ := Aside0.mk ((by rw [hg]; exact Nat.ne_of_gt (blk_lt (g := gb174) (o := .cells #[.int .i64 a0_0, .int .i64 a0_1] 23 (0, 0)) (sp BK174.out)) : gb181 ≠ gb174)); have n12_ := Aside0.mk ((by rw [hg]; exact Nat.ne_of_lt (blk_lt (g := gb175) (o := .cells #[.int .i64 a0_2, .int .i64 a0_3] 23 (0, 0)) (sp BK175.out)) : gb175 ≠ gb181)); have n13_ := Aside0.mk ((by rw [hg]; exact Nat.ne_of_gt (blk_lt (g := gb175) (o := .cells #[.int .i64 a0_2, .int .i64 a0_3] 23 (0, 0)) (sp BK175.out)) : gb181 ≠ gb175)); have n14_ := Aside0.mk ((by rw [hg]; exact Nat.ne_of_lt (blk_lt (g := gb176) (o := .cells #[.int .i64 a0_4, .int .i64 a0_5] 23 (0, 0)) (sp BK176.out)) : gb176 ≠ gb181)); have n15_ := Aside0.mk ((by rw [hg]; exact Nat.ne_of_gt (blk_lt (g := gb176) (o := .cells #[.int .i64 a0_4, .int .i64 a0_5] 23 (0, 0)) (sp BK176.out)) : gb181 ≠ gb176)); clear BK173; clear BK174; clear BK175; clear BK176; clear HB; have BK173 := n0_; have BK174 := n1_; have BK175 := n2_; have BK176 := n3_; have HB := n4_; have BK181 := n5_; have GW181 := n6_; have GE181 := n7_; have NB173_181 := n8_; have NB181_173 := n9_; have NB174_181 := n10_; have NB181_174 := n11_; have NB175_181 := n12_; have NB181_175 := n13_; have NB176_181 := n14_; have NB181_176 := n15_; clear n0_ n1_ n2_ n3_ n4_ n5_ n6_ n7_ n8_ n9_ n10_ n11_ n12_ n13_ n14_ n15_; clear hb hbox hg; have hnb28 := NB181_173.out; have hnc28 := NB173_181.out; have hnb29 := NB181_174.out; have hnc29 := NB174_181.out; have hnb30 := NB181_175.out; have hnc30 := NB175_181.out; have hnb31 := NB181_176.out; have hnc31 := NB176_181.out; have hcz32_0 : w27.cell? ⟨gb181, 0, none⟩ = some (.int .i64 0) := (blk_cell BK181.out 0).trans rfl; have hcz32_1 : w27.cell? ⟨gb181, 1, none⟩ = some (.int .i64 0) := (blk_cell BK181.out 1).trans rfl; have hfz32_0 := blk_frozen BK181.out 0; have hfz32_1 := blk_frozen BK181.out 1))
  (try simp only [Act.put, List.setIfInBounds_toArray, List.set_cons_zero, List.set_cons_succ])
  go_cut [] (fun wc => ∃ (kq : Nat), Aside0 (spillwaylaw03_SpanTight.j1 kq a0_6 t180 a0_0 a0_1 a0_2 a0_3 a0_4 a0_5 t178 t179 = some r) ∧ Aside0 (kq ≤ k) ∧ Aside0 (wc.heap[gb173]? = some (.cells #[.int .i64 a0_0, .int .i64 a0_1, .int .i64 a0_2, .int .i64 a0_3, .int .i64 a0_4, .int .i64 a0_5, .int .i64 a0_6] 40 (0, 0))) ∧ Aside0 (wc.heap[gb174]? = some (.cells #[.int .i64 a0_0, .int .i64 a0_1] 23 (0, 0))) ∧ Aside0 (wc.heap[gb175]? = some (.cells #[.int .i64 a0_2, .int .i64 a0_3] 23 (0, 0))) ∧ Aside0 (wc.heap[gb176]? = some (.cells #[.int .i64 a0_4, .int .i64 a0_5] 23 (0, 0))) ∧ Aside0 (wc.heap[gb181]? = some (.cells #[.int .i64 t178, .int .i64 t179] 23 (0, 0))) ∧ Aside0 (Below w.heap.size w wc))
  case first =>
   have H := HC5.out
   clear HC5
   by_cases c33 : t180 = 0
   ·rw [if_pos c33] at H
    have c33b0 : (t180 == 0) = true := beq_iff_eq.mpr c33
    have c33b1 : (t180 != 0) = false := bne_eq_false_iff_eq.mpr c33
    clear c33
    (first | rw [c33b0] | (simp only [i64_w, i32_w]; rw [c33b0]) | skip)
    replace H := Option.bind_eq_some_iff.mp H
    obtain ⟨⟨t182, t183⟩, A340, H⟩ := H
    replace H : ((num_Add.f a0_1 a0_3).bind fun bt184 => (if t183 = 0 then (if bt184.2 = 0 then (if t178 = t182 then (spillwaylaw03_SpanTight.j0 k a0_6 t180 (t179 != bt184.1) a0_0 a0_1 a0_2 a0_3 a0_4 a0_5 t178 t179) else (spillwaylaw03_SpanTight.j0 k a0_6 t180 true a0_0 a0_1 a0_2 a0_3 a0_4 a0_5 t178 t179)) else (spillwaylaw03_SpanTight.j0 k a0_6 t180 true a0_0 a0_1 a0_2 a0_3 a0_4 a0_5 t178 t179)) else (spillwaylaw03_SpanTight.j0 k a0_6 t180 true a0_0 a0_1 a0_2 a0_3 a0_4 a0_5 t178 t179))) = some r := H
    have A34 := Aside0.mk A340
    clear A340
    replace H := Option.bind_eq_some_iff.mp H
    obtain ⟨⟨t184, t185⟩, A350, H⟩ := H
    replace H : (if t183 = 0 then (if t185 = 0 then (if t178 = t182 then (spillwaylaw03_SpanTight.j0 k a0_6 t180 (t179 != t184) a0_0 a0_1 a0_2 a0_3 a0_4 a0_5 t178 t179) else (spillwaylaw03_SpanTight.j0 k a0_6 t180 true a0_0 a0_1 a0_2 a0_3 a0_4 a0_5 t178 t179)) else (spillwaylaw03_SpanTight.j0 k a0_6 t180 true a0_0 a0_1 a0_2 a0_3 a0_4 a0_5 t178 t179)) else (spillwaylaw03_SpanTight.j0 k a0_6 t180 true a0_0 a0_1 a0_2 a0_3 a0_4 a0_5 t178 t179)) = some r := H
    have A35 := Aside0.mk A350
    clear A350
    have HC36 := Aside0.mk H
    clear H
    have hnb37 := NB174_173.out
    have hnc37 := NB173_174.out
    have hnb38 := NB174_175.out
    have hnc38 := NB175_174.out
    have hnb39 := NB174_176.out
    have hnc39 := NB176_174.out
    have hnb40 := NB174_181.out
    have hnc40 := NB181_174.out
    have hcz41_0 : w27.cell? ⟨gb174, 0, none⟩ = some (.int .i64 a0_0) := (blk_cell BK174.out 0).trans rfl
    have hcz41_1 : w27.cell? ⟨gb174, 1, none⟩ = some (.int .i64 a0_1) := (blk_cell BK174.out 1).trans rfl
    have hfz41_0 := blk_frozen BK174.out 0
    have hfz41_1 := blk_frozen BK174.out 1
    have hnb42 := NB175_173.out
    have hnc42 := NB173_175.out
    have hnb43 := NB175_176.out
    have hnc43 := NB176_175.out
    have hnb44 := NB175_181.out
    have hnc44 := NB181_175.out
    have hcz45_0 : w27.cell? ⟨gb175, 0, none⟩ = some (.int .i64 a0_2) := (blk_cell BK175.out 0).trans rfl
    have hcz45_1 : w27.cell? ⟨gb175, 1, none⟩ = some (.int .i64 a0_3) := (blk_cell BK175.out 1).trans rfl
    have hfz45_0 := blk_frozen BK175.out 0
    have hfz45_1 := blk_frozen BK175.out 1
    go_upto_region 8 with (first | ((with_reducible refine gate_callee (f := 34) rfl ?_); refine goesL_ (some 40) rfl rfl Try.func34 (by kernel_rfl) rfl #[.int .i64 a0_0, .int .i64 a0_2] rfl (by (try simp only [List.map_toArray, List.map_cons, List.map_nil]); first | done | rfl | (simp only [List.length_drop, List.length_take]; rfl)) ?_; (with_reducible refine (num_Add.calls a0_0 a0_2 t182 t183 _ A34.out).mono ?_); rintro e w' ⟨rfl, ⟨nd, rfl⟩⟩; refine ⟨_, rfl, ?_⟩) | ((with_reducible refine gate_callee (f := 34) rfl ?_); refine goesL_ (some 48) rfl rfl Try.func34 (by kernel_rfl) rfl #[.int .i64 a0_1, .int .i64 a0_3] rfl (by (try simp only [List.map_toArray, List.map_cons, List.map_nil]); first | done | rfl | (simp only [List.length_drop, List.length_take]; rfl)) ?_; (with_reducible refine (num_Add.calls a0_1 a0_3 t184 t185 _ A35.out).mono ?_); rintro e w' ⟨rfl, ⟨nd, rfl⟩⟩; refine ⟨_, rfl, ?_⟩))
    (try simp only [Act.put, List.setIfInBounds_toArray, List.set_cons_zero, List.set_cons_succ])
    go_cut [68] (fun v68 wc => ∃ (kq : Nat) (x68_35 : Bool), v68 = .bool x68_35 ∧ Aside0 (spillwaylaw03_SpanTight.j0 kq a0_6 t180 x68_35 a0_0 a0_1 a0_2 a0_3 a0_4 a0_5 t178 t179 = some r) ∧ Aside0 (kq ≤ k) ∧ Aside0 (wc.heap[gb173]? = some (.cells #[.int .i64 a0_0, .int .i64 a0_1, .int .i64 a0_2, .int .i64 a0_3, .int .i64 a0_4, .int .i64 a0_5, .int .i64 a0_6] 40 (0, 0))) ∧ Aside0 (wc.heap[gb174]? = some (.cells #[.int .i64 a0_0, .int .i64 a0_1] 23 (0, 0))) ∧ Aside0 (wc.heap[gb175]? = some (.cells #[.int .i64 a0_2, .int .i64 a0_3] 23 (0, 0))) ∧ Aside0 (wc.heap[gb176]? = some (.cells #[.int .i64 a0_4, .int .i64 a0_5] 23 (0, 0))) ∧ Aside0 (wc.heap[gb181]? = some (.cells #[.int .i64 t178, .int .i64 t179] 23 (0, 0))) ∧ Aside0 (Below w.heap.size w wc))
    case first =>
     have H := HC36.out
     clear HC36
     by_cases c46 : t183 = 0
     ·rw [if_pos c46] at H
      have c46b0 : (t183 == 0) = true := beq_iff_eq.mpr c46
      have c46b1 : (t183 != 0) = false := bne_eq_false_iff_eq.mpr c46
      clear c46
      (first | rw [c46b0] | (simp only [i64_w, i32_w]; rw [c46b0]) | skip)
      by_cases c47 : t185 = 0
      ·rw [if_pos c47] at H
       have c47b0 : (t185 == 0) = true := beq_iff_eq.mpr c47
       have c47b1 : (t185 != 0) = false := bne_eq_false_iff_eq.mpr c47
       clear c47
       by_cases c48 : t178 = t182
       ·rw [if_pos c48] at H
        have c48b0 : (t178 == t182) = true := beq_iff_eq.mpr c48
        have c48b1 : (t178 != t182) = false := bne_eq_false_iff_eq.mpr c48
        clear c48
        have H' := Aside0.mk H
        clear H
        have hnb49 := NB181_173.out
        have hnc49 := NB173_181.out
        have hnb50 := NB181_174.out
        have hnc50 := NB174_181.out
        have hnb51 := NB181_175.out
        have hnc51 := NB175_181.out
        have hnb52 := NB181_176.out
        have hnc52 := NB176_181.out
        have hcz53_0 : w27.cell? ⟨gb181, 0, none⟩ = some (.int .i64 0) := (blk_cell BK181.out 0).trans rfl
        have hcz53_1 : w27.cell? ⟨gb181, 1, none⟩ = some (.int .i64 0) := (blk_cell BK181.out 1).trans rfl
        have hfz53_0 := blk_frozen BK181.out 0
        have hfz53_1 := blk_frozen BK181.out 1
        go_wp2
        go_meet
        case rel => exact ⟨_, ((t179 != t184)), (by first | rfl | (simp; done) | (simp [*]; done)), H', ⟨by first | omega | exact Nat.le_refl _⟩, ⟨(sp (blk_far (sp (blk_far (sp BK173.out) NB173_181.out _)) NB173_181.out _))⟩, ⟨(sp (blk_far (sp (blk_far (sp BK174.out) NB174_181.out _)) NB174_181.out _))⟩, ⟨(sp (blk_far (sp (blk_far (sp BK175.out) NB175_181.out _)) NB175_181.out _))⟩, ⟨(sp (blk_far (sp (blk_far (sp BK176.out) NB176_181.out _)) NB176_181.out _))⟩, ⟨by (with_reducible repeat first | apply dN | apply dW | apply dL); refine blk_put (cs := #[.int .i64 t178, .int .i64 0]) ?_ 1 _ rfl; (with_reducible repeat first | apply dN | apply dW | apply dL); refine blk_put (cs := #[.int .i64 0, .int .i64 0]) ?_ 0 _ rfl; exact sp BK181.out⟩, ⟨by repeat (first | (with_reducible first | exact HB.out | apply bA | apply bD | apply bW | refine bS ?_ GE173.out | refine bS ?_ GE174.out | refine bS ?_ GE175.out | refine bS ?_ GE176.out | refine bS ?_ GE181.out) | exact HB.out)⟩⟩
       ·rw [if_neg c48] at H
        have c48b0 : (t178 == t182) = false := beq_eq_false_iff_ne.mpr c48
        have c48b1 : (t178 != t182) = true := bne_iff_ne.mpr c48
        have H' := Aside0.mk H
        clear H
        have hnb54 := NB181_173.out
        have hnc54 := NB173_181.out
        have hnb55 := NB181_174.out
        have hnc55 := NB174_181.out
        have hnb56 := NB181_175.out
        have hnc56 := NB175_181.out
        have hnb57 := NB181_176.out
        have hnc57 := NB176_181.out
        have hcz58_0 : w27.cell? ⟨gb181, 0, none⟩ = some (.int .i64 0) := (blk_cell BK181.out 0).trans rfl
        have hcz58_1 : w27.cell? ⟨gb181, 1, none⟩ = some (.int .i64 0) := (blk_cell BK181.out 1).trans rfl
        have hfz58_0 := blk_frozen BK181.out 0
        have hfz58_1 := blk_frozen BK181.out 1
        go_wp2
        go_meet
        case rel => exact ⟨_, (true), (by first | rfl | (simp; done) | (simp [*]; done)), H', ⟨by first | omega | exact Nat.le_refl _⟩, ⟨(sp (blk_far (sp (blk_far (sp BK173.out) NB173_181.out _)) NB173_181.out _))⟩, ⟨(sp (blk_far (sp (blk_far (sp BK174.out) NB174_181.out _)) NB174_181.out _))⟩, ⟨(sp (blk_far (sp (blk_far (sp BK175.out) NB175_181.out _)) NB175_181.out _))⟩, ⟨(sp (blk_far (sp (blk_far (sp BK176.out) NB176_181.out _)) NB176_181.out _))⟩, ⟨by (with_reducible repeat first | apply dN | apply dW | apply dL); refine blk_put (cs := #[.int .i64 t178, .int .i64 0]) ?_ 1 _ rfl; (with_reducible repeat first | apply dN | apply dW | apply dL); refine blk_put (cs := #[.int .i64 0, .int .i64 0]) ?_ 0 _ rfl; exact sp BK181.out⟩, ⟨by repeat (first | (with_reducible first | exact HB.out | apply bA | apply bD | apply bW | refine bS ?_ GE173.out | refine bS ?_ GE174.out | refine bS ?_ GE175.out | refine bS ?_ GE176.out | refine bS ?_ GE181.out) | exact HB.out)⟩⟩
      ·rw [if_neg c47] at H
       have c47b0 : (t185 == 0) = false := beq_eq_false_iff_ne.mpr c47
       have c47b1 : (t185 != 0) = true := bne_iff_ne.mpr c47
       have H' := Aside0.mk H
       clear H
       go_wp2
       go_meet
       case rel => exact ⟨_, (true), (by first | rfl | (simp; done) | (simp [*]; done)), H', ⟨by first | omega | exact Nat.le_refl _⟩, ⟨(sp (blk_far (sp (blk_far (sp BK173.out) NB173_181.out _)) NB173_181.out _))⟩, ⟨(sp (blk_far (sp (blk_far (sp BK174.out) NB174_181.out _)) NB174_181.out _))⟩, ⟨(sp (blk_far (sp (blk_far (sp BK175.out) NB175_181.out _)) NB175_181.out _))⟩, ⟨(sp (blk_far (sp (blk_far (sp BK176.out) NB176_181.out _)) NB176_181.out _))⟩, ⟨by (with_reducible repeat first | apply dN | apply dW | apply dL); refine blk_put (cs := #[.int .i64 t178, .int .i64 0]) ?_ 1 _ rfl; (with_reducible repeat first | apply dN | apply dW | apply dL); refine blk_put (cs := #[.int .i64 0, .int .i64 0]) ?_ 0 _ rfl; exact sp BK181.out⟩, ⟨by repeat (first | (with_reducible first | exact HB.out | apply bA | apply bD | apply bW | refine bS ?_ GE173.out | refine bS ?_ GE174.out | refine bS ?_ GE175.out | refine bS ?_ GE176.out | refine bS ?_ GE181.out) | exact HB.out)⟩⟩
     ·rw [if_neg c46] at H
      have c46b0 : (t183 == 0) = false := beq_eq_false_iff_ne.mpr c46
      have c46b1 : (t183 != 0) = true := bne_iff_ne.mpr c46
      (first | rw [c46b0] | (simp only [i64_w, i32_w]; rw [c46b0]) | skip)
      have H' := Aside0.mk H
      clear H
      go_wp2
      go_meet
      case rel => exact ⟨_, (true), (by first | rfl | (simp; done) | (simp [*]; done)), H', ⟨by first | omega | exact Nat.le_refl _⟩, ⟨(sp (blk_far (sp (blk_far (sp BK173.out) NB173_181.out _)) NB173_181.out _))⟩, ⟨(sp (blk_far (sp (blk_far (sp BK174.out) NB174_181.out _)) NB174_181.out _))⟩, ⟨(sp (blk_far (sp (blk_far (sp BK175.out) NB175_181.out _)) NB175_181.out _))⟩, ⟨(sp (blk_far (sp (blk_far (sp BK176.out) NB176_181.out _)) NB176_181.out _))⟩, ⟨by (with_reducible repeat first | apply dN | apply dW | apply dL); refine blk_put (cs := #[.int .i64 t178, .int .i64 0]) ?_ 1 _ rfl; (with_reducible repeat first | apply dN | apply dW | apply dL); refine blk_put (cs := #[.int .i64 0, .int .i64 0]) ?_ 0 _ rfl; exact sp BK181.out⟩, ⟨by repeat (first | (with_reducible first | exact HB.out | apply bA | apply bD | apply bW | refine bS ?_ GE173.out | refine bS ?_ GE174.out | refine bS ?_ GE175.out | refine bS ?_ GE176.out | refine bS ?_ GE181.out) | exact HB.out)⟩⟩
    case rest =>
     clear HC36
     try clear c1
     try clear c2
     try clear p2
     try clear c3
     try clear c4
     try clear c5
     try clear c17
     try clear c19
     try clear c20
     try clear c21
     try clear c23
     try clear c24
     try clear c28
     try clear c29
     try clear c30
     try clear c31
     try clear c33
     try clear c33b0
     try clear c33b1
     try clear c34
     try clear c37
     try clear c38
     try clear c39
     try clear c40
     try clear c42
     try clear c43
     try clear c44
     try clear c46
     try clear c46b0
     try clear c46b1
     try clear c47
     try clear c47b0
     try clear c47b1
     try clear c48
     try clear c48b0
     try clear c48b1
     try clear c49
     try clear c50
     try clear c51
     try clear c52
     try clear c54
     try clear c55
     try clear c56
     try clear c57
     try clear hcz22_0
     try clear hcz22_1
     try clear hcz25_0
     try clear hcz25_1
     try clear hcz32_0
     try clear hcz32_1
     try clear hcz41_0
     try clear hcz41_1
     try clear hcz45_0
     try clear hcz45_1
     try clear hcz53_0
     try clear hcz53_1
     try clear hcz58_0
     try clear hcz58_1
     try clear hfz22_0
     try clear hfz22_1
     try clear hfz25_0
     try clear hfz25_1
     try clear hfz32_0
     try clear hfz32_1
     try clear hfz41_0
     try clear hfz41_1
     try clear hfz45_0
     try clear hfz45_1
     try clear hfz53_0
     try clear hfz53_1
     try clear hfz58_0
     try clear hfz58_1
     obtain ⟨kq, x68_35, rfl, HA, HJ35, BK173, BK174, BK175, BK176, BK181, HB⟩ := hcut
     cases kq with
     | zero => exact absurd HA.out (by simp [spillwaylaw03_SpanTight.j0])
     | succ kj35 =>
      have H := HA.out
      clear HA
      simp only [spillwaylaw03_SpanTight.j0] at H
      by_cases c59 : x68_35 = true
      ·subst c59
       have H1 : (some false) = some r := by rw [if_pos rfl] at H; exact H
       clear H
       have H := H1
       clear H1
       exact absurd ((Option.some.inj H).trans HRT.out) Bool.false_ne_true
      ·replace c59 := Bool.eq_false_iff.mpr c59
       subst c59
       have H1 : (spillwaylaw03_SpanTight.j1 kj35 a0_6 t180 a0_0 a0_1 a0_2 a0_3 a0_4 a0_5 t178 t179) = some r := by rw [if_neg (show ¬ (false = true) by decide)] at H; exact H
       clear H
       have H := H1
       clear H1
       have H' := Aside0.mk H
       clear H
       go_wp2
       go_meet
       case rel => exact ⟨_, H', ⟨by have := HJ35.out; first | omega | exact Nat.le_refl _⟩, ⟨(sp BK173.out)⟩, ⟨(sp BK174.out)⟩, ⟨(sp BK175.out)⟩, ⟨(sp BK176.out)⟩, ⟨(sp BK181.out)⟩, ⟨by repeat (first | (with_reducible first | exact HB.out | apply bA | apply bD | apply bW | refine bS ?_ GE173.out | refine bS ?_ GE174.out | refine bS ?_ GE175.out | refine bS ?_ GE176.out | refine bS ?_ GE181.out) | exact HB.out)⟩⟩
   ·rw [if_neg c33] at H
    have c33b0 : (t180 == 0) = false := beq_eq_false_iff_ne.mpr c33
    have c33b1 : (t180 != 0) = true := bne_iff_ne.mpr c33
    (first | rw [c33b0] | (simp only [i64_w, i32_w]; rw [c33b0]) | skip)
    have H' := Aside0.mk H
    clear H
    go_wp2
    go_meet
    case rel => exact ⟨_, H', ⟨by first | omega | exact Nat.le_refl _⟩, ⟨(sp (blk_far (sp (blk_far (sp BK173.out) NB173_181.out _)) NB173_181.out _))⟩, ⟨(sp (blk_far (sp (blk_far (sp BK174.out) NB174_181.out _)) NB174_181.out _))⟩, ⟨(sp (blk_far (sp (blk_far (sp BK175.out) NB175_181.out _)) NB175_181.out _))⟩, ⟨(sp (blk_far (sp (blk_far (sp BK176.out) NB176_181.out _)) NB176_181.out _))⟩, ⟨by (with_reducible repeat first | apply dN | apply dW | apply dL); refine blk_put (cs := #[.int .i64 t178, .int .i64 0]) ?_ 1 _ rfl; (with_reducible repeat first | apply dN | apply dW | apply dL); refine blk_put (cs := #[.int .i64 0, .int .i64 0]) ?_ 0 _ rfl; exact sp BK181.out⟩, ⟨by repeat (first | (with_reducible first | exact HB.out | apply bA | apply bD | apply bW | refine bS ?_ GE173.out | refine bS ?_ GE174.out | refine bS ?_ GE175.out | refine bS ?_ GE176.out | refine bS ?_ GE181.out) | exact HB.out)⟩⟩
  case rest =>
   clear HC5
   try clear c1
   try clear c2
   try clear p2
   try clear c3
   try clear c4
   try clear c5
   try clear c17
   try clear c19
   try clear c20
   try clear c21
   try clear c23
   try clear c24
   try clear c28
   try clear c29
   try clear c30
   try clear c31
   try clear c33
   try clear c33b0
   try clear c33b1
   try clear c34
   try clear c37
   try clear c38
   try clear c39
   try clear c40
   try clear c42
   try clear c43
   try clear c44
   try clear c46
   try clear c46b0
   try clear c46b1
   try clear c47
   try clear c47b0
   try clear c47b1
   try clear c48
   try clear c48b0
   try clear c48b1
   try clear c49
   try clear c50
   try clear c51
   try clear c52
   try clear c54
   try clear c55
   try clear c56
   try clear c57
   try clear c59
   try clear hcz22_0
   try clear hcz22_1
   try clear hcz25_0
   try clear hcz25_1
   try clear hcz32_0
   try clear hcz32_1
   try clear hcz41_0
   try clear hcz41_1
   try clear hcz45_0
   try clear hcz45_1
   try clear hcz53_0
   try clear hcz53_1
   try clear hcz58_0
   try clear hcz58_1
   try clear hfz22_0
   try clear hfz22_1
   try clear hfz25_0
   try clear hfz25_1
   try clear hfz32_0
   try clear hfz32_1
   try clear hfz41_0
   try clear hfz41_1
   try clear hfz45_0
   try clear hfz45_1
   try clear hfz53_0
   try clear hfz53_1
   try clear hfz58_0
   try clear hfz58_1
   try clear p2
   obtain ⟨kq, HA, HJ4, BK173, BK174, BK175, BK176, BK181, HB⟩ := hcut
   cases kq with
   | zero => exact absurd HA.out (by simp [spillwaylaw03_SpanTight.j1])
   | succ kj4 =>
    have H := HA.out
    clear HA
    simp only [spillwaylaw03_SpanTight.j1] at H
    replace H := Option.bind_eq_some_iff.mp H
    obtain ⟨⟨t186, t187, t188⟩, A600, H⟩ := H
    replace H : ((span_Holds.f a0_0 a0_1 a0_4 a0_5).bind fun t190 => (if t190 = true then (if t180 = 0 then ((span_Valid.f a0_2 a0_3).bind fun t191 => (if ((t188 == 0) != t191) = true then (spillwaylaw03_SpanTight.j2 kj4 a0_6 true a0_0 a0_1) else (if t188 = 0 then ((span_Holds.f a0_0 a0_1 a0_4 a0_5).bind fun t192 => ((span_Holds.f t178 t179 t186 t187).bind fun t193 => (spillwaylaw03_SpanTight.j2 kj4 a0_6 (t192 != t193) a0_0 a0_1))) else (spillwaylaw03_SpanTight.j2 kj4 a0_6 false a0_0 a0_1)))) else (spillwaylaw03_SpanTight.j2 kj4 a0_6 false a0_0 a0_1)) else (if t180 = 0 then (if t188 = 0 then ((span_Holds.f a0_0 a0_1 a0_4 a0_5).bind fun t194 => ((span_Holds.f t178 t179 t186 t187).bind fun t195 => (spillwaylaw03_SpanTight.j2 kj4 a0_6 (t194 != t195) a0_0 a0_1))) else (spillwaylaw03_SpanTight.j2 kj4 a0_6 false a0_0 a0_1)) else (spillwaylaw03_SpanTight.j2 kj4 a0_6 false a0_0 a0_1)))) = some r := H
    have A60 := Aside0.mk A600
    clear A600
    have HC61 := Aside0.mk H
    clear H
    have hnb62 := NB176_173.out
    have hnc62 := NB173_176.out
    have hnb63 := NB176_174.out
    have hnc63 := NB174_176.out
    have hnb64 := NB176_175.out
    have hnc64 := NB175_176.out
    have hnb65 := NB176_181.out
    have hnc65 := NB181_176.out
    have hcz66_0 : wc.cell? ⟨gb176, 0, none⟩ = some (.int .i64 a0_4) := (blk_cell BK176.out 0).trans rfl
    have hcz66_1 : wc.cell? ⟨gb176, 1, none⟩ = some (.int .i64 a0_5) := (blk_cell BK176.out 1).trans rfl
    have hfz66_0 := blk_frozen BK176.out 0
    have hfz66_1 := blk_frozen BK176.out 1
    have hnb67 := NB175_173.out
    have hnc67 := NB173_175.out
    have hnb68 := NB175_174.out
    have hnc68 := NB174_175.out
    have hnb69 := NB175_181.out
    have hnc69 := NB181_175.out
    have hcz70_0 : wc.cell? ⟨gb175, 0, none⟩ = some (.int .i64 a0_2) := (blk_cell BK175.out 0).trans rfl
    have hcz70_1 : wc.cell? ⟨gb175, 1, none⟩ = some (.int .i64 a0_3) := (blk_cell BK175.out 1).trans rfl
    have hfz70_0 := blk_frozen BK175.out 0
    have hfz70_1 := blk_frozen BK175.out 1
    go_upto_region 11 with (first | ((with_reducible refine gate_callee (f := 28) rfl ?_); refine goesL_ (some 72) rfl rfl Try.func28 (by kernel_rfl) rfl #[.agg #[.int .i64 a0_4, .int .i64 a0_5], .agg #[.int .i64 a0_2, .int .i64 a0_3]] rfl (by (try simp only [List.map_toArray, List.map_cons, List.map_nil]); first | done | rfl | (simp only [List.length_drop, List.length_take]; rfl)) ?_; (with_reducible refine (span_Add.calls kj4 a0_4 a0_5 a0_2 a0_3 t186 t187 t188 _ A60.out).mono ?_); rintro e w71 ⟨rfl, hb⟩; refine ⟨_, rfl, ?_⟩; have n0_ := Aside0.mk (blk_below (sp BK173.out) hb); have n1_ := Aside0.mk (blk_below (sp BK174.out) hb); have n2_ := Aside0.mk (blk_below (sp BK175.out) hb); have n3_ := Aside0.mk (blk_below (sp BK176.out) hb); have n4_ := Aside0.mk (blk_below (sp BK181.out) hb); have n5_ := Aside0.mk (below_step (by repeat (first | (with_reducible first | exact HB.out | apply bA | apply bD | apply bW | refine bS ?_ GE173.out | refine bS ?_ GE174.out | refine bS ?_ GE175.out | refine bS ?_ GE176.out | refine bS ?_ GE181.out) | exact HB.out)) hb); clear BK173; clear BK174; clear BK175; clear BK176; clear BK181; clear HB; have BK173 := n0_; have BK174 := n1_; have BK175 := n2_; have BK176 := n3_; have BK181 := n4_; have HB := n5_; clear n0_ n1_ n2_ n3_ n4_ n5_; (try clear hb); (try clear hb2); (try clear hk); (try clear hi)) | ((with_reducible refine gate_dst (N := 13) rfl ?_); refine box_event ?hg (N := 13) ?hd (cs := #[.int .i64 0, .int .i64 0]) (t := 23) ?hr ?_; (case hd => rfl); (case hg => rfl); (case hr => first | (go_simp; done) | (go_simp; rfl)); intro gb189 hg w72 hbox hb; have n0_ := Aside0.mk (blk_below (sp BK173.out) hb); have n1_ := Aside0.mk (blk_below (sp BK174.out) hb); have n2_ := Aside0.mk (blk_below (sp BK175.out) hb); have n3_ := Aside0.mk (blk_below (sp BK176.out) hb); have n4_ := Aside0.mk (blk_below (sp BK181.out) hb); have n5_ := Aside0.mk (below_step (by repeat (first | (with_reducible first | exact HB.out | apply bA | apply bD | apply bW | refine bS ?_ GE173.out | refine bS ?_ GE174.out | refine bS ?_ GE175.out | refine bS ?_ GE176.out | refine bS ?_ GE181.out) | exact HB.out)) hb); have n6_ := Aside0.mk (hbox); have n7_ := Aside0.mk ((by rw [hg]; exact (below_size (by repeat (first | (with_reducible first | exact HB.out | apply bA | apply bD | apply bW | refine bS ?_ GE173.out | refine bS ?_ GE174.out | refine bS ?_ GE175.out | refine bS ?_ GE176.out | refine bS ?_ GE181.out) | exact HB.out))) : w.heap.size ≤ gb189)); have n8_ := Aside0.mk ((by rw [hg]; exact (below_size (by repeat (first | (with_reducible first | exact HB.out | apply bA | apply bD | apply bW | refine bS ?_ GE173.out | refine bS ?_ GE174.out | refine bS ?_ GE175.out | refine bS ?_ GE176.out | refine bS ?_ GE181.out) | exact HB.out))) : w.heap.size ≤ gb189)); have n9_ := Aside0.mk ((by rw [hg]; exact Nat.ne_of_lt (blk_lt (g := gb173) (o := .cells #[.int .i64 a0_0, .int .i64 a0_1, .int .i64 a0_2, .int .i64 a0_3, .int .i64 a0_4, .int .i64 a0_5, .int .i64 a0_6] 40 (0, 0)) (sp BK173.out)) : gb173 ≠ gb189)); have n10_ := Aside0.mk ((by rw [hg]; exact Nat.ne_of_gt (blk_lt (g := gb173) (o := .cells #[.int .i64 a0_0, .int .i64 a0_1, .int .i64 a0_2, .int .i64 a0_3, .int .i64 a0_4, .int .i64 a0_5, .int .i64 a0_6] 40 (0, 0)) (sp BK173.out)) : gb189 ≠ gb173)); have n11_ := Aside0.mk ((by rw [hg]; exact Nat.ne_of_lt (blk_lt (g := gb174) (o := .cells #[.int .i64 a0_0, .int .i64 a0_1] 23 (0, 0)) (sp BK174.out)) : gb174 ≠ gb189)); have n12_ := Aside0.mk ((by rw [hg]; exact Nat.ne_of_gt (blk_lt (g := gb174) (o := .cells #[.int .i64 a0_0, .int .i64 a0_1] 23 (0, 0)) (sp BK174.out)) : gb189 ≠ gb174)); have n13_ := Aside0.mk ((by rw [hg]; exact Nat.ne_of_lt (blk_lt (g := gb175) (o := .cells #[.int .i64 a0_2, .int .i64 a0_3] 23 (0, 0)) (sp BK175.out)) : gb175 ≠ gb189)); have n14_ := Aside0.mk ((by rw [hg]; exact Nat.ne_of_gt (blk_lt (g := gb175) (o := .cells #[.int .i64 a0_2, .int .i64 a0_3] 23 (0, 0)) (sp BK175.out)) : gb189 ≠ gb175)); have n15_ := Aside0.mk ((by rw [hg]; exact Nat.ne_of_lt (blk_lt (g := gb176) (o := .cells #[.int .i64 a0_4, .int .i64 a0_5] 23 (0, 0)) (sp BK176.out)) : gb176 ≠ gb189)); have n16_ := Aside0.mk ((by rw [hg]; exact Nat.ne_of_gt (blk_lt (g := gb176) (o := .cells #[.int .i64 a0_4, .int .i64 a0_5] 23 (0, 0)) (sp BK176.out)) : gb189 ≠ gb176)); have n17_ := Aside0.mk ((by rw [hg]; exact Nat.ne_of_lt (blk_lt (g := gb181) (o := .cells #[.int .i64 t178, .int .i64 t179] 23 (0, 0)) (sp BK181.out)) : gb181 ≠ gb189)); have n18_ := Aside0.mk ((by rw [hg]; exact Nat.ne_of_gt (blk_lt (g := gb181) (o := .cells #[.int .i64 t178, .int .i64 t179] 23 (0, 0)) (sp BK181.out)) : gb189 ≠ gb181)); clear BK173; clear BK174; clear BK175; clear BK176; clear BK181; clear HB; have BK173 := n0_; have BK174 := n1_; have BK175 := n2_; have BK176 := n3_; have BK181 := n4_; have HB := n5_; have BK189 := n6_; have GW189 := n7_; have GE189 := n8_; have NB173_189 := n9_; have NB189_173 := n10_; have NB174_189 := n11_; have NB189_174 := n12_; have NB175_189 := n13_; have NB189_175 := n14_; have NB176_189 := n15_; have NB189_176 := n16_; have NB181_189 := n17_; have NB189_181 := n18_; clear n0_ n1_ n2_ n3_ n4_ n5_ n6_ n7_ n8_ n9_ n10_ n11_ n12_ n13_ n14_ n15_ n16_ n17_ n18_; clear hb hbox hg; have hnb73 := NB189_173.out; have hnc73 := NB173_189.out; have hnb74 := NB189_174.out; have hnc74 := NB174_189.out; have hnb75 := NB189_175.out; have hnc75 := NB175_189.out; have hnb76 := NB189_176.out; have hnc76 := NB176_189.out; have hnb77 := NB189_181.out; have hnc77 := NB181_189.out; have hcz78_0 : w72.cell? ⟨gb189, 0, none⟩ = some (.int .i64 0) := (blk_cell BK189.out 0).trans rfl; have hcz78_1 : w72.cell? ⟨gb189, 1, none⟩ = some (.int .i64 0) := (blk_cell BK189.out 1).trans rfl; have hfz78_0 := blk_frozen BK189.out 0; have hfz78_1 := blk_frozen BK189.out 1))
    (try simp only [Act.put, List.setIfInBounds_toArray, List.set_cons_zero, List.set_cons_succ])
    go_cut [105] (fun v105 wc => ∃ (kq : Nat) (x105_60 : Bool), v105 = .bool x105_60 ∧ Aside0 (spillwaylaw03_SpanTight.j2 kq a0_6 x105_60 a0_0 a0_1 = some r) ∧ Aside0 (kq ≤ kj4) ∧ Aside0 (wc.heap[gb173]? = some (.cells #[.int .i64 a0_0, .int .i64 a0_1, .int .i64 a0_2, .int .i64 a0_3, .int .i64 a0_4, .int .i64 a0_5, .int .i64 a0_6] 40 (0, 0))) ∧ Aside0 (wc.heap[gb174]? = some (.cells #[.int .i64 a0_0, .int .i64 a0_1] 23 (0, 0))) ∧ Aside0 (wc.heap[gb175]? = some (.cells #[.int .i64 a0_2, .int .i64 a0_3] 23 (0, 0))) ∧ Aside0 (wc.heap[gb176]? = some (.cells #[.int .i64 a0_4, .int .i64 a0_5] 23 (0, 0))) ∧ Aside0 (wc.heap[gb181]? = some (.cells #[.int .i64 t178, .int .i64 t179] 23 (0, 0))) ∧ Aside0 (wc.heap[gb189]? = some (.cells #[.int .i64 t186, .int .i64 t187] 23 (0, 0))) ∧ Aside0 (Below w.heap.size w wc))
    case first =>
     have H := HC61.out
     clear HC61
     replace H := Option.bind_eq_some_iff.mp H
     obtain ⟨t190, A790, H⟩ := H
     replace H : (if t190 = true then (if t180 = 0 then ((span_Valid.f a0_2 a0_3).bind fun t191 => (if ((t188 == 0) != t191) = true then (spillwaylaw03_SpanTight.j2 kj4 a0_6 true a0_0 a0_1) else (if t188 = 0 then ((span_Holds.f a0_0 a0_1 a0_4 a0_5).bind fun t192 => ((span_Holds.f t178 t179 t186 t187).bind fun t193 => (spillwaylaw03_SpanTight.j2 kj4 a0_6 (t192 != t193) a0_0 a0_1))) else (spillwaylaw03_SpanTight.j2 kj4 a0_6 false a0_0 a0_1)))) else (spillwaylaw03_SpanTight.j2 kj4 a0_6 false a0_0 a0_1)) else (if t180 = 0 then (if t188 = 0 then ((span_Holds.f a0_0 a0_1 a0_4 a0_5).bind fun t194 => ((span_Holds.f t178 t179 t186 t187).bind fun t195 => (spillwaylaw03_SpanTight.j2 kj4 a0_6 (t194 != t195) a0_0 a0_1))) else (spillwaylaw03_SpanTight.j2 kj4 a0_6 false a0_0 a0_1)) else (spillwaylaw03_SpanTight.j2 kj4 a0_6 false a0_0 a0_1))) = some r := H
     have A79 := Aside0.mk A790
     clear A790
     by_cases c80 : t190 = true
     ·subst c80
      have H1 : (if t180 = 0 then ((span_Valid.f a0_2 a0_3).bind fun t191 => (if ((t188 == 0) != t191) = true then (spillwaylaw03_SpanTight.j2 kj4 a0_6 true a0_0 a0_1) else (if t188 = 0 then ((span_Holds.f a0_0 a0_1 a0_4 a0_5).bind fun t192 => ((span_Holds.f t178 t179 t186 t187).bind fun t193 => (spillwaylaw03_SpanTight.j2 kj4 a0_6 (t192 != t193) a0_0 a0_1))) else (spillwaylaw03_SpanTight.j2 kj4 a0_6 false a0_0 a0_1)))) else (spillwaylaw03_SpanTight.j2 kj4 a0_6 false a0_0 a0_1)) = some r := by rw [if_pos rfl] at H; exact H
      clear H
      have H := H1
      clear H1
      by_cases c81 : t180 = 0
      ·rw [if_pos c81] at H
       have c81b0 : (t180 == 0) = true := beq_iff_eq.mpr c81
       have c81b1 : (t180 != 0) = false := bne_eq_false_iff_eq.mpr c81
       clear c81
       (first | rw [c81b0] | (simp only [i64_w, i32_w]; rw [c81b0]) | skip)
       replace H := Option.bind_eq_some_iff.mp H
       obtain ⟨t191, A820, H⟩ := H
       replace H : (if ((t188 == 0) != t191) = true then (spillwaylaw03_SpanTight.j2 kj4 a0_6 true a0_0 a0_1) else (if t188 = 0 then ((span_Holds.f a0_0 a0_1 a0_4 a0_5).bind fun t192 => ((span_Holds.f t178 t179 t186 t187).bind fun t193 => (spillwaylaw03_SpanTight.j2 kj4 a0_6 (t192 != t193) a0_0 a0_1))) else (spillwaylaw03_SpanTight.j2 kj4 a0_6 false a0_0 a0_1))) = some r := H
       have A82 := Aside0.mk A820
       clear A820
       by_cases c83 : ((t188 == 0) != t191) = true
       ·rw [if_pos c83] at H
        have c83b0 : ((t188 == 0) != t191) = true := c83
        (try (have c83b1 : decide ((t188 == 0) = t191) = false := by simpa using c83))
        (try (have c83b2 : ((t188 == 0) == t191) = false := by simpa using c83))
        (try (have c83b3 : ¬ ((t188 == 0) = t191) := by simpa using c83))
        clear c83
        have H' := Aside0.mk H
        clear H
        try go_wp2
        have n0_ : Aside0 (((w72.setCell ⟨gb189, 0, none⟩ (.int .i64 t186)).setCell ⟨gb189, 1, none⟩ (.int .i64 t187)).heap[gb173]? = some (.cells #[.int .i64 a0_0, .int .i64 a0_1, .int .i64 a0_2, .int .i64 a0_3, .int .i64 a0_4, .int .i64 a0_5, .int .i64 a0_6] 40 (0, 0))) := ⟨(sp (blk_far (sp (blk_far (sp BK173.out) NB173_189.out _)) NB173_189.out _))⟩
        have n1_ : Aside0 (((w72.setCell ⟨gb189, 0, none⟩ (.int .i64 t186)).setCell ⟨gb189, 1, none⟩ (.int .i64 t187)).heap[gb174]? = some (.cells #[.int .i64 a0_0, .int .i64 a0_1] 23 (0, 0))) := ⟨(sp (blk_far (sp (blk_far (sp BK174.out) NB174_189.out _)) NB174_189.out _))⟩
        have n2_ : Aside0 (((w72.setCell ⟨gb189, 0, none⟩ (.int .i64 t186)).setCell ⟨gb189, 1, none⟩ (.int .i64 t187)).heap[gb175]? = some (.cells #[.int .i64 a0_2, .int .i64 a0_3] 23 (0, 0))) := ⟨(sp (blk_far (sp (blk_far (sp BK175.out) NB175_189.out _)) NB175_189.out _))⟩
        have n3_ : Aside0 (((w72.setCell ⟨gb189, 0, none⟩ (.int .i64 t186)).setCell ⟨gb189, 1, none⟩ (.int .i64 t187)).heap[gb176]? = some (.cells #[.int .i64 a0_4, .int .i64 a0_5] 23 (0, 0))) := ⟨(sp (blk_far (sp (blk_far (sp BK176.out) NB176_189.out _)) NB176_189.out _))⟩
        have n4_ : Aside0 (((w72.setCell ⟨gb189, 0, none⟩ (.int .i64 t186)).setCell ⟨gb189, 1, none⟩ (.int .i64 t187)).heap[gb181]? = some (.cells #[.int .i64 t178, .int .i64 t179] 23 (0, 0))) := ⟨(sp (blk_far (sp (blk_far (sp BK181.out) NB181_189.out _)) NB181_189.out _))⟩
        have n5_ : Aside0 (((w72.setCell ⟨gb189, 0, none⟩ (.int .i64 t186)).setCell ⟨gb189, 1, none⟩ (.int .i64 t187)).heap[gb189]? = some (.cells #[.int .i64 t186, .int .i64 t187] 23 (0, 0))) := ⟨by (with_reducible repeat first | apply dN | apply dW | apply dL); refine blk_put (cs := #[.int .i64 t186, .int .i64 0]) ?_ 1 _ rfl; (with_reducible repeat first | apply dN | apply dW | apply dL); refine blk_put (cs := #[.int .i64 0, .int .i64 0]) ?_ 0 _ rfl; exact sp BK189.out⟩
        have n6_ : Aside0 (Below w.heap.size w ((w72.setCell ⟨gb189, 0, none⟩ (.int .i64 t186)).setCell ⟨gb189, 1, none⟩ (.int .i64 t187))) := ⟨by repeat (first | (with_reducible first | exact HB.out | apply bA | apply bD | apply bW | refine bS ?_ GE173.out | refine bS ?_ GE174.out | refine bS ?_ GE175.out | refine bS ?_ GE176.out | refine bS ?_ GE181.out | refine bS ?_ GE189.out) | exact HB.out)⟩
        (try clear BK173)
        (try clear BK174)
        (try clear BK175)
        (try clear BK176)
        (try clear BK181)
        (try clear BK189)
        (try clear HB)
        generalize ((w72.setCell ⟨gb189, 0, none⟩ (.int .i64 t186)).setCell ⟨gb189, 1, none⟩ (.int .i64 t187)) = w84 at n0_ n1_ n2_ n3_ n4_ n5_ n6_ ⊢
        have BK173 := n0_
        have BK174 := n1_
        have BK175 := n2_
        have BK176 := n3_
        have BK181 := n4_
        have BK189 := n5_
        have HB := n6_
        clear n0_ n1_ n2_ n3_ n4_ n5_ n6_
        have n0_ := Aside0.mk (blk_drew BK173.out)
        have n1_ := Aside0.mk (blk_drew BK174.out)
        have n2_ := Aside0.mk (blk_drew BK175.out)
        have n3_ := Aside0.mk (blk_drew BK176.out)
        have n4_ := Aside0.mk (blk_drew BK181.out)
        have n5_ := Aside0.mk (blk_drew BK189.out)
        have n6_ := Aside0.mk (below_drew1 HB.out)
        clear BK173
        clear BK174
        clear BK175
        clear BK176
        clear BK181
        clear BK189
        clear HB
        have BK173 := n0_
        have BK174 := n1_
        have BK175 := n2_
        have BK176 := n3_
        have BK181 := n4_
        have BK189 := n5_
        have HB := n6_
        clear n0_ n1_ n2_ n3_ n4_ n5_ n6_
        refine start_ (n := 31) (S := fun w' => w'.cell? ⟨gb174, 0, none⟩ = some (.int .i64 a0_0) ∧ w'.cell? ⟨gb174, 1, none⟩ = some (.int .i64 a0_1) ∧ w'.cell? ⟨gb176, 0, none⟩ = some (.int .i64 a0_4) ∧ w'.cell? ⟨gb176, 1, none⟩ = some (.int .i64 a0_5) ∧ w'.cell? ⟨gb175, 0, none⟩ = some (.int .i64 a0_2) ∧ w'.cell? ⟨gb175, 1, none⟩ = some (.int .i64 a0_3)) (ds := []) tf31_0 (by kernel_rfl) rfl rfl ⟨(blk_cell BK174.out 0).trans rfl, (blk_cell BK174.out 1).trans rfl, (blk_cell BK176.out 0).trans rfl, (blk_cell BK176.out 1).trans rfl, (blk_cell BK175.out 0).trans rfl, (blk_cell BK175.out 1).trans rfl⟩ (fun hHeld => ?_); refine with_tabW spillwaylaw03_SpanTight.tab11 spillwaylaw03_SpanTight.bits11 (fun HT_ HW_ => ?_)
        generalize w84.drew = w85 at BK173 BK174 BK175 BK176 BK181 BK189 HB hHeld ⊢
        refine take_ (i := 0) (N := some 75) (v := ?_) (a' := ?_) tf31_40000000 rfl rfl (take_ofW HT_.out HW_.out (by kernel_rfl)) (fun _ _ _ h => h) (Or.inl ⟨by rfl, ?_⟩) hHeld ?_ ?_
        rotate_left
        ·rintro w' ⟨s0, s1, s2, s3, s4, s5⟩
         go_simp
         with_reducible rfl
        rotate_left
        ·simp only [Act.put, sA, sZ, sS, i64_w, i32_w]
         rfl
        refine take_ (i := 1) (N := some 76) (v := ?_) (a' := ?_) tf31_60000000 rfl rfl (take_ofW HT_.out HW_.out (by kernel_rfl)) (fun _ _ _ h => h) (Or.inl ⟨by rfl, ?_⟩) hHeld ?_ ?_
        rotate_left
        ·rintro w' ⟨s0, s1, s2, s3, s4, s5⟩
         go_simp
         with_reducible rfl
        rotate_left
        ·simp only [Act.put, sA, sZ, sS, i64_w, i32_w]
         rfl
        refine one_ (i := 2) (N := some 77) tf31_70000000 rfl rfl (one_of HT_.out (by kernel_rfl)) (by decide) (fun K hK => ?_)
        refine goes_ Try.func22 (by kernel_rfl) rfl #[.agg #[.int .i64 a0_0, .int .i64 a0_1], .agg #[.int .i64 a0_4, .int .i64 a0_5]] (by rfl) rfl rfl (by (try simp only [List.map_toArray, List.map_cons, List.map_nil]); first | done | rfl | (simp only [List.length_drop, List.length_take]; rfl)) ?_
        with_reducible refine (span_Holds.calls a0_0 a0_1 a0_4 a0_5 true _ A79.out).mono ?_
        rintro e w86 ⟨rfl, hb⟩
        refine ⟨_, rfl, ?_⟩
        have n0_ := Aside0.mk (blk_below (sp BK173.out) hb)
        have n1_ := Aside0.mk (blk_below (sp BK174.out) hb)
        have n2_ := Aside0.mk (blk_below (sp BK175.out) hb)
        have n3_ := Aside0.mk (blk_below (sp BK176.out) hb)
        have n4_ := Aside0.mk (blk_below (sp BK181.out) hb)
        have n5_ := Aside0.mk (blk_below (sp BK189.out) hb)
        have n6_ := Aside0.mk (below_step (by repeat (first | (with_reducible first | exact HB.out | apply bA | apply bD | apply bW | refine bS ?_ GE173.out | refine bS ?_ GE174.out | refine bS ?_ GE175.out | refine bS ?_ GE176.out | refine bS ?_ GE181.out | refine bS ?_ GE189.out) | exact HB.out)) hb)
        clear BK173
        clear BK174
        clear BK175
        clear BK176
        clear BK181
        clear BK189
        clear HB
        have BK173 := n0_
        have BK174 := n1_
        have BK175 := n2_
        have BK176 := n3_
        have BK181 := n4_
        have BK189 := n5_
        have HB := n6_
        clear n0_ n1_ n2_ n3_ n4_ n5_ n6_
        (try clear hb)
        (try clear hb2)
        (try clear hk)
        (try clear hi)
        refine hK.out _ _ ⟨(blk_cell BK174.out 0).trans rfl, (blk_cell BK174.out 1).trans rfl, (blk_cell BK176.out 0).trans rfl, (blk_cell BK176.out 1).trans rfl, (blk_cell BK175.out 0).trans rfl, (blk_cell BK175.out 1).trans rfl⟩ (fun hHeld => ?_)
        clear hK K
        refine norm_ (a' := ?_) ?_ ?_
        rotate_left
        ·show Act.put _ (some 77) _ = _
         simp only [Act.put, sA, sZ, sS, i64_w, i32_w]
         rfl
        refine pure_ (i := 3) (N := some 78) (v := ?_) (a' := ?_) tf31_78000000 rfl rfl (any_of HT_.out (by kernel_rfl)) (fun _ _ _ h => h) (Or.inl ⟨by rfl, ?_⟩) ?_ ?_
        rotate_left
        ·intro w'
         go_simp
         with_reducible rfl
        rotate_left
        ·simp only [Act.put, sA, sZ, sS, i64_w, i32_w]
         rfl
        refine pure_ (i := 4) (N := some 79) (v := ?_) (a' := ?_) tf31_7c000000 rfl rfl (any_of HT_.out (by kernel_rfl)) (fun _ _ _ h => h) (Or.inl ⟨by rfl, ?_⟩) ?_ ?_
        rotate_left
        ·intro w'
         go_simp
         with_reducible rfl
        rotate_left
        ·simp only [Act.put, sA, sZ, sS, i64_w, i32_w]
         rfl
        refine pure_ (i := 5) (N := some 80) (v := ?_) (a' := ?_) tf31_7e000000 rfl rfl (any_of HT_.out (by kernel_rfl)) (fun _ _ _ h => h) (Or.inl ⟨by rfl, ?_⟩) ?_ ?_
        rotate_left
        ·intro w'
         go_simp
         with_reducible rfl
        rotate_left
        ·simp only [Act.put, sA, sZ, sS, i64_w, i32_w]
         rfl
        refine pure_ (i := 6) (N := some 81) (v := ?_) (a' := ?_) tf31_7f000000 rfl rfl (any_of HT_.out (by kernel_rfl)) (fun _ _ _ h => h) (Or.inl ⟨by rfl, ?_⟩) ?_ ?_
        rotate_left
        ·intro w'
         go_simp
         with_reducible rfl
        rotate_left
        ·simp only [Act.put, sA, sZ, sS, i64_w, i32_w]
         rfl
        refine pure_ (i := 7) (N := some 82) (v := ?_) (a' := ?_) tf31_7f800000 rfl rfl (any_of HT_.out (by kernel_rfl)) (fun _ _ _ h => h) (Or.inl ⟨by rfl, ?_⟩) ?_ ?_
        rotate_left
        ·intro w'
         go_simp
         with_reducible rfl
        rotate_left
        ·simp only [Act.put, sA, sZ, sS, i64_w, i32_w]
         rfl
        refine pure_ (i := 8) (N := some 83) (v := ?_) (a' := ?_) tf31_7fc00000 rfl rfl (any_of HT_.out (by kernel_rfl)) (fun _ _ _ h => h) (Or.inl ⟨by rfl, ?_⟩) ?_ ?_
        rotate_left
        ·intro w'
         go_simp
         with_reducible rfl
        rotate_left
        ·simp only [Act.put, sA, sZ, sS, i64_w, i32_w]
         rfl
        refine pure_ (i := 9) (N := some 84) (v := ?_) (a' := ?_) tf31_7fe00000 rfl rfl (any_of HT_.out (by kernel_rfl)) (fun _ _ _ h => h) (Or.inl ⟨by rfl, ?_⟩) ?_ ?_
        rotate_left
        ·intro w'
         go_simp
         with_reducible rfl
        rotate_left
        ·simp only [Act.put, sA, sZ, sS, i64_w, i32_w]
         rfl
        refine take_ (i := 10) (N := some 85) (v := ?_) (a' := ?_) tf31_7ff00000 rfl rfl (take_ofW HT_.out HW_.out (by kernel_rfl)) (fun _ _ _ h => h) (Or.inl ⟨by rfl, ?_⟩) hHeld ?_ ?_
        rotate_left
        ·rintro w' ⟨s0, s1, s2, s3, s4, s5⟩
         go_simp
         with_reducible rfl
        rotate_left
        ·simp only [Act.put, sA, sZ, sS, i64_w, i32_w]
         rfl
        refine one_ (i := 11) (N := some 86) tf31_7ff80000 rfl rfl (one_of HT_.out (by kernel_rfl)) (by decide) (fun K hK => ?_)
        refine goes_ Try.func19 (by kernel_rfl) rfl #[.agg #[.int .i64 a0_2, .int .i64 a0_3]] (by rfl) rfl rfl (by (try simp only [List.map_toArray, List.map_cons, List.map_nil]); first | done | rfl | (simp only [List.length_drop, List.length_take]; rfl)) ?_
        with_reducible refine (span_Valid.calls a0_2 a0_3 t191 _ A82.out).mono ?_
        rintro e w87 ⟨rfl, hb⟩
        refine ⟨_, rfl, ?_⟩
        have n0_ := Aside0.mk (blk_below (sp BK173.out) hb)
        have n1_ := Aside0.mk (blk_below (sp BK174.out) hb)
        have n2_ := Aside0.mk (blk_below (sp BK175.out) hb)
        have n3_ := Aside0.mk (blk_below (sp BK176.out) hb)
        have n4_ := Aside0.mk (blk_below (sp BK181.out) hb)
        have n5_ := Aside0.mk (blk_below (sp BK189.out) hb)
        have n6_ := Aside0.mk (below_step (by repeat (first | (with_reducible first | exact HB.out | apply bA | apply bD | apply bW | refine bS ?_ GE173.out | refine bS ?_ GE174.out | refine bS ?_ GE175.out | refine bS ?_ GE176.out | refine bS ?_ GE181.out | refine bS ?_ GE189.out) | exact HB.out)) hb)
        clear BK173
        clear BK174
        clear BK175
        clear BK176
        clear BK181
        clear BK189
        clear HB
        have BK173 := n0_
        have BK174 := n1_
        have BK175 := n2_
        have BK176 := n3_
        have BK181 := n4_
        have BK189 := n5_
        have HB := n6_
        clear n0_ n1_ n2_ n3_ n4_ n5_ n6_
        (try clear hb)
        (try clear hb2)
        (try clear hk)
        (try clear hi)
        refine hK.out _ _ ⟨(blk_cell BK174.out 0).trans rfl, (blk_cell BK174.out 1).trans rfl, (blk_cell BK176.out 0).trans rfl, (blk_cell BK176.out 1).trans rfl, (blk_cell BK175.out 0).trans rfl, (blk_cell BK175.out 1).trans rfl⟩ (fun hHeld => ?_)
        clear hK K
        refine norm_ (a' := ?_) ?_ ?_
        rotate_left
        ·show Act.put _ (some 86) _ = _
         simp only [Act.put, sA, sZ, sS, i64_w, i32_w]
         rfl
        refine pure_ (i := 12) (N := some 87) (v := ?_) (a' := ?_) tf31_7ffc0000 rfl rfl (any_of HT_.out (by kernel_rfl)) (fun _ _ _ h => h) (Or.inl ⟨by rfl, ?_⟩) ?_ ?_
        rotate_left
        ·intro w'
         go_simp
         with_reducible rfl
        rotate_left
        ·simp only [Act.put, sA, sZ, sS, i64_w, i32_w]
         rfl
        refine pure_ (i := 13) (N := some 88) (v := ?_) (a' := ?_) tf31_7ffe0000 rfl rfl (any_of HT_.out (by kernel_rfl)) (fun _ _ _ h => h) (Or.inl ⟨by rfl, ?_⟩) ?_ ?_
        rotate_left
        ·intro w'
         go_simp
         with_reducible rfl
        rotate_left
        ·simp only [Act.put, sA, sZ, sS, i64_w, i32_w]
         rfl
        refine pure_ (i := 14) (N := some 89) (v := ?_) (a' := ?_) tf31_7fff0000 rfl rfl (any_of HT_.out (by kernel_rfl)) (fun _ _ _ h => h) (Or.inl ⟨by rfl, ?_⟩) ?_ ?_
        rotate_left
        ·intro w'
         go_simp
         with_reducible rfl
        rotate_left
        ·simp only [Act.put, sA, sZ, sS, i64_w, i32_w]
         rfl
        refine pure_ (i := 15) (N := some 90) (v := undef) (a' := ?_) tf31_7fff8000 rfl rfl (any_of HT_.out (by kernel_rfl)) (fun _ _ _ h => h) (Or.inr ⟨by rfl, rfl⟩) ?_ ?_
        rotate_left
        ·simp only [Act.put, sA, sZ, sS, i64_w, i32_w]
         rfl
        refine pure_ (i := 16) (N := some 91) (v := undef) (a' := ?_) tf31_7fffc000 rfl rfl (any_of HT_.out (by kernel_rfl)) (fun _ _ _ h => h) (Or.inr ⟨by rfl, rfl⟩) ?_ ?_
        rotate_left
        ·simp only [Act.put, sA, sZ, sS, i64_w, i32_w]
         rfl
        refine pure_ (i := 17) (N := some 92) (v := undef) (a' := ?_) tf31_7fffe000 rfl rfl (any_of HT_.out (by kernel_rfl)) (fun _ _ _ h => h) (Or.inr ⟨by rfl, rfl⟩) ?_ ?_
        rotate_left
        ·simp only [Act.put, sA, sZ, sS, i64_w, i32_w]
         rfl
        refine pure_ (i := 18) (N := some 93) (v := undef) (a' := ?_) tf31_7ffff000 rfl rfl (any_of HT_.out (by kernel_rfl)) (fun _ _ _ h => h) (Or.inr ⟨by rfl, rfl⟩) ?_ ?_
        rotate_left
        ·simp only [Act.put, sA, sZ, sS, i64_w, i32_w]
         rfl
        refine pure_ (i := 19) (N := some 94) (v := undef) (a' := ?_) tf31_7ffff800 rfl rfl (any_of HT_.out (by kernel_rfl)) (fun _ _ _ h => h) (Or.inr ⟨by rfl, rfl⟩) ?_ ?_
        rotate_left
        ·simp only [Act.put, sA, sZ, sS, i64_w, i32_w]
         rfl
        refine pure_ (i := 20) (N := some 95) (v := undef) (a' := ?_) tf31_7ffffc00 rfl rfl (any_of HT_.out (by kernel_rfl)) (fun _ _ _ h => h) (Or.inr ⟨by rfl, rfl⟩) ?_ ?_
        rotate_left
        ·simp only [Act.put, sA, sZ, sS, i64_w, i32_w]
         rfl
        refine pure_ (i := 21) (N := some 96) (v := undef) (a' := ?_) tf31_7ffffe00 rfl rfl (any_of HT_.out (by kernel_rfl)) (fun _ _ _ h => h) (Or.inr ⟨by rfl, rfl⟩) ?_ ?_
        rotate_left
        ·simp only [Act.put, sA, sZ, sS, i64_w, i32_w]
         rfl
        refine pure_ (i := 22) (N := some 97) (v := undef) (a' := ?_) tf31_7fffff00 rfl rfl (any_of HT_.out (by kernel_rfl)) (fun _ _ _ h => h) (Or.inr ⟨by rfl, rfl⟩) ?_ ?_
        rotate_left
        ·simp only [Act.put, sA, sZ, sS, i64_w, i32_w]
         rfl
        refine pure_ (i := 23) (N := some 98) (v := undef) (a' := ?_) tf31_7fffff80 rfl rfl (any_of HT_.out (by kernel_rfl)) (fun _ _ _ h => h) (Or.inr ⟨by rfl, rfl⟩) ?_ ?_
        rotate_left
        ·simp only [Act.put, sA, sZ, sS, i64_w, i32_w]
         rfl
        refine pure_ (i := 24) (N := some 99) (v := undef) (a' := ?_) tf31_7fffffc0 rfl rfl (any_of HT_.out (by kernel_rfl)) (fun _ _ _ h => h) (Or.inr ⟨by rfl, rfl⟩) ?_ ?_
        rotate_left
        ·simp only [Act.put, sA, sZ, sS, i64_w, i32_w]
         rfl
        refine pure_ (i := 25) (N := some 100) (v := undef) (a' := ?_) tf31_7fffffe0 rfl rfl (any_of HT_.out (by kernel_rfl)) (fun _ _ _ h => h) (Or.inr ⟨by rfl, rfl⟩) ?_ ?_
        rotate_left
        ·simp only [Act.put, sA, sZ, sS, i64_w, i32_w]
         rfl
        refine pure_ (i := 26) (N := some 101) (v := undef) (a' := ?_) tf31_7ffffff0 rfl rfl (any_of HT_.out (by kernel_rfl)) (fun _ _ _ h => h) (Or.inr ⟨by rfl, rfl⟩) ?_ ?_
        rotate_left
        ·simp only [Act.put, sA, sZ, sS, i64_w, i32_w]
         rfl
        refine pure_ (i := 27) (N := some 102) (v := undef) (a' := ?_) tf31_7ffffff8 rfl rfl (any_of HT_.out (by kernel_rfl)) (fun _ _ _ h => h) (Or.inr ⟨by rfl, rfl⟩) ?_ ?_
        rotate_left
        ·simp only [Act.put, sA, sZ, sS, i64_w, i32_w]
         rfl
        refine pure_ (i := 28) (N := some 103) (v := undef) (a' := ?_) tf31_7ffffffc rfl rfl (any_of HT_.out (by kernel_rfl)) (fun _ _ _ h => h) (Or.inr ⟨by rfl, rfl⟩) ?_ ?_
        rotate_left
        ·simp only [Act.put, sA, sZ, sS, i64_w, i32_w]
         rfl
        refine pure_ (i := 29) (N := some 104) (v := undef) (a' := ?_) tf31_7ffffffe rfl rfl (any_of HT_.out (by kernel_rfl)) (fun _ _ _ h => h) (Or.inr ⟨by rfl, rfl⟩) ?_ ?_
        rotate_left
        ·simp only [Act.put, sA, sZ, sS, i64_w, i32_w]
         rfl
        refine pure_ (i := 30) (N := some 105) (v := ?_) (a' := ?_) tf31_7fffffff rfl rfl (any_of HT_.out (by kernel_rfl)) (fun _ _ _ h => h) (Or.inl ⟨by rfl, ?_⟩) ?_ ?_
        rotate_left
        ·intro w'
         go_simp
         with_reducible rfl
        rotate_left
        ·simp only [Act.put, sA, sZ, sS, i64_w, i32_w]
         rfl
        refine done_ (done_of HT_.out (by kernel_rfl)) ?_
        try go_wp2
        go_meet
        case rel => exact ⟨_, (true), (by first | rfl | (simp; done) | (simp [*]; done)), H', ⟨by have := HJ4.out; first | omega | exact Nat.le_refl _⟩, ⟨(sp BK173.out)⟩, ⟨(sp BK174.out)⟩, ⟨(sp BK175.out)⟩, ⟨(sp BK176.out)⟩, ⟨(sp BK181.out)⟩, ⟨(sp BK189.out)⟩, ⟨by repeat (first | (with_reducible first | exact HB.out | apply bA | apply bD | apply bW | refine bS ?_ GE173.out | refine bS ?_ GE174.out | refine bS ?_ GE175.out | refine bS ?_ GE176.out | refine bS ?_ GE181.out | refine bS ?_ GE189.out) | exact HB.out)⟩⟩
       ·rw [if_neg c83] at H
        have c83b0 : ((t188 == 0) != t191) = false := by simpa using c83
        (try (have c83b1 : decide ((t188 == 0) = t191) = true := by simpa using c83))
        (try (have c83b2 : ((t188 == 0) == t191) = true := by simpa using c83))
        clear c83
        by_cases c88 : t188 = 0
        ·rw [if_pos c88] at H
         have c88b0 : (t188 == 0) = true := beq_iff_eq.mpr c88
         have c83x1 : (t191) = true := by have h_ := c83b0; rw [c88b0] at h_; simpa using h_
         have c88b1 : (t188 != 0) = false := bne_eq_false_iff_eq.mpr c88
         clear c88
         replace H := Option.bind_eq_some_iff.mp H
         obtain ⟨t192, A890, H⟩ := H
         replace H : ((span_Holds.f t178 t179 t186 t187).bind fun t193 => (spillwaylaw03_SpanTight.j2 kj4 a0_6 (t192 != t193) a0_0 a0_1)) = some r := H
         have A89 := Aside0.mk A890
         clear A890
         replace H := Option.bind_eq_some_iff.mp H
         obtain ⟨t193, A900, H⟩ := H
         replace H : (spillwaylaw03_SpanTight.j2 kj4 a0_6 (t192 != t193) a0_0 a0_1) = some r := H
         have A90 := Aside0.mk A900
         clear A900
         have H' := Aside0.mk H
         clear H
         try go_wp2
         have n0_ : Aside0 (((w72.setCell ⟨gb189, 0, none⟩ (.int .i64 t186)).setCell ⟨gb189, 1, none⟩ (.int .i64 t187)).heap[gb173]? = some (.cells #[.int .i64 a0_0, .int .i64 a0_1, .int .i64 a0_2, .int .i64 a0_3, .int .i64 a0_4, .int .i64 a0_5, .int .i64 a0_6] 40 (0, 0))) := ⟨(sp (blk_far (sp (blk_far (sp BK173.out) NB173_189.out _)) NB173_189.out _))⟩
         have n1_ : Aside0 (((w72.setCell ⟨gb189, 0, none⟩ (.int .i64 t186)).setCell ⟨gb189, 1, none⟩ (.int .i64 t187)).heap[gb174]? = some (.cells #[.int .i64 a0_0, .int .i64 a0_1] 23 (0, 0))) := ⟨(sp (blk_far (sp (blk_far (sp BK174.out) NB174_189.out _)) NB174_189.out _))⟩
         have n2_ : Aside0 (((w72.setCell ⟨gb189, 0, none⟩ (.int .i64 t186)).setCell ⟨gb189, 1, none⟩ (.int .i64 t187)).heap[gb175]? = some (.cells #[.int .i64 a0_2, .int .i64 a0_3] 23 (0, 0))) := ⟨(sp (blk_far (sp (blk_far (sp BK175.out) NB175_189.out _)) NB175_189.out _))⟩
         have n3_ : Aside0 (((w72.setCell ⟨gb189, 0, none⟩ (.int .i64 t186)).setCell ⟨gb189, 1, none⟩ (.int .i64 t187)).heap[gb176]? = some (.cells #[.int .i64 a0_4, .int .i64 a0_5] 23 (0, 0))) := ⟨(sp (blk_far (sp (blk_far (sp BK176.out) NB176_189.out _)) NB176_189.out _))⟩
         have n4_ : Aside0 (((w72.setCell ⟨gb189, 0, none⟩ (.int .i64 t186)).setCell ⟨gb189, 1, none⟩ (.int .i64 t187)).heap[gb181]? = some (.cells #[.int .i64 t178, .int .i64 t179] 23 (0, 0))) := ⟨(sp (blk_far (sp (blk_far (sp BK181.out) NB181_189.out _)) NB181_189.out _))⟩
         have n5_ : Aside0 (((w72.setCell ⟨gb189, 0, none⟩ (.int .i64 t186)).setCell ⟨gb189, 1, none⟩ (.int .i64 t187)).heap[gb189]? = some (.cells #[.int .i64 t186, .int .i64 t187] 23 (0, 0))) := ⟨by (with_reducible repeat first | apply dN | apply dW | apply dL); refine blk_put (cs := #[.int .i64 t186, .int .i64 0]) ?_ 1 _ rfl; (with_reducible repeat first | apply dN | apply dW | apply dL); refine blk_put (cs := #[.int .i64 0, .int .i64 0]) ?_ 0 _ rfl; exact sp BK189.out⟩
         have n6_ : Aside0 (Below w.heap.size w ((w72.setCell ⟨gb189, 0, none⟩ (.int .i64 t186)).setCell ⟨gb189, 1, none⟩ (.int .i64 t187))) := ⟨by repeat (first | (with_reducible first | exact HB.out | apply bA | apply bD | apply bW | refine bS ?_ GE173.out | refine bS ?_ GE174.out | refine bS ?_ GE175.out | refine bS ?_ GE176.out | refine bS ?_ GE181.out | refine bS ?_ GE189.out) | exact HB.out)⟩
         (try clear BK173)
         (try clear BK174)
         (try clear BK175)
         (try clear BK176)
         (try clear BK181)
         (try clear BK189)
         (try clear HB)
         generalize ((w72.setCell ⟨gb189, 0, none⟩ (.int .i64 t186)).setCell ⟨gb189, 1, none⟩ (.int .i64 t187)) = w91 at n0_ n1_ n2_ n3_ n4_ n5_ n6_ ⊢
         have BK173 := n0_
         have BK174 := n1_
         have BK175 := n2_
         have BK176 := n3_
         have BK181 := n4_
         have BK189 := n5_
         have HB := n6_
         clear n0_ n1_ n2_ n3_ n4_ n5_ n6_
         have n0_ := Aside0.mk (blk_drew BK173.out)
         have n1_ := Aside0.mk (blk_drew BK174.out)
         have n2_ := Aside0.mk (blk_drew BK175.out)
         have n3_ := Aside0.mk (blk_drew BK176.out)
         have n4_ := Aside0.mk (blk_drew BK181.out)
         have n5_ := Aside0.mk (blk_drew BK189.out)
         have n6_ := Aside0.mk (below_drew1 HB.out)
         clear BK173
         clear BK174
         clear BK175
         clear BK176
         clear BK181
         clear BK189
         clear HB
         have BK173 := n0_
         have BK174 := n1_
         have BK175 := n2_
         have BK176 := n3_
         have BK181 := n4_
         have BK189 := n5_
         have HB := n6_
         clear n0_ n1_ n2_ n3_ n4_ n5_ n6_
         refine start_ (n := 31) (S := fun w' => w'.cell? ⟨gb174, 0, none⟩ = some (.int .i64 a0_0) ∧ w'.cell? ⟨gb174, 1, none⟩ = some (.int .i64 a0_1) ∧ w'.cell? ⟨gb176, 0, none⟩ = some (.int .i64 a0_4) ∧ w'.cell? ⟨gb176, 1, none⟩ = some (.int .i64 a0_5) ∧ w'.cell? ⟨gb175, 0, none⟩ = some (.int .i64 a0_2) ∧ w'.cell? ⟨gb175, 1, none⟩ = some (.int .i64 a0_3) ∧ w'.cell? ⟨gb181, 0, none⟩ = some (.int .i64 t178) ∧ w'.cell? ⟨gb181, 1, none⟩ = some (.int .i64 t179) ∧ w'.cell? ⟨gb189, 0, none⟩ = some (.int .i64 t186) ∧ w'.cell? ⟨gb189, 1, none⟩ = some (.int .i64 t187)) (ds := []) tf31_0 (by kernel_rfl) rfl rfl ⟨(blk_cell BK174.out 0).trans rfl, (blk_cell BK174.out 1).trans rfl, (blk_cell BK176.out 0).trans rfl, (blk_cell BK176.out 1).trans rfl, (blk_cell BK175.out 0).trans rfl, (blk_cell BK175.out 1).trans rfl, (blk_cell BK181.out 0).trans rfl, (blk_cell BK181.out 1).trans rfl, (blk_cell BK189.out 0).trans rfl, (blk_cell BK189.out 1).trans rfl⟩ (fun hHeld => ?_); refine with_tabW spillwaylaw03_SpanTight.tab11 spillwaylaw03_SpanTight.bits11 (fun HT_ HW_ => ?_)
         generalize w91.drew = w92 at BK173 BK174 BK175 BK176 BK181 BK189 HB hHeld ⊢
         refine take_ (i := 0) (N := some 75) (v := ?_) (a' := ?_) tf31_40000000 rfl rfl (take_ofW HT_.out HW_.out (by kernel_rfl)) (fun _ _ _ h => h) (Or.inl ⟨by rfl, ?_⟩) hHeld ?_ ?_
         rotate_left
         ·rintro w' ⟨s0, s1, s2, s3, s4, s5, s6, s7, s8, s9⟩
          go_simp
          with_reducible rfl
         rotate_left
         ·simp only [Act.put, sA, sZ, sS, i64_w, i32_w]
          rfl
         refine take_ (i := 1) (N := some 76) (v := ?_) (a' := ?_) tf31_60000000 rfl rfl (take_ofW HT_.out HW_.out (by kernel_rfl)) (fun _ _ _ h => h) (Or.inl ⟨by rfl, ?_⟩) hHeld ?_ ?_
         rotate_left
         ·rintro w' ⟨s0, s1, s2, s3, s4, s5, s6, s7, s8, s9⟩
          go_simp
          with_reducible rfl
         rotate_left
         ·simp only [Act.put, sA, sZ, sS, i64_w, i32_w]
          rfl
         refine one_ (i := 2) (N := some 77) tf31_70000000 rfl rfl (one_of HT_.out (by kernel_rfl)) (by decide) (fun K hK => ?_)
         refine goes_ Try.func22 (by kernel_rfl) rfl #[.agg #[.int .i64 a0_0, .int .i64 a0_1], .agg #[.int .i64 a0_4, .int .i64 a0_5]] (by rfl) rfl rfl (by (try simp only [List.map_toArray, List.map_cons, List.map_nil]); first | done | rfl | (simp only [List.length_drop, List.length_take]; rfl)) ?_
         with_reducible refine (span_Holds.calls a0_0 a0_1 a0_4 a0_5 true _ A79.out).mono ?_
         rintro e w93 ⟨rfl, hb⟩
         refine ⟨_, rfl, ?_⟩
         have n0_ := Aside0.mk (blk_below (sp BK173.out) hb)
         have n1_ := Aside0.mk (blk_below (sp BK174.out) hb)
         have n2_ := Aside0.mk (blk_below (sp BK175.out) hb)
         have n3_ := Aside0.mk (blk_below (sp BK176.out) hb)
         have n4_ := Aside0.mk (blk_below (sp BK181.out) hb)
         have n5_ := Aside0.mk (blk_below (sp BK189.out) hb)
         have n6_ := Aside0.mk (below_step (by repeat (first | (with_reducible first | exact HB.out | apply bA | apply bD | apply bW | refine bS ?_ GE173.out | refine bS ?_ GE174.out | refine bS ?_ GE175.out | refine bS ?_ GE176.out | refine bS ?_ GE181.out | refine bS ?_ GE189.out) | exact HB.out)) hb)
         clear BK173
         clear BK174
         clear BK175
         clear BK176
         clear BK181
         clear BK189
         clear HB
         have BK173 := n0_
         have BK174 := n1_
         have BK175 := n2_
         have BK176 := n3_
         have BK181 := n4_
         have BK189 := n5_
         have HB := n6_
         clear n0_ n1_ n2_ n3_ n4_ n5_ n6_
         (try clear hb)
         (try clear hb2)
         (try clear hk)
         (try clear hi)
         refine hK.out _ _ ⟨(blk_cell BK174.out 0).trans rfl, (blk_cell BK174.out 1).trans rfl, (blk_cell BK176.out 0).trans rfl, (blk_cell BK176.out 1).trans rfl, (blk_cell BK175.out 0).trans rfl, (blk_cell BK175.out 1).trans rfl, (blk_cell BK181.out 0).trans rfl, (blk_cell BK181.out 1).trans rfl, (blk_cell BK189.out 0).trans rfl, (blk_cell BK189.out 1).trans rfl⟩ (fun hHeld => ?_)
         clear hK K
         refine norm_ (a' := ?_) ?_ ?_
         rotate_left
         ·show Act.put _ (some 77) _ = _
          simp only [Act.put, sA, sZ, sS, i64_w, i32_w]
          rfl
         refine pure_ (i := 3) (N := some 78) (v := ?_) (a' := ?_) tf31_78000000 rfl rfl (any_of HT_.out (by kernel_rfl)) (fun _ _ _ h => h) (Or.inl ⟨by rfl, ?_⟩) ?_ ?_
         rotate_left
         ·intro w'
          go_simp
          with_reducible rfl
         rotate_left
         ·simp only [Act.put, sA, sZ, sS, i64_w, i32_w]
          rfl
         refine pure_ (i := 4) (N := some 79) (v := ?_) (a' := ?_) tf31_7c000000 rfl rfl (any_of HT_.out (by kernel_rfl)) (fun _ _ _ h => h) (Or.inl ⟨by rfl, ?_⟩) ?_ ?_
         rotate_left
         ·intro w'
          go_simp
          with_reducible rfl
         rotate_left
         ·simp only [Act.put, sA, sZ, sS, i64_w, i32_w]
          rfl
         refine pure_ (i := 5) (N := some 80) (v := ?_) (a' := ?_) tf31_7e000000 rfl rfl (any_of HT_.out (by kernel_rfl)) (fun _ _ _ h => h) (Or.inl ⟨by rfl, ?_⟩) ?_ ?_
         rotate_left
         ·intro w'
          go_simp
          with_reducible rfl
         rotate_left
         ·simp only [Act.put, sA, sZ, sS, i64_w, i32_w]
          rfl
         refine pure_ (i := 6) (N := some 81) (v := ?_) (a' := ?_) tf31_7f000000 rfl rfl (any_of HT_.out (by kernel_rfl)) (fun _ _ _ h => h) (Or.inl ⟨by rfl, ?_⟩) ?_ ?_
         rotate_left
         ·intro w'
          go_simp
          with_reducible rfl
         rotate_left
         ·simp only [Act.put, sA, sZ, sS, i64_w, i32_w]
          rfl
         refine pure_ (i := 7) (N := some 82) (v := ?_) (a' := ?_) tf31_7f800000 rfl rfl (any_of HT_.out (by kernel_rfl)) (fun _ _ _ h => h) (Or.inl ⟨by rfl, ?_⟩) ?_ ?_
         rotate_left
         ·intro w'
          go_simp
          with_reducible rfl
         rotate_left
         ·simp only [Act.put, sA, sZ, sS, i64_w, i32_w]
          rfl
         refine pure_ (i := 8) (N := some 83) (v := ?_) (a' := ?_) tf31_7fc00000 rfl rfl (any_of HT_.out (by kernel_rfl)) (fun _ _ _ h => h) (Or.inl ⟨by rfl, ?_⟩) ?_ ?_
         rotate_left
         ·intro w'
          go_simp
          with_reducible rfl
         rotate_left
         ·simp only [Act.put, sA, sZ, sS, i64_w, i32_w]
          rfl
         refine pure_ (i := 9) (N := some 84) (v := ?_) (a' := ?_) tf31_7fe00000 rfl rfl (any_of HT_.out (by kernel_rfl)) (fun _ _ _ h => h) (Or.inl ⟨by rfl, ?_⟩) ?_ ?_
         rotate_left
         ·intro w'
          go_simp
          with_reducible rfl
         rotate_left
         ·simp only [Act.put, sA, sZ, sS, i64_w, i32_w]
          rfl
         refine take_ (i := 10) (N := some 85) (v := ?_) (a' := ?_) tf31_7ff00000 rfl rfl (take_ofW HT_.out HW_.out (by kernel_rfl)) (fun _ _ _ h => h) (Or.inl ⟨by rfl, ?_⟩) hHeld ?_ ?_
         rotate_left
         ·rintro w' ⟨s0, s1, s2, s3, s4, s5, s6, s7, s8, s9⟩
          go_simp
          with_reducible rfl
         rotate_left
         ·simp only [Act.put, sA, sZ, sS, i64_w, i32_w]
          rfl
         refine one_ (i := 11) (N := some 86) tf31_7ff80000 rfl rfl (one_of HT_.out (by kernel_rfl)) (by decide) (fun K hK => ?_)
         refine goes_ Try.func19 (by kernel_rfl) rfl #[.agg #[.int .i64 a0_2, .int .i64 a0_3]] (by rfl) rfl rfl (by (try simp only [List.map_toArray, List.map_cons, List.map_nil]); first | done | rfl | (simp only [List.length_drop, List.length_take]; rfl)) ?_
         with_reducible refine (span_Valid.calls a0_2 a0_3 t191 _ A82.out).mono ?_
         rintro e w94 ⟨rfl, hb⟩
         refine ⟨_, rfl, ?_⟩
         have n0_ := Aside0.mk (blk_below (sp BK173.out) hb)
         have n1_ := Aside0.mk (blk_below (sp BK174.out) hb)
         have n2_ := Aside0.mk (blk_below (sp BK175.out) hb)
         have n3_ := Aside0.mk (blk_below (sp BK176.out) hb)
         have n4_ := Aside0.mk (blk_below (sp BK181.out) hb)
         have n5_ := Aside0.mk (blk_below (sp BK189.out) hb)
         have n6_ := Aside0.mk (below_step (by repeat (first | (with_reducible first | exact HB.out | apply bA | apply bD | apply bW | refine bS ?_ GE173.out | refine bS ?_ GE174.out | refine bS ?_ GE175.out | refine bS ?_ GE176.out | refine bS ?_ GE181.out | refine bS ?_ GE189.out) | exact HB.out)) hb)
         clear BK173
         clear BK174
         clear BK175
         clear BK176
         clear BK181
         clear BK189
         clear HB
         have BK173 := n0_
         have BK174 := n1_
         have BK175 := n2_
         have BK176 := n3_
         have BK181 := n4_
         have BK189 := n5_
         have HB := n6_
         clear n0_ n1_ n2_ n3_ n4_ n5_ n6_
         (try clear hb)
         (try clear hb2)
         (try clear hk)
         (try clear hi)
         refine hK.out _ _ ⟨(blk_cell BK174.out 0).trans rfl, (blk_cell BK174.out 1).trans rfl, (blk_cell BK176.out 0).trans rfl, (blk_cell BK176.out 1).trans rfl, (blk_cell BK175.out 0).trans rfl, (blk_cell BK175.out 1).trans rfl, (blk_cell BK181.out 0).trans rfl, (blk_cell BK181.out 1).trans rfl, (blk_cell BK189.out 0).trans rfl, (blk_cell BK189.out 1).trans rfl⟩ (fun hHeld => ?_)
         clear hK K
         refine norm_ (a' := ?_) ?_ ?_
         rotate_left
         ·show Act.put _ (some 86) _ = _
          simp only [Act.put, sA, sZ, sS, i64_w, i32_w]
          rfl
         refine pure_ (i := 12) (N := some 87) (v := ?_) (a' := ?_) tf31_7ffc0000 rfl rfl (any_of HT_.out (by kernel_rfl)) (fun _ _ _ h => h) (Or.inl ⟨by rfl, ?_⟩) ?_ ?_
         rotate_left
         ·intro w'
          go_simp
          with_reducible rfl
         rotate_left
         ·simp only [Act.put, sA, sZ, sS, i64_w, i32_w]
          rfl
         refine pure_ (i := 13) (N := some 88) (v := ?_) (a' := ?_) tf31_7ffe0000 rfl rfl (any_of HT_.out (by kernel_rfl)) (fun _ _ _ h => h) (Or.inl ⟨by rfl, ?_⟩) ?_ ?_
         rotate_left
         ·intro w'
          go_simp
          with_reducible rfl
         rotate_left
         ·simp only [Act.put, sA, sZ, sS, i64_w, i32_w]
          rfl
         refine pure_ (i := 14) (N := some 89) (v := ?_) (a' := ?_) tf31_7fff0000 rfl rfl (any_of HT_.out (by kernel_rfl)) (fun _ _ _ h => h) (Or.inl ⟨by rfl, ?_⟩) ?_ ?_
         rotate_left
         ·intro w'
          go_simp
          with_reducible rfl
         rotate_left
         ·simp only [Act.put, sA, sZ, sS, i64_w, i32_w]
          rfl
         refine pure_ (i := 15) (N := some 90) (v := ?_) (a' := ?_) tf31_7fff8000 rfl rfl (any_of HT_.out (by kernel_rfl)) (fun _ _ _ h => h) (Or.inl ⟨by rfl, ?_⟩) ?_ ?_
         rotate_left
         ·intro w'
          go_simp
          with_reducible rfl
         rotate_left
         ·simp only [Act.put, sA, sZ, sS, i64_w, i32_w]
          rfl
         refine pure_ (i := 16) (N := some 91) (v := ?_) (a' := ?_) tf31_7fffc000 rfl rfl (any_of HT_.out (by kernel_rfl)) (fun _ _ _ h => h) (Or.inl ⟨by rfl, ?_⟩) ?_ ?_
         rotate_left
         ·intro w'
          go_simp
          with_reducible rfl
         rotate_left
         ·simp only [Act.put, sA, sZ, sS, i64_w, i32_w]
          rfl
         refine pure_ (i := 17) (N := some 92) (v := ?_) (a' := ?_) tf31_7fffe000 rfl rfl (any_of HT_.out (by kernel_rfl)) (fun _ _ _ h => h) (Or.inl ⟨by rfl, ?_⟩) ?_ ?_
         rotate_left
         ·intro w'
          go_simp
          with_reducible rfl
         rotate_left
         ·simp only [Act.put, sA, sZ, sS, i64_w, i32_w]
          rfl
         refine pure_ (i := 18) (N := some 93) (v := ?_) (a' := ?_) tf31_7ffff000 rfl rfl (any_of HT_.out (by kernel_rfl)) (fun _ _ _ h => h) (Or.inl ⟨by rfl, ?_⟩) ?_ ?_
         rotate_left
         ·intro w'
          go_simp
          with_reducible rfl
         rotate_left
         ·simp only [Act.put, sA, sZ, sS, i64_w, i32_w]
          rfl
         refine pure_ (i := 19) (N := some 94) (v := ?_) (a' := ?_) tf31_7ffff800 rfl rfl (any_of HT_.out (by kernel_rfl)) (fun _ _ _ h => h) (Or.inl ⟨by rfl, ?_⟩) ?_ ?_
         rotate_left
         ·intro w'
          go_simp
          with_reducible rfl
         rotate_left
         ·simp only [Act.put, sA, sZ, sS, i64_w, i32_w]
          rfl
         refine pure_ (i := 20) (N := some 95) (v := ?_) (a' := ?_) tf31_7ffffc00 rfl rfl (any_of HT_.out (by kernel_rfl)) (fun _ _ _ h => h) (Or.inl ⟨by rfl, ?_⟩) ?_ ?_
         rotate_left
         ·intro w'
          go_simp
          with_reducible rfl
         rotate_left
         ·simp only [Act.put, sA, sZ, sS, i64_w, i32_w]
          rfl
         refine pure_ (i := 21) (N := some 96) (v := ?_) (a' := ?_) tf31_7ffffe00 rfl rfl (any_of HT_.out (by kernel_rfl)) (fun _ _ _ h => h) (Or.inl ⟨by rfl, ?_⟩) ?_ ?_
         rotate_left
         ·intro w'
          go_simp
          with_reducible rfl
         rotate_left
         ·simp only [Act.put, sA, sZ, sS, i64_w, i32_w]
          rfl
         refine take_ (i := 22) (N := some 97) (v := ?_) (a' := ?_) tf31_7fffff00 rfl rfl (take_ofW HT_.out HW_.out (by kernel_rfl)) (fun _ _ _ h => h) (Or.inl ⟨by rfl, ?_⟩) hHeld ?_ ?_
         rotate_left
         ·rintro w' ⟨s0, s1, s2, s3, s4, s5, s6, s7, s8, s9⟩
          go_simp
          with_reducible rfl
         rotate_left
         ·simp only [Act.put, sA, sZ, sS, i64_w, i32_w]
          rfl
         refine take_ (i := 23) (N := some 98) (v := ?_) (a' := ?_) tf31_7fffff80 rfl rfl (take_ofW HT_.out HW_.out (by kernel_rfl)) (fun _ _ _ h => h) (Or.inl ⟨by rfl, ?_⟩) hHeld ?_ ?_
         rotate_left
         ·rintro w' ⟨s0, s1, s2, s3, s4, s5, s6, s7, s8, s9⟩
          go_simp
          with_reducible rfl
         rotate_left
         ·simp only [Act.put, sA, sZ, sS, i64_w, i32_w]
          rfl
         refine take_ (i := 25) (N := some 100) (v := ?_) (a' := ?_) tf31_7fffffa0 rfl rfl (take_ofW HT_.out HW_.out (by kernel_rfl)) (fun _ _ _ h => h) (Or.inl ⟨by rfl, ?_⟩) hHeld ?_ ?_
         rotate_left
         ·rintro w' ⟨s0, s1, s2, s3, s4, s5, s6, s7, s8, s9⟩
          go_simp
          with_reducible rfl
         rotate_left
         ·simp only [Act.put, sA, sZ, sS, i64_w, i32_w]
          rfl
         refine take_ (i := 26) (N := some 101) (v := ?_) (a' := ?_) tf31_7fffffb0 rfl rfl (take_ofW HT_.out HW_.out (by kernel_rfl)) (fun _ _ _ h => h) (Or.inl ⟨by rfl, ?_⟩) hHeld ?_ ?_
         rotate_left
         ·rintro w' ⟨s0, s1, s2, s3, s4, s5, s6, s7, s8, s9⟩
          go_simp
          with_reducible rfl
         rotate_left
         ·simp only [Act.put, sA, sZ, sS, i64_w, i32_w]
          rfl
         refine one_ (i := 24) (N := some 99) tf31_7ffffff0 rfl rfl (one_of HT_.out (by kernel_rfl)) (by decide) (fun K hK => ?_)
         refine goes_ Try.func22 (by kernel_rfl) rfl #[.agg #[.int .i64 a0_0, .int .i64 a0_1], .agg #[.int .i64 a0_4, .int .i64 a0_5]] (by rfl) rfl rfl (by (try simp only [List.map_toArray, List.map_cons, List.map_nil]); first | done | rfl | (simp only [List.length_drop, List.length_take]; rfl)) ?_
         with_reducible refine (span_Holds.calls a0_0 a0_1 a0_4 a0_5 t192 _ A89.out).mono ?_
         rintro e w95 ⟨rfl, hb⟩
         refine ⟨_, rfl, ?_⟩
         have n0_ := Aside0.mk (blk_below (sp BK173.out) hb)
         have n1_ := Aside0.mk (blk_below (sp BK174.out) hb)
         have n2_ := Aside0.mk (blk_below (sp BK175.out) hb)
         have n3_ := Aside0.mk (blk_below (sp BK176.out) hb)
         have n4_ := Aside0.mk (blk_below (sp BK181.out) hb)
         have n5_ := Aside0.mk (blk_below (sp BK189.out) hb)
         have n6_ := Aside0.mk (below_step (by repeat (first | (with_reducible first | exact HB.out | apply bA | apply bD | apply bW | refine bS ?_ GE173.out | refine bS ?_ GE174.out | refine bS ?_ GE175.out | refine bS ?_ GE176.out | refine bS ?_ GE181.out | refine bS ?_ GE189.out) | exact HB.out)) hb)
         clear BK173
         clear BK174
         clear BK175
         clear BK176
         clear BK181
         clear BK189
         clear HB
         have BK173 := n0_
         have BK174 := n1_
         have BK175 := n2_
         have BK176 := n3_
         have BK181 := n4_
         have BK189 := n5_
         have HB := n6_
         clear n0_ n1_ n2_ n3_ n4_ n5_ n6_
         (try clear hb)
         (try clear hb2)
         (try clear hk)
         (try clear hi)
         refine hK.out _ _ ⟨(blk_cell BK174.out 0).trans rfl, (blk_cell BK174.out 1).trans rfl, (blk_cell BK176.out 0).trans rfl, (blk_cell BK176.out 1).trans rfl, (blk_cell BK175.out 0).trans rfl, (blk_cell BK175.out 1).trans rfl, (blk_cell BK181.out 0).trans rfl, (blk_cell BK181.out 1).trans rfl, (blk_cell BK189.out 0).trans rfl, (blk_cell BK189.out 1).trans rfl⟩ (fun hHeld => ?_)
         clear hK K
         refine norm_ (a' := ?_) ?_ ?_
         rotate_left
         ·show Act.put _ (some 99) _ = _
          simp only [Act.put, sA, sZ, sS, i64_w, i32_w]
          rfl
         refine one_ (i := 27) (N := some 102) tf31_7ffffff8 rfl rfl (one_of HT_.out (by kernel_rfl)) (by decide) (fun K hK => ?_)
         refine goes_ Try.func22 (by kernel_rfl) rfl #[.agg #[.int .i64 t178, .int .i64 t179], .agg #[.int .i64 t186, .int .i64 t187]] (by rfl) rfl rfl (by (try simp only [List.map_toArray, List.map_cons, List.map_nil]); first | done | rfl | (simp only [List.length_drop, List.length_take]; rfl)) ?_
         with_reducible refine (span_Holds.calls t178 t179 t186 t187 t193 _ A90.out).mono ?_
         rintro e w96 ⟨rfl, hb⟩
         refine ⟨_, rfl, ?_⟩
         have n0_ := Aside0.mk (blk_below (sp BK173.out) hb)
         have n1_ := Aside0.mk (blk_below (sp BK174.out) hb)
         have n2_ := Aside0.mk (blk_below (sp BK175.out) hb)
         have n3_ := Aside0.mk (blk_below (sp BK176.out) hb)
         have n4_ := Aside0.mk (blk_below (sp BK181.out) hb)
         have n5_ := Aside0.mk (blk_below (sp BK189.out) hb)
         have n6_ := Aside0.mk (below_step (by repeat (first | (with_reducible first | exact HB.out | apply bA | apply bD | apply bW | refine bS ?_ GE173.out | refine bS ?_ GE174.out | refine bS ?_ GE175.out | refine bS ?_ GE176.out | refine bS ?_ GE181.out | refine bS ?_ GE189.out) | exact HB.out)) hb)
         clear BK173
         clear BK174
         clear BK175
         clear BK176
         clear BK181
         clear BK189
         clear HB
         have BK173 := n0_
         have BK174 := n1_
         have BK175 := n2_
         have BK176 := n3_
         have BK181 := n4_
         have BK189 := n5_
         have HB := n6_
         clear n0_ n1_ n2_ n3_ n4_ n5_ n6_
         (try clear hb)
         (try clear hb2)
         (try clear hk)
         (try clear hi)
         refine hK.out _ _ ⟨(blk_cell BK174.out 0).trans rfl, (blk_cell BK174.out 1).trans rfl, (blk_cell BK176.out 0).trans rfl, (blk_cell BK176.out 1).trans rfl, (blk_cell BK175.out 0).trans rfl, (blk_cell BK175.out 1).trans rfl, (blk_cell BK181.out 0).trans rfl, (blk_cell BK181.out 1).trans rfl, (blk_cell BK189.out 0).trans rfl, (blk_cell BK189.out 1).trans rfl⟩ (fun hHeld => ?_)
         clear hK K
         refine norm_ (a' := ?_) ?_ ?_
         rotate_left
         ·show Act.put _ (some 102) _ = _
          simp only [Act.put, sA, sZ, sS, i64_w, i32_w]
          rfl
         refine pure_ (i := 28) (N := some 103) (v := ?_) (a' := ?_) tf31_7ffffffc rfl rfl (any_of HT_.out (by kernel_rfl)) (fun _ _ _ h => h) (Or.inl ⟨by rfl, ?_⟩) ?_ ?_
         rotate_left
         ·intro w'
          go_simp
          with_reducible rfl
         rotate_left
         ·simp only [Act.put, sA, sZ, sS, i64_w, i32_w]
          rfl
         refine pure_ (i := 29) (N := some 104) (v := ?_) (a' := ?_) tf31_7ffffffe rfl rfl (any_of HT_.out (by kernel_rfl)) (fun _ _ _ h => h) (Or.inl ⟨by rfl, ?_⟩) ?_ ?_
         rotate_left
         ·intro w'
          go_simp
          with_reducible rfl
         rotate_left
         ·simp only [Act.put, sA, sZ, sS, i64_w, i32_w]
          rfl
         refine pure_ (i := 30) (N := some 105) (v := ?_) (a' := ?_) tf31_7fffffff rfl rfl (any_of HT_.out (by kernel_rfl)) (fun _ _ _ h => h) (Or.inl ⟨by rfl, ?_⟩) ?_ ?_
         rotate_left
         ·intro w'
          go_simp
          with_reducible rfl
         rotate_left
         ·simp only [Act.put, sA, sZ, sS, i64_w, i32_w]
          rfl
         refine done_ (done_of HT_.out (by kernel_rfl)) ?_
         try go_wp2
         go_meet
         case rel => exact ⟨_, ((t192 != t193)), (by first | rfl | (simp; done) | (simp [*]; done)), H', ⟨by have := HJ4.out; first | omega | exact Nat.le_refl _⟩, ⟨(sp BK173.out)⟩, ⟨(sp BK174.out)⟩, ⟨(sp BK175.out)⟩, ⟨(sp BK176.out)⟩, ⟨(sp BK181.out)⟩, ⟨(sp BK189.out)⟩, ⟨by repeat (first | (with_reducible first | exact HB.out | apply bA | apply bD | apply bW | refine bS ?_ GE173.out | refine bS ?_ GE174.out | refine bS ?_ GE175.out | refine bS ?_ GE176.out | refine bS ?_ GE181.out | refine bS ?_ GE189.out) | exact HB.out)⟩⟩
        ·rw [if_neg c88] at H
         have c88b0 : (t188 == 0) = false := beq_eq_false_iff_ne.mpr c88
         have c83x2 : (t191) = false := by have h_ := c83b0; rw [c88b0] at h_; simpa using h_
         have c88b1 : (t188 != 0) = true := bne_iff_ne.mpr c88
         have H' := Aside0.mk H
         clear H
         try go_wp2
         have n0_ : Aside0 (((w72.setCell ⟨gb189, 0, none⟩ (.int .i64 t186)).setCell ⟨gb189, 1, none⟩ (.int .i64 t187)).heap[gb173]? = some (.cells #[.int .i64 a0_0, .int .i64 a0_1, .int .i64 a0_2, .int .i64 a0_3, .int .i64 a0_4, .int .i64 a0_5, .int .i64 a0_6] 40 (0, 0))) := ⟨(sp (blk_far (sp (blk_far (sp BK173.out) NB173_189.out _)) NB173_189.out _))⟩
         have n1_ : Aside0 (((w72.setCell ⟨gb189, 0, none⟩ (.int .i64 t186)).setCell ⟨gb189, 1, none⟩ (.int .i64 t187)).heap[gb174]? = some (.cells #[.int .i64 a0_0, .int .i64 a0_1] 23 (0, 0))) := ⟨(sp (blk_far (sp (blk_far (sp BK174.out) NB174_189.out _)) NB174_189.out _))⟩
         have n2_ : Aside0 (((w72.setCell ⟨gb189, 0, none⟩ (.int .i64 t186)).setCell ⟨gb189, 1, none⟩ (.int .i64 t187)).heap[gb175]? = some (.cells #[.int .i64 a0_2, .int .i64 a0_3] 23 (0, 0))) := ⟨(sp (blk_far (sp (blk_far (sp BK175.out) NB175_189.out _)) NB175_189.out _))⟩
         have n3_ : Aside0 (((w72.setCell ⟨gb189, 0, none⟩ (.int .i64 t186)).setCell ⟨gb189, 1, none⟩ (.int .i64 t187)).heap[gb176]? = some (.cells #[.int .i64 a0_4, .int .i64 a0_5] 23 (0, 0))) := ⟨(sp (blk_far (sp (blk_far (sp BK176.out) NB176_189.out _)) NB176_189.out _))⟩
         have n4_ : Aside0 (((w72.setCell ⟨gb189, 0, none⟩ (.int .i64 t186)).setCell ⟨gb189, 1, none⟩ (.int .i64 t187)).heap[gb181]? = some (.cells #[.int .i64 t178, .int .i64 t179] 23 (0, 0))) := ⟨(sp (blk_far (sp (blk_far (sp BK181.out) NB181_189.out _)) NB181_189.out _))⟩
         have n5_ : Aside0 (((w72.setCell ⟨gb189, 0, none⟩ (.int .i64 t186)).setCell ⟨gb189, 1, none⟩ (.int .i64 t187)).heap[gb189]? = some (.cells #[.int .i64 t186, .int .i64 t187] 23 (0, 0))) := ⟨by (with_reducible repeat first | apply dN | apply dW | apply dL); refine blk_put (cs := #[.int .i64 t186, .int .i64 0]) ?_ 1 _ rfl; (with_reducible repeat first | apply dN | apply dW | apply dL); refine blk_put (cs := #[.int .i64 0, .int .i64 0]) ?_ 0 _ rfl; exact sp BK189.out⟩
         have n6_ : Aside0 (Below w.heap.size w ((w72.setCell ⟨gb189, 0, none⟩ (.int .i64 t186)).setCell ⟨gb189, 1, none⟩ (.int .i64 t187))) := ⟨by repeat (first | (with_reducible first | exact HB.out | apply bA | apply bD | apply bW | refine bS ?_ GE173.out | refine bS ?_ GE174.out | refine bS ?_ GE175.out | refine bS ?_ GE176.out | refine bS ?_ GE181.out | refine bS ?_ GE189.out) | exact HB.out)⟩
         (try clear BK173)
         (try clear BK174)
         (try clear BK175)
         (try clear BK176)
         (try clear BK181)
         (try clear BK189)
         (try clear HB)
         generalize ((w72.setCell ⟨gb189, 0, none⟩ (.int .i64 t186)).setCell ⟨gb189, 1, none⟩ (.int .i64 t187)) = w97 at n0_ n1_ n2_ n3_ n4_ n5_ n6_ ⊢
         have BK173 := n0_
         have BK174 := n1_
         have BK175 := n2_
         have BK176 := n3_
         have BK181 := n4_
         have BK189 := n5_
         have HB := n6_
         clear n0_ n1_ n2_ n3_ n4_ n5_ n6_
         have n0_ := Aside0.mk (blk_drew BK173.out)
         have n1_ := Aside0.mk (blk_drew BK174.out)
         have n2_ := Aside0.mk (blk_drew BK175.out)
         have n3_ := Aside0.mk (blk_drew BK176.out)
         have n4_ := Aside0.mk (blk_drew BK181.out)
         have n5_ := Aside0.mk (blk_drew BK189.out)
         have n6_ := Aside0.mk (below_drew1 HB.out)
         clear BK173
         clear BK174
         clear BK175
         clear BK176
         clear BK181
         clear BK189
         clear HB
         have BK173 := n0_
         have BK174 := n1_
         have BK175 := n2_
         have BK176 := n3_
         have BK181 := n4_
         have BK189 := n5_
         have HB := n6_
         clear n0_ n1_ n2_ n3_ n4_ n5_ n6_
         refine start_ (n := 31) (S := fun w' => w'.cell? ⟨gb174, 0, none⟩ = some (.int .i64 a0_0) ∧ w'.cell? ⟨gb174, 1, none⟩ = some (.int .i64 a0_1) ∧ w'.cell? ⟨gb176, 0, none⟩ = some (.int .i64 a0_4) ∧ w'.cell? ⟨gb176, 1, none⟩ = some (.int .i64 a0_5) ∧ w'.cell? ⟨gb175, 0, none⟩ = some (.int .i64 a0_2) ∧ w'.cell? ⟨gb175, 1, none⟩ = some (.int .i64 a0_3)) (ds := []) tf31_0 (by kernel_rfl) rfl rfl ⟨(blk_cell BK174.out 0).trans rfl, (blk_cell BK174.out 1).trans rfl, (blk_cell BK176.out 0).trans rfl, (blk_cell BK176.out 1).trans rfl, (blk_cell BK175.out 0).trans rfl, (blk_cell BK175.out 1).trans rfl⟩ (fun hHeld => ?_); refine with_tabW spillwaylaw03_SpanTight.tab11 spillwaylaw03_SpanTight.bits11 (fun HT_ HW_ => ?_)
         generalize w97.drew = w98 at BK173 BK174 BK175 BK176 BK181 BK189 HB hHeld ⊢
         refine take_ (i := 0) (N := some 75) (v := ?_) (a' := ?_) tf31_40000000 rfl rfl (take_ofW HT_.out HW_.out (by kernel_rfl)) (fun _ _ _ h => h) (Or.inl ⟨by rfl, ?_⟩) hHeld ?_ ?_
         rotate_left
         ·rintro w' ⟨s0, s1, s2, s3, s4, s5⟩
          go_simp
          with_reducible rfl
         rotate_left
         ·simp only [Act.put, sA, sZ, sS, i64_w, i32_w]
          rfl
         refine take_ (i := 1) (N := some 76) (v := ?_) (a' := ?_) tf31_60000000 rfl rfl (take_ofW HT_.out HW_.out (by kernel_rfl)) (fun _ _ _ h => h) (Or.inl ⟨by rfl, ?_⟩) hHeld ?_ ?_
         rotate_left
         ·rintro w' ⟨s0, s1, s2, s3, s4, s5⟩
          go_simp
          with_reducible rfl
         rotate_left
         ·simp only [Act.put, sA, sZ, sS, i64_w, i32_w]
          rfl
         refine one_ (i := 2) (N := some 77) tf31_70000000 rfl rfl (one_of HT_.out (by kernel_rfl)) (by decide) (fun K hK => ?_)
         refine goes_ Try.func22 (by kernel_rfl) rfl #[.agg #[.int .i64 a0_0, .int .i64 a0_1], .agg #[.int .i64 a0_4, .int .i64 a0_5]] (by rfl) rfl rfl (by (try simp only [List.map_toArray, List.map_cons, List.map_nil]); first | done | rfl | (simp only [List.length_drop, List.length_take]; rfl)) ?_
         with_reducible refine (span_Holds.calls a0_0 a0_1 a0_4 a0_5 true _ A79.out).mono ?_
         rintro e w99 ⟨rfl, hb⟩
         refine ⟨_, rfl, ?_⟩
         have n0_ := Aside0.mk (blk_below (sp BK173.out) hb)
         have n1_ := Aside0.mk (blk_below (sp BK174.out) hb)
         have n2_ := Aside0.mk (blk_below (sp BK175.out) hb)
         have n3_ := Aside0.mk (blk_below (sp BK176.out) hb)
         have n4_ := Aside0.mk (blk_below (sp BK181.out) hb)
         have n5_ := Aside0.mk (blk_below (sp BK189.out) hb)
         have n6_ := Aside0.mk (below_step (by repeat (first | (with_reducible first | exact HB.out | apply bA | apply bD | apply bW | refine bS ?_ GE173.out | refine bS ?_ GE174.out | refine bS ?_ GE175.out | refine bS ?_ GE176.out | refine bS ?_ GE181.out | refine bS ?_ GE189.out) | exact HB.out)) hb)
         clear BK173
         clear BK174
         clear BK175
         clear BK176
         clear BK181
         clear BK189
         clear HB
         have BK173 := n0_
         have BK174 := n1_
         have BK175 := n2_
         have BK176 := n3_
         have BK181 := n4_
         have BK189 := n5_
         have HB := n6_
         clear n0_ n1_ n2_ n3_ n4_ n5_ n6_
         (try clear hb)
         (try clear hb2)
         (try clear hk)
         (try clear hi)
         refine hK.out _ _ ⟨(blk_cell BK174.out 0).trans rfl, (blk_cell BK174.out 1).trans rfl, (blk_cell BK176.out 0).trans rfl, (blk_cell BK176.out 1).trans rfl, (blk_cell BK175.out 0).trans rfl, (blk_cell BK175.out 1).trans rfl⟩ (fun hHeld => ?_)
         clear hK K
         refine norm_ (a' := ?_) ?_ ?_
         rotate_left
         ·show Act.put _ (some 77) _ = _
          simp only [Act.put, sA, sZ, sS, i64_w, i32_w]
          rfl
         refine pure_ (i := 3) (N := some 78) (v := ?_) (a' := ?_) tf31_78000000 rfl rfl (any_of HT_.out (by kernel_rfl)) (fun _ _ _ h => h) (Or.inl ⟨by rfl, ?_⟩) ?_ ?_
         rotate_left
         ·intro w'
          go_simp
          with_reducible rfl
         rotate_left
         ·simp only [Act.put, sA, sZ, sS, i64_w, i32_w]
          rfl
         refine pure_ (i := 4) (N := some 79) (v := ?_) (a' := ?_) tf31_7c000000 rfl rfl (any_of HT_.out (by kernel_rfl)) (fun _ _ _ h => h) (Or.inl ⟨by rfl, ?_⟩) ?_ ?_
         rotate_left
         ·intro w'
          go_simp
          with_reducible rfl
         rotate_left
         ·simp only [Act.put, sA, sZ, sS, i64_w, i32_w]
          rfl
         refine pure_ (i := 5) (N := some 80) (v := ?_) (a' := ?_) tf31_7e000000 rfl rfl (any_of HT_.out (by kernel_rfl)) (fun _ _ _ h => h) (Or.inl ⟨by rfl, ?_⟩) ?_ ?_
         rotate_left
         ·intro w'
          go_simp
          with_reducible rfl
         rotate_left
         ·simp only [Act.put, sA, sZ, sS, i64_w, i32_w]
          rfl
         refine pure_ (i := 6) (N := some 81) (v := ?_) (a' := ?_) tf31_7f000000 rfl rfl (any_of HT_.out (by kernel_rfl)) (fun _ _ _ h => h) (Or.inl ⟨by rfl, ?_⟩) ?_ ?_
         rotate_left
         ·intro w'
          go_simp
          with_reducible rfl
         rotate_left
         ·simp only [Act.put, sA, sZ, sS, i64_w, i32_w]
          rfl
         refine pure_ (i := 7) (N := some 82) (v := ?_) (a' := ?_) tf31_7f800000 rfl rfl (any_of HT_.out (by kernel_rfl)) (fun _ _ _ h => h) (Or.inl ⟨by rfl, ?_⟩) ?_ ?_
         rotate_left
         ·intro w'
          go_simp
          with_reducible rfl
         rotate_left
         ·simp only [Act.put, sA, sZ, sS, i64_w, i32_w]
          rfl
         refine pure_ (i := 8) (N := some 83) (v := ?_) (a' := ?_) tf31_7fc00000 rfl rfl (any_of HT_.out (by kernel_rfl)) (fun _ _ _ h => h) (Or.inl ⟨by rfl, ?_⟩) ?_ ?_
         rotate_left
         ·intro w'
          go_simp
          with_reducible rfl
         rotate_left
         ·simp only [Act.put, sA, sZ, sS, i64_w, i32_w]
          rfl
         refine pure_ (i := 9) (N := some 84) (v := ?_) (a' := ?_) tf31_7fe00000 rfl rfl (any_of HT_.out (by kernel_rfl)) (fun _ _ _ h => h) (Or.inl ⟨by rfl, ?_⟩) ?_ ?_
         rotate_left
         ·intro w'
          go_simp
          with_reducible rfl
         rotate_left
         ·simp only [Act.put, sA, sZ, sS, i64_w, i32_w]
          rfl
         refine take_ (i := 10) (N := some 85) (v := ?_) (a' := ?_) tf31_7ff00000 rfl rfl (take_ofW HT_.out HW_.out (by kernel_rfl)) (fun _ _ _ h => h) (Or.inl ⟨by rfl, ?_⟩) hHeld ?_ ?_
         rotate_left
         ·rintro w' ⟨s0, s1, s2, s3, s4, s5⟩
          go_simp
          with_reducible rfl
         rotate_left
         ·simp only [Act.put, sA, sZ, sS, i64_w, i32_w]
          rfl
         refine one_ (i := 11) (N := some 86) tf31_7ff80000 rfl rfl (one_of HT_.out (by kernel_rfl)) (by decide) (fun K hK => ?_)
         refine goes_ Try.func19 (by kernel_rfl) rfl #[.agg #[.int .i64 a0_2, .int .i64 a0_3]] (by rfl) rfl rfl (by (try simp only [List.map_toArray, List.map_cons, List.map_nil]); first | done | rfl | (simp only [List.length_drop, List.length_take]; rfl)) ?_
         with_reducible refine (span_Valid.calls a0_2 a0_3 t191 _ A82.out).mono ?_
         rintro e w100 ⟨rfl, hb⟩
         refine ⟨_, rfl, ?_⟩
         have n0_ := Aside0.mk (blk_below (sp BK173.out) hb)
         have n1_ := Aside0.mk (blk_below (sp BK174.out) hb)
         have n2_ := Aside0.mk (blk_below (sp BK175.out) hb)
         have n3_ := Aside0.mk (blk_below (sp BK176.out) hb)
         have n4_ := Aside0.mk (blk_below (sp BK181.out) hb)
         have n5_ := Aside0.mk (blk_below (sp BK189.out) hb)
         have n6_ := Aside0.mk (below_step (by repeat (first | (with_reducible first | exact HB.out | apply bA | apply bD | apply bW | refine bS ?_ GE173.out | refine bS ?_ GE174.out | refine bS ?_ GE175.out | refine bS ?_ GE176.out | refine bS ?_ GE181.out | refine bS ?_ GE189.out) | exact HB.out)) hb)
         clear BK173
         clear BK174
         clear BK175
         clear BK176
         clear BK181
         clear BK189
         clear HB
         have BK173 := n0_
         have BK174 := n1_
         have BK175 := n2_
         have BK176 := n3_
         have BK181 := n4_
         have BK189 := n5_
         have HB := n6_
         clear n0_ n1_ n2_ n3_ n4_ n5_ n6_
         (try clear hb)
         (try clear hb2)
         (try clear hk)
         (try clear hi)
         refine hK.out _ _ ⟨(blk_cell BK174.out 0).trans rfl, (blk_cell BK174.out 1).trans rfl, (blk_cell BK176.out 0).trans rfl, (blk_cell BK176.out 1).trans rfl, (blk_cell BK175.out 0).trans rfl, (blk_cell BK175.out 1).trans rfl⟩ (fun hHeld => ?_)
         clear hK K
         refine norm_ (a' := ?_) ?_ ?_
         rotate_left
         ·show Act.put _ (some 86) _ = _
          simp only [Act.put, sA, sZ, sS, i64_w, i32_w]
          rfl
         refine pure_ (i := 12) (N := some 87) (v := ?_) (a' := ?_) tf31_7ffc0000 rfl rfl (any_of HT_.out (by kernel_rfl)) (fun _ _ _ h => h) (Or.inl ⟨by rfl, ?_⟩) ?_ ?_
         rotate_left
         ·intro w'
          go_simp
          with_reducible rfl
         rotate_left
         ·simp only [Act.put, sA, sZ, sS, i64_w, i32_w]
          rfl
         refine pure_ (i := 13) (N := some 88) (v := ?_) (a' := ?_) tf31_7ffe0000 rfl rfl (any_of HT_.out (by kernel_rfl)) (fun _ _ _ h => h) (Or.inl ⟨by rfl, ?_⟩) ?_ ?_
         rotate_left
         ·intro w'
          go_simp
          with_reducible rfl
         rotate_left
         ·simp only [Act.put, sA, sZ, sS, i64_w, i32_w]
          rfl
         refine pure_ (i := 14) (N := some 89) (v := ?_) (a' := ?_) tf31_7fff0000 rfl rfl (any_of HT_.out (by kernel_rfl)) (fun _ _ _ h => h) (Or.inl ⟨by rfl, ?_⟩) ?_ ?_
         rotate_left
         ·intro w'
          go_simp
          with_reducible rfl
         rotate_left
         ·simp only [Act.put, sA, sZ, sS, i64_w, i32_w]
          rfl
         refine pure_ (i := 15) (N := some 90) (v := ?_) (a' := ?_) tf31_7fff8000 rfl rfl (any_of HT_.out (by kernel_rfl)) (fun _ _ _ h => h) (Or.inl ⟨by rfl, ?_⟩) ?_ ?_
         rotate_left
         ·intro w'
          go_simp
          with_reducible rfl
         rotate_left
         ·simp only [Act.put, sA, sZ, sS, i64_w, i32_w]
          rfl
         refine pure_ (i := 16) (N := some 91) (v := ?_) (a' := ?_) tf31_7fffc000 rfl rfl (any_of HT_.out (by kernel_rfl)) (fun _ _ _ h => h) (Or.inl ⟨by rfl, ?_⟩) ?_ ?_
         rotate_left
         ·intro w'
          go_simp
          with_reducible rfl
         rotate_left
         ·simp only [Act.put, sA, sZ, sS, i64_w, i32_w]
          rfl
         refine pure_ (i := 17) (N := some 92) (v := ?_) (a' := ?_) tf31_7fffe000 rfl rfl (any_of HT_.out (by kernel_rfl)) (fun _ _ _ h => h) (Or.inl ⟨by rfl, ?_⟩) ?_ ?_
         rotate_left
         ·intro w'
          go_simp
          with_reducible rfl
         rotate_left
         ·simp only [Act.put, sA, sZ, sS, i64_w, i32_w]
          rfl
         refine pure_ (i := 18) (N := some 93) (v := ?_) (a' := ?_) tf31_7ffff000 rfl rfl (any_of HT_.out (by kernel_rfl)) (fun _ _ _ h => h) (Or.inl ⟨by rfl, ?_⟩) ?_ ?_
         rotate_left
         ·intro w'
          go_simp
          with_reducible rfl
         rotate_left
         ·simp only [Act.put, sA, sZ, sS, i64_w, i32_w]
          rfl
         refine pure_ (i := 19) (N := some 94) (v := ?_) (a' := ?_) tf31_7ffff800 rfl rfl (any_of HT_.out (by kernel_rfl)) (fun _ _ _ h => h) (Or.inl ⟨by rfl, ?_⟩) ?_ ?_
         rotate_left
         ·intro w'
          go_simp
          with_reducible rfl
         rotate_left
         ·simp only [Act.put, sA, sZ, sS, i64_w, i32_w]
          rfl
         refine pure_ (i := 20) (N := some 95) (v := ?_) (a' := ?_) tf31_7ffffc00 rfl rfl (any_of HT_.out (by kernel_rfl)) (fun _ _ _ h => h) (Or.inl ⟨by rfl, ?_⟩) ?_ ?_
         rotate_left
         ·intro w'
          go_simp
          with_reducible rfl
         rotate_left
         ·simp only [Act.put, sA, sZ, sS, i64_w, i32_w]
          rfl
         refine pure_ (i := 21) (N := some 96) (v := ?_) (a' := ?_) tf31_7ffffe00 rfl rfl (any_of HT_.out (by kernel_rfl)) (fun _ _ _ h => h) (Or.inl ⟨by rfl, ?_⟩) ?_ ?_
         rotate_left
         ·intro w'
          go_simp
          with_reducible rfl
         rotate_left
         ·simp only [Act.put, sA, sZ, sS, i64_w, i32_w]
          rfl
         refine pure_ (i := 22) (N := some 97) (v := undef) (a' := ?_) tf31_7fffff00 rfl rfl (any_of HT_.out (by kernel_rfl)) (fun _ _ _ h => h) (Or.inr ⟨by rfl, rfl⟩) ?_ ?_
         rotate_left
         ·simp only [Act.put, sA, sZ, sS, i64_w, i32_w]
          rfl
         refine pure_ (i := 23) (N := some 98) (v := undef) (a' := ?_) tf31_7fffff80 rfl rfl (any_of HT_.out (by kernel_rfl)) (fun _ _ _ h => h) (Or.inr ⟨by rfl, rfl⟩) ?_ ?_
         rotate_left
         ·simp only [Act.put, sA, sZ, sS, i64_w, i32_w]
          rfl
         refine pure_ (i := 24) (N := some 99) (v := undef) (a' := ?_) tf31_7fffffc0 rfl rfl (any_of HT_.out (by kernel_rfl)) (fun _ _ _ h => h) (Or.inr ⟨by rfl, rfl⟩) ?_ ?_
         rotate_left
         ·simp only [Act.put, sA, sZ, sS, i64_w, i32_w]
          rfl
         refine pure_ (i := 25) (N := some 100) (v := undef) (a' := ?_) tf31_7fffffe0 rfl rfl (any_of HT_.out (by kernel_rfl)) (fun _ _ _ h => h) (Or.inr ⟨by rfl, rfl⟩) ?_ ?_
         rotate_left
         ·simp only [Act.put, sA, sZ, sS, i64_w, i32_w]
          rfl
         refine pure_ (i := 26) (N := some 101) (v := undef) (a' := ?_) tf31_7ffffff0 rfl rfl (any_of HT_.out (by kernel_rfl)) (fun _ _ _ h => h) (Or.inr ⟨by rfl, rfl⟩) ?_ ?_
         rotate_left
         ·simp only [Act.put, sA, sZ, sS, i64_w, i32_w]
          rfl
         refine pure_ (i := 27) (N := some 102) (v := undef) (a' := ?_) tf31_7ffffff8 rfl rfl (any_of HT_.out (by kernel_rfl)) (fun _ _ _ h => h) (Or.inr ⟨by rfl, rfl⟩) ?_ ?_
         rotate_left
         ·simp only [Act.put, sA, sZ, sS, i64_w, i32_w]
          rfl
         refine pure_ (i := 28) (N := some 103) (v := undef) (a' := ?_) tf31_7ffffffc rfl rfl (any_of HT_.out (by kernel_rfl)) (fun _ _ _ h => h) (Or.inr ⟨by rfl, rfl⟩) ?_ ?_
         rotate_left
         ·simp only [Act.put, sA, sZ, sS, i64_w, i32_w]
          rfl
         refine pure_ (i := 29) (N := some 104) (v := ?_) (a' := ?_) tf31_7ffffffe rfl rfl (any_of HT_.out (by kernel_rfl)) (fun _ _ _ h => h) (Or.inl ⟨by rfl, ?_⟩) ?_ ?_
         rotate_left
         ·intro w'
          go_simp
          with_reducible rfl
         rotate_left
         ·simp only [Act.put, sA, sZ, sS, i64_w, i32_w]
          rfl
         refine pure_ (i := 30) (N := some 105) (v := ?_) (a' := ?_) tf31_7fffffff rfl rfl (any_of HT_.out (by kernel_rfl)) (fun _ _ _ h => h) (Or.inl ⟨by rfl, ?_⟩) ?_ ?_
         rotate_left
         ·intro w'
          go_simp
          with_reducible rfl
         rotate_left
         ·simp only [Act.put, sA, sZ, sS, i64_w, i32_w]
          rfl
         refine done_ (done_of HT_.out (by kernel_rfl)) ?_
         try go_wp2
         go_meet
         case rel => exact ⟨_, (false), (by first | rfl | (simp; done) | (simp [*]; done)), H', ⟨by have := HJ4.out; first | omega | exact Nat.le_refl _⟩, ⟨(sp BK173.out)⟩, ⟨(sp BK174.out)⟩, ⟨(sp BK175.out)⟩, ⟨(sp BK176.out)⟩, ⟨(sp BK181.out)⟩, ⟨(sp BK189.out)⟩, ⟨by repeat (first | (with_reducible first | exact HB.out | apply bA | apply bD | apply bW | refine bS ?_ GE173.out | refine bS ?_ GE174.out | refine bS ?_ GE175.out | refine bS ?_ GE176.out | refine bS ?_ GE181.out | refine bS ?_ GE189.out) | exact HB.out)⟩⟩
      ·rw [if_neg c81] at H
       have c81b0 : (t180 == 0) = false := beq_eq_false_iff_ne.mpr c81
       have c81b1 : (t180 != 0) = true := bne_iff_ne.mpr c81
       (first | rw [c81b0] | (simp only [i64_w, i32_w]; rw [c81b0]) | skip)
       have H' := Aside0.mk H
       clear H
       try go_wp2
       have n0_ : Aside0 (((w72.setCell ⟨gb189, 0, none⟩ (.int .i64 t186)).setCell ⟨gb189, 1, none⟩ (.int .i64 t187)).heap[gb173]? = some (.cells #[.int .i64 a0_0, .int .i64 a0_1, .int .i64 a0_2, .int .i64 a0_3, .int .i64 a0_4, .int .i64 a0_5, .int .i64 a0_6] 40 (0, 0))) := ⟨(sp (blk_far (sp (blk_far (sp BK173.out) NB173_189.out _)) NB173_189.out _))⟩
       have n1_ : Aside0 (((w72.setCell ⟨gb189, 0, none⟩ (.int .i64 t186)).setCell ⟨gb189, 1, none⟩ (.int .i64 t187)).heap[gb174]? = some (.cells #[.int .i64 a0_0, .int .i64 a0_1] 23 (0, 0))) := ⟨(sp (blk_far (sp (blk_far (sp BK174.out) NB174_189.out _)) NB174_189.out _))⟩
       have n2_ : Aside0 (((w72.setCell ⟨gb189, 0, none⟩ (.int .i64 t186)).setCell ⟨gb189, 1, none⟩ (.int .i64 t187)).heap[gb175]? = some (.cells #[.int .i64 a0_2, .int .i64 a0_3] 23 (0, 0))) := ⟨(sp (blk_far (sp (blk_far (sp BK175.out) NB175_189.out _)) NB175_189.out _))⟩
       have n3_ : Aside0 (((w72.setCell ⟨gb189, 0, none⟩ (.int .i64 t186)).setCell ⟨gb189, 1, none⟩ (.int .i64 t187)).heap[gb176]? = some (.cells #[.int .i64 a0_4, .int .i64 a0_5] 23 (0, 0))) := ⟨(sp (blk_far (sp (blk_far (sp BK176.out) NB176_189.out _)) NB176_189.out _))⟩
       have n4_ : Aside0 (((w72.setCell ⟨gb189, 0, none⟩ (.int .i64 t186)).setCell ⟨gb189, 1, none⟩ (.int .i64 t187)).heap[gb181]? = some (.cells #[.int .i64 t178, .int .i64 t179] 23 (0, 0))) := ⟨(sp (blk_far (sp (blk_far (sp BK181.out) NB181_189.out _)) NB181_189.out _))⟩
       have n5_ : Aside0 (((w72.setCell ⟨gb189, 0, none⟩ (.int .i64 t186)).setCell ⟨gb189, 1, none⟩ (.int .i64 t187)).heap[gb189]? = some (.cells #[.int .i64 t186, .int .i64 t187] 23 (0, 0))) := ⟨by (with_reducible repeat first | apply dN | apply dW | apply dL); refine blk_put (cs := #[.int .i64 t186, .int .i64 0]) ?_ 1 _ rfl; (with_reducible repeat first | apply dN | apply dW | apply dL); refine blk_put (cs := #[.int .i64 0, .int .i64 0]) ?_ 0 _ rfl; exact sp BK189.out⟩
       have n6_ : Aside0 (Below w.heap.size w ((w72.setCell ⟨gb189, 0, none⟩ (.int .i64 t186)).setCell ⟨gb189, 1, none⟩ (.int .i64 t187))) := ⟨by repeat (first | (with_reducible first | exact HB.out | apply bA | apply bD | apply bW | refine bS ?_ GE173.out | refine bS ?_ GE174.out | refine bS ?_ GE175.out | refine bS ?_ GE176.out | refine bS ?_ GE181.out | refine bS ?_ GE189.out) | exact HB.out)⟩
       (try clear BK173)
       (try clear BK174)
       (try clear BK175)
       (try clear BK176)
       (try clear BK181)
       (try clear BK189)
       (try clear HB)
       generalize ((w72.setCell ⟨gb189, 0, none⟩ (.int .i64 t186)).setCell ⟨gb189, 1, none⟩ (.int .i64 t187)) = w101 at n0_ n1_ n2_ n3_ n4_ n5_ n6_ ⊢
       have BK173 := n0_
       have BK174 := n1_
       have BK175 := n2_
       have BK176 := n3_
       have BK181 := n4_
       have BK189 := n5_
       have HB := n6_
       clear n0_ n1_ n2_ n3_ n4_ n5_ n6_
       have n0_ := Aside0.mk (blk_drew BK173.out)
       have n1_ := Aside0.mk (blk_drew BK174.out)
       have n2_ := Aside0.mk (blk_drew BK175.out)
       have n3_ := Aside0.mk (blk_drew BK176.out)
       have n4_ := Aside0.mk (blk_drew BK181.out)
       have n5_ := Aside0.mk (blk_drew BK189.out)
       have n6_ := Aside0.mk (below_drew1 HB.out)
       clear BK173
       clear BK174
       clear BK175
       clear BK176
       clear BK181
       clear BK189
       clear HB
       have BK173 := n0_
       have BK174 := n1_
       have BK175 := n2_
       have BK176 := n3_
       have BK181 := n4_
       have BK189 := n5_
       have HB := n6_
       clear n0_ n1_ n2_ n3_ n4_ n5_ n6_
       refine start_ (n := 31) (S := fun w' => w'.cell? ⟨gb174, 0, none⟩ = some (.int .i64 a0_0) ∧ w'.cell? ⟨gb174, 1, none⟩ = some (.int .i64 a0_1) ∧ w'.cell? ⟨gb176, 0, none⟩ = some (.int .i64 a0_4) ∧ w'.cell? ⟨gb176, 1, none⟩ = some (.int .i64 a0_5)) (ds := []) tf31_0 (by kernel_rfl) rfl rfl ⟨(blk_cell BK174.out 0).trans rfl, (blk_cell BK174.out 1).trans rfl, (blk_cell BK176.out 0).trans rfl, (blk_cell BK176.out 1).trans rfl⟩ (fun hHeld => ?_); refine with_tabW spillwaylaw03_SpanTight.tab11 spillwaylaw03_SpanTight.bits11 (fun HT_ HW_ => ?_)
       generalize w101.drew = w102 at BK173 BK174 BK175 BK176 BK181 BK189 HB hHeld ⊢
       refine take_ (i := 0) (N := some 75) (v := ?_) (a' := ?_) tf31_40000000 rfl rfl (take_ofW HT_.out HW_.out (by kernel_rfl)) (fun _ _ _ h => h) (Or.inl ⟨by rfl, ?_⟩) hHeld ?_ ?_
       rotate_left
       ·rintro w' ⟨s0, s1, s2, s3⟩
        go_simp
        with_reducible rfl
       rotate_left
       ·simp only [Act.put, sA, sZ, sS, i64_w, i32_w]
        rfl
       refine take_ (i := 1) (N := some 76) (v := ?_) (a' := ?_) tf31_60000000 rfl rfl (take_ofW HT_.out HW_.out (by kernel_rfl)) (fun _ _ _ h => h) (Or.inl ⟨by rfl, ?_⟩) hHeld ?_ ?_
       rotate_left
       ·rintro w' ⟨s0, s1, s2, s3⟩
        go_simp
        with_reducible rfl
       rotate_left
       ·simp only [Act.put, sA, sZ, sS, i64_w, i32_w]
        rfl
       refine one_ (i := 2) (N := some 77) tf31_70000000 rfl rfl (one_of HT_.out (by kernel_rfl)) (by decide) (fun K hK => ?_)
       refine goes_ Try.func22 (by kernel_rfl) rfl #[.agg #[.int .i64 a0_0, .int .i64 a0_1], .agg #[.int .i64 a0_4, .int .i64 a0_5]] (by rfl) rfl rfl (by (try simp only [List.map_toArray, List.map_cons, List.map_nil]); first | done | rfl | (simp only [List.length_drop, List.length_take]; rfl)) ?_
       with_reducible refine (span_Holds.calls a0_0 a0_1 a0_4 a0_5 true _ A79.out).mono ?_
       rintro e w103 ⟨rfl, hb⟩
       refine ⟨_, rfl, ?_⟩
       have n0_ := Aside0.mk (blk_below (sp BK173.out) hb)
       have n1_ := Aside0.mk (blk_below (sp BK174.out) hb)
       have n2_ := Aside0.mk (blk_below (sp BK175.out) hb)
       have n3_ := Aside0.mk (blk_below (sp BK176.out) hb)
       have n4_ := Aside0.mk (blk_below (sp BK181.out) hb)
       have n5_ := Aside0.mk (blk_below (sp BK189.out) hb)
       have n6_ := Aside0.mk (below_step (by repeat (first | (with_reducible first | exact HB.out | apply bA | apply bD | apply bW | refine bS ?_ GE173.out | refine bS ?_ GE174.out | refine bS ?_ GE175.out | refine bS ?_ GE176.out | refine bS ?_ GE181.out | refine bS ?_ GE189.out) | exact HB.out)) hb)
       clear BK173
       clear BK174
       clear BK175
       clear BK176
       clear BK181
       clear BK189
       clear HB
       have BK173 := n0_
       have BK174 := n1_
       have BK175 := n2_
       have BK176 := n3_
       have BK181 := n4_
       have BK189 := n5_
       have HB := n6_
       clear n0_ n1_ n2_ n3_ n4_ n5_ n6_
       (try clear hb)
       (try clear hb2)
       (try clear hk)
       (try clear hi)
       refine hK.out _ _ ⟨(blk_cell BK174.out 0).trans rfl, (blk_cell BK174.out 1).trans rfl, (blk_cell BK176.out 0).trans rfl, (blk_cell BK176.out 1).trans rfl⟩ (fun hHeld => ?_)
       clear hK K
       refine norm_ (a' := ?_) ?_ ?_
       rotate_left
       ·show Act.put _ (some 77) _ = _
        simp only [Act.put, sA, sZ, sS, i64_w, i32_w]
        rfl
       refine pure_ (i := 3) (N := some 78) (v := ?_) (a' := ?_) tf31_78000000 rfl rfl (any_of HT_.out (by kernel_rfl)) (fun _ _ _ h => h) (Or.inl ⟨by rfl, ?_⟩) ?_ ?_
       rotate_left
       ·intro w'
        go_simp
        with_reducible rfl
       rotate_left
       ·simp only [Act.put, sA, sZ, sS, i64_w, i32_w]
        rfl
       refine pure_ (i := 4) (N := some 79) (v := ?_) (a' := ?_) tf31_7c000000 rfl rfl (any_of HT_.out (by kernel_rfl)) (fun _ _ _ h => h) (Or.inl ⟨by rfl, ?_⟩) ?_ ?_
       rotate_left
       ·intro w'
        go_simp
        with_reducible rfl
       rotate_left
       ·simp only [Act.put, sA, sZ, sS, i64_w, i32_w]
        rfl
       refine pure_ (i := 5) (N := some 80) (v := ?_) (a' := ?_) tf31_7e000000 rfl rfl (any_of HT_.out (by kernel_rfl)) (fun _ _ _ h => h) (Or.inl ⟨by rfl, ?_⟩) ?_ ?_
       rotate_left
       ·intro w'
        go_simp
        with_reducible rfl
       rotate_left
       ·simp only [Act.put, sA, sZ, sS, i64_w, i32_w]
        rfl
       refine pure_ (i := 6) (N := some 81) (v := ?_) (a' := ?_) tf31_7f000000 rfl rfl (any_of HT_.out (by kernel_rfl)) (fun _ _ _ h => h) (Or.inl ⟨by rfl, ?_⟩) ?_ ?_
       rotate_left
       ·intro w'
        go_simp
        with_reducible rfl
       rotate_left
       ·simp only [Act.put, sA, sZ, sS, i64_w, i32_w]
        rfl
       refine pure_ (i := 7) (N := some 82) (v := ?_) (a' := ?_) tf31_7f800000 rfl rfl (any_of HT_.out (by kernel_rfl)) (fun _ _ _ h => h) (Or.inl ⟨by rfl, ?_⟩) ?_ ?_
       rotate_left
       ·intro w'
        go_simp
        with_reducible rfl
       rotate_left
       ·simp only [Act.put, sA, sZ, sS, i64_w, i32_w]
        rfl
       refine pure_ (i := 8) (N := some 83) (v := undef) (a' := ?_) tf31_7fc00000 rfl rfl (any_of HT_.out (by kernel_rfl)) (fun _ _ _ h => h) (Or.inr ⟨by rfl, rfl⟩) ?_ ?_
       rotate_left
       ·simp only [Act.put, sA, sZ, sS, i64_w, i32_w]
        rfl
       refine pure_ (i := 9) (N := some 84) (v := undef) (a' := ?_) tf31_7fe00000 rfl rfl (any_of HT_.out (by kernel_rfl)) (fun _ _ _ h => h) (Or.inr ⟨by rfl, rfl⟩) ?_ ?_
       rotate_left
       ·simp only [Act.put, sA, sZ, sS, i64_w, i32_w]
        rfl
       refine pure_ (i := 10) (N := some 85) (v := undef) (a' := ?_) tf31_7ff00000 rfl rfl (any_of HT_.out (by kernel_rfl)) (fun _ _ _ h => h) (Or.inr ⟨by rfl, rfl⟩) ?_ ?_
       rotate_left
       ·simp only [Act.put, sA, sZ, sS, i64_w, i32_w]
        rfl
       refine pure_ (i := 11) (N := some 86) (v := undef) (a' := ?_) tf31_7ff80000 rfl rfl (any_of HT_.out (by kernel_rfl)) (fun _ _ _ h => h) (Or.inr ⟨by rfl, rfl⟩) ?_ ?_
       rotate_left
       ·simp only [Act.put, sA, sZ, sS, i64_w, i32_w]
        rfl
       refine pure_ (i := 12) (N := some 87) (v := undef) (a' := ?_) tf31_7ffc0000 rfl rfl (any_of HT_.out (by kernel_rfl)) (fun _ _ _ h => h) (Or.inr ⟨by rfl, rfl⟩) ?_ ?_
       rotate_left
       ·simp only [Act.put, sA, sZ, sS, i64_w, i32_w]
        rfl
       refine pure_ (i := 13) (N := some 88) (v := ?_) (a' := ?_) tf31_7ffe0000 rfl rfl (any_of HT_.out (by kernel_rfl)) (fun _ _ _ h => h) (Or.inl ⟨by rfl, ?_⟩) ?_ ?_
       rotate_left
       ·intro w'
        go_simp
        with_reducible rfl
       rotate_left
       ·simp only [Act.put, sA, sZ, sS, i64_w, i32_w]
        rfl
       refine pure_ (i := 14) (N := some 89) (v := ?_) (a' := ?_) tf31_7fff0000 rfl rfl (any_of HT_.out (by kernel_rfl)) (fun _ _ _ h => h) (Or.inl ⟨by rfl, ?_⟩) ?_ ?_
       rotate_left
       ·intro w'
        go_simp
        with_reducible rfl
       rotate_left
       ·simp only [Act.put, sA, sZ, sS, i64_w, i32_w]
        rfl
       refine pure_ (i := 15) (N := some 90) (v := ?_) (a' := ?_) tf31_7fff8000 rfl rfl (any_of HT_.out (by kernel_rfl)) (fun _ _ _ h => h) (Or.inl ⟨by rfl, ?_⟩) ?_ ?_
       rotate_left
       ·intro w'
        go_simp
        with_reducible rfl
       rotate_left
       ·simp only [Act.put, sA, sZ, sS, i64_w, i32_w]
        rfl
       refine pure_ (i := 16) (N := some 91) (v := ?_) (a' := ?_) tf31_7fffc000 rfl rfl (any_of HT_.out (by kernel_rfl)) (fun _ _ _ h => h) (Or.inl ⟨by rfl, ?_⟩) ?_ ?_
       rotate_left
       ·intro w'
        go_simp
        with_reducible rfl
       rotate_left
       ·simp only [Act.put, sA, sZ, sS, i64_w, i32_w]
        rfl
       refine pure_ (i := 17) (N := some 92) (v := ?_) (a' := ?_) tf31_7fffe000 rfl rfl (any_of HT_.out (by kernel_rfl)) (fun _ _ _ h => h) (Or.inl ⟨by rfl, ?_⟩) ?_ ?_
       rotate_left
       ·intro w'
        go_simp
        with_reducible rfl
       rotate_left
       ·simp only [Act.put, sA, sZ, sS, i64_w, i32_w]
        rfl
       refine pure_ (i := 18) (N := some 93) (v := undef) (a' := ?_) tf31_7ffff000 rfl rfl (any_of HT_.out (by kernel_rfl)) (fun _ _ _ h => h) (Or.inr ⟨by rfl, rfl⟩) ?_ ?_
       rotate_left
       ·simp only [Act.put, sA, sZ, sS, i64_w, i32_w]
        rfl
       refine pure_ (i := 19) (N := some 94) (v := undef) (a' := ?_) tf31_7ffff800 rfl rfl (any_of HT_.out (by kernel_rfl)) (fun _ _ _ h => h) (Or.inr ⟨by rfl, rfl⟩) ?_ ?_
       rotate_left
       ·simp only [Act.put, sA, sZ, sS, i64_w, i32_w]
        rfl
       refine pure_ (i := 20) (N := some 95) (v := ?_) (a' := ?_) tf31_7ffffc00 rfl rfl (any_of HT_.out (by kernel_rfl)) (fun _ _ _ h => h) (Or.inl ⟨by rfl, ?_⟩) ?_ ?_
       rotate_left
       ·intro w'
        go_simp
        with_reducible rfl
       rotate_left
       ·simp only [Act.put, sA, sZ, sS, i64_w, i32_w]
        rfl
       refine pure_ (i := 21) (N := some 96) (v := ?_) (a' := ?_) tf31_7ffffe00 rfl rfl (any_of HT_.out (by kernel_rfl)) (fun _ _ _ h => h) (Or.inl ⟨by rfl, ?_⟩) ?_ ?_
       rotate_left
       ·intro w'
        go_simp
        with_reducible rfl
       rotate_left
       ·simp only [Act.put, sA, sZ, sS, i64_w, i32_w]
        rfl
       refine pure_ (i := 22) (N := some 97) (v := undef) (a' := ?_) tf31_7fffff00 rfl rfl (any_of HT_.out (by kernel_rfl)) (fun _ _ _ h => h) (Or.inr ⟨by rfl, rfl⟩) ?_ ?_
       rotate_left
       ·simp only [Act.put, sA, sZ, sS, i64_w, i32_w]
        rfl
       refine pure_ (i := 23) (N := some 98) (v := undef) (a' := ?_) tf31_7fffff80 rfl rfl (any_of HT_.out (by kernel_rfl)) (fun _ _ _ h => h) (Or.inr ⟨by rfl, rfl⟩) ?_ ?_
       rotate_left
       ·simp only [Act.put, sA, sZ, sS, i64_w, i32_w]
        rfl
       refine pure_ (i := 24) (N := some 99) (v := undef) (a' := ?_) tf31_7fffffc0 rfl rfl (any_of HT_.out (by kernel_rfl)) (fun _ _ _ h => h) (Or.inr ⟨by rfl, rfl⟩) ?_ ?_
       rotate_left
       ·simp only [Act.put, sA, sZ, sS, i64_w, i32_w]
        rfl
       refine pure_ (i := 25) (N := some 100) (v := undef) (a' := ?_) tf31_7fffffe0 rfl rfl (any_of HT_.out (by kernel_rfl)) (fun _ _ _ h => h) (Or.inr ⟨by rfl, rfl⟩) ?_ ?_
       rotate_left
       ·simp only [Act.put, sA, sZ, sS, i64_w, i32_w]
        rfl
       refine pure_ (i := 26) (N := some 101) (v := undef) (a' := ?_) tf31_7ffffff0 rfl rfl (any_of HT_.out (by kernel_rfl)) (fun _ _ _ h => h) (Or.inr ⟨by rfl, rfl⟩) ?_ ?_
       rotate_left
       ·simp only [Act.put, sA, sZ, sS, i64_w, i32_w]
        rfl
       refine pure_ (i := 27) (N := some 102) (v := undef) (a' := ?_) tf31_7ffffff8 rfl rfl (any_of HT_.out (by kernel_rfl)) (fun _ _ _ h => h) (Or.inr ⟨by rfl, rfl⟩) ?_ ?_
       rotate_left
       ·simp only [Act.put, sA, sZ, sS, i64_w, i32_w]
        rfl
       refine pure_ (i := 28) (N := some 103) (v := undef) (a' := ?_) tf31_7ffffffc rfl rfl (any_of HT_.out (by kernel_rfl)) (fun _ _ _ h => h) (Or.inr ⟨by rfl, rfl⟩) ?_ ?_
       rotate_left
       ·simp only [Act.put, sA, sZ, sS, i64_w, i32_w]
        rfl
       refine pure_ (i := 29) (N := some 104) (v := ?_) (a' := ?_) tf31_7ffffffe rfl rfl (any_of HT_.out (by kernel_rfl)) (fun _ _ _ h => h) (Or.inl ⟨by rfl, ?_⟩) ?_ ?_
       rotate_left
       ·intro w'
        go_simp
        with_reducible rfl
       rotate_left
       ·simp only [Act.put, sA, sZ, sS, i64_w, i32_w]
        rfl
       refine pure_ (i := 30) (N := some 105) (v := ?_) (a' := ?_) tf31_7fffffff rfl rfl (any_of HT_.out (by kernel_rfl)) (fun _ _ _ h => h) (Or.inl ⟨by rfl, ?_⟩) ?_ ?_
       rotate_left
       ·intro w'
        go_simp
        with_reducible rfl
       rotate_left
       ·simp only [Act.put, sA, sZ, sS, i64_w, i32_w]
        rfl
       refine done_ (done_of HT_.out (by kernel_rfl)) ?_
       try go_wp2
       go_meet
       case rel => exact ⟨_, (false), (by first | rfl | (simp; done) | (simp [*]; done)), H', ⟨by have := HJ4.out; first | omega | exact Nat.le_refl _⟩, ⟨(sp BK173.out)⟩, ⟨(sp BK174.out)⟩, ⟨(sp BK175.out)⟩, ⟨(sp BK176.out)⟩, ⟨(sp BK181.out)⟩, ⟨(sp BK189.out)⟩, ⟨by repeat (first | (with_reducible first | exact HB.out | apply bA | apply bD | apply bW | refine bS ?_ GE173.out | refine bS ?_ GE174.out | refine bS ?_ GE175.out | refine bS ?_ GE176.out | refine bS ?_ GE181.out | refine bS ?_ GE189.out) | exact HB.out)⟩⟩
     ·replace c80 := Bool.eq_false_iff.mpr c80
      subst c80
      have H1 : (if t180 = 0 then (if t188 = 0 then ((span_Holds.f a0_0 a0_1 a0_4 a0_5).bind fun t194 => ((span_Holds.f t178 t179 t186 t187).bind fun t195 => (spillwaylaw03_SpanTight.j2 kj4 a0_6 (t194 != t195) a0_0 a0_1))) else (spillwaylaw03_SpanTight.j2 kj4 a0_6 false a0_0 a0_1)) else (spillwaylaw03_SpanTight.j2 kj4 a0_6 false a0_0 a0_1)) = some r := by rw [if_neg (show ¬ (false = true) by decide)] at H; exact H
      clear H
      have H := H1
      clear H1
      by_cases c104 : t180 = 0
      ·rw [if_pos c104] at H
       have c104b0 : (t180 == 0) = true := beq_iff_eq.mpr c104
       have c104b1 : (t180 != 0) = false := bne_eq_false_iff_eq.mpr c104
       clear c104
       by_cases c105 : t188 = 0
       ·rw [if_pos c105] at H
        have c105b0 : (t188 == 0) = true := beq_iff_eq.mpr c105
        have c105b1 : (t188 != 0) = false := bne_eq_false_iff_eq.mpr c105
        clear c105
        replace H := Option.bind_eq_some_iff.mp H
        obtain ⟨t194, A1060, H⟩ := H
        replace H : ((span_Holds.f t178 t179 t186 t187).bind fun t195 => (spillwaylaw03_SpanTight.j2 kj4 a0_6 (t194 != t195) a0_0 a0_1)) = some r := H
        have A106 := Aside0.mk A1060
        clear A1060
        replace H := Option.bind_eq_some_iff.mp H
        obtain ⟨t195, A1070, H⟩ := H
        replace H : (spillwaylaw03_SpanTight.j2 kj4 a0_6 (t194 != t195) a0_0 a0_1) = some r := H
        have A107 := Aside0.mk A1070
        clear A1070
        have H' := Aside0.mk H
        clear H
        try go_wp2
        have n0_ : Aside0 (((w72.setCell ⟨gb189, 0, none⟩ (.int .i64 t186)).setCell ⟨gb189, 1, none⟩ (.int .i64 t187)).heap[gb173]? = some (.cells #[.int .i64 a0_0, .int .i64 a0_1, .int .i64 a0_2, .int .i64 a0_3, .int .i64 a0_4, .int .i64 a0_5, .int .i64 a0_6] 40 (0, 0))) := ⟨(sp (blk_far (sp (blk_far (sp BK173.out) NB173_189.out _)) NB173_189.out _))⟩
        have n1_ : Aside0 (((w72.setCell ⟨gb189, 0, none⟩ (.int .i64 t186)).setCell ⟨gb189, 1, none⟩ (.int .i64 t187)).heap[gb174]? = some (.cells #[.int .i64 a0_0, .int .i64 a0_1] 23 (0, 0))) := ⟨(sp (blk_far (sp (blk_far (sp BK174.out) NB174_189.out _)) NB174_189.out _))⟩
        have n2_ : Aside0 (((w72.setCell ⟨gb189, 0, none⟩ (.int .i64 t186)).setCell ⟨gb189, 1, none⟩ (.int .i64 t187)).heap[gb175]? = some (.cells #[.int .i64 a0_2, .int .i64 a0_3] 23 (0, 0))) := ⟨(sp (blk_far (sp (blk_far (sp BK175.out) NB175_189.out _)) NB175_189.out _))⟩
        have n3_ : Aside0 (((w72.setCell ⟨gb189, 0, none⟩ (.int .i64 t186)).setCell ⟨gb189, 1, none⟩ (.int .i64 t187)).heap[gb176]? = some (.cells #[.int .i64 a0_4, .int .i64 a0_5] 23 (0, 0))) := ⟨(sp (blk_far (sp (blk_far (sp BK176.out) NB176_189.out _)) NB176_189.out _))⟩
        have n4_ : Aside0 (((w72.setCell ⟨gb189, 0, none⟩ (.int .i64 t186)).setCell ⟨gb189, 1, none⟩ (.int .i64 t187)).heap[gb181]? = some (.cells #[.int .i64 t178, .int .i64 t179] 23 (0, 0))) := ⟨(sp (blk_far (sp (blk_far (sp BK181.out) NB181_189.out _)) NB181_189.out _))⟩
        have n5_ : Aside0 (((w72.setCell ⟨gb189, 0, none⟩ (.int .i64 t186)).setCell ⟨gb189, 1, none⟩ (.int .i64 t187)).heap[gb189]? = some (.cells #[.int .i64 t186, .int .i64 t187] 23 (0, 0))) := ⟨by (with_reducible repeat first | apply dN | apply dW | apply dL); refine blk_put (cs := #[.int .i64 t186, .int .i64 0]) ?_ 1 _ rfl; (with_reducible repeat first | apply dN | apply dW | apply dL); refine blk_put (cs := #[.int .i64 0, .int .i64 0]) ?_ 0 _ rfl; exact sp BK189.out⟩
        have n6_ : Aside0 (Below w.heap.size w ((w72.setCell ⟨gb189, 0, none⟩ (.int .i64 t186)).setCell ⟨gb189, 1, none⟩ (.int .i64 t187))) := ⟨by repeat (first | (with_reducible first | exact HB.out | apply bA | apply bD | apply bW | refine bS ?_ GE173.out | refine bS ?_ GE174.out | refine bS ?_ GE175.out | refine bS ?_ GE176.out | refine bS ?_ GE181.out | refine bS ?_ GE189.out) | exact HB.out)⟩
        (try clear BK173)
        (try clear BK174)
        (try clear BK175)
        (try clear BK176)
        (try clear BK181)
        (try clear BK189)
        (try clear HB)
        generalize ((w72.setCell ⟨gb189, 0, none⟩ (.int .i64 t186)).setCell ⟨gb189, 1, none⟩ (.int .i64 t187)) = w108 at n0_ n1_ n2_ n3_ n4_ n5_ n6_ ⊢
        have BK173 := n0_
        have BK174 := n1_
        have BK175 := n2_
        have BK176 := n3_
        have BK181 := n4_
        have BK189 := n5_
        have HB := n6_
        clear n0_ n1_ n2_ n3_ n4_ n5_ n6_
        have n0_ := Aside0.mk (blk_drew BK173.out)
        have n1_ := Aside0.mk (blk_drew BK174.out)
        have n2_ := Aside0.mk (blk_drew BK175.out)
        have n3_ := Aside0.mk (blk_drew BK176.out)
        have n4_ := Aside0.mk (blk_drew BK181.out)
        have n5_ := Aside0.mk (blk_drew BK189.out)
        have n6_ := Aside0.mk (below_drew1 HB.out)
        clear BK173
        clear BK174
        clear BK175
        clear BK176
        clear BK181
        clear BK189
        clear HB
        have BK173 := n0_
        have BK174 := n1_
        have BK175 := n2_
        have BK176 := n3_
        have BK181 := n4_
        have BK189 := n5_
        have HB := n6_
        clear n0_ n1_ n2_ n3_ n4_ n5_ n6_
        refine start_ (n := 31) (S := fun w' => w'.cell? ⟨gb174, 0, none⟩ = some (.int .i64 a0_0) ∧ w'.cell? ⟨gb174, 1, none⟩ = some (.int .i64 a0_1) ∧ w'.cell? ⟨gb176, 0, none⟩ = some (.int .i64 a0_4) ∧ w'.cell? ⟨gb176, 1, none⟩ = some (.int .i64 a0_5) ∧ w'.cell? ⟨gb181, 0, none⟩ = some (.int .i64 t178) ∧ w'.cell? ⟨gb181, 1, none⟩ = some (.int .i64 t179) ∧ w'.cell? ⟨gb189, 0, none⟩ = some (.int .i64 t186) ∧ w'.cell? ⟨gb189, 1, none⟩ = some (.int .i64 t187)) (ds := []) tf31_0 (by kernel_rfl) rfl rfl ⟨(blk_cell BK174.out 0).trans rfl, (blk_cell BK174.out 1).trans rfl, (blk_cell BK176.out 0).trans rfl, (blk_cell BK176.out 1).trans rfl, (blk_cell BK181.out 0).trans rfl, (blk_cell BK181.out 1).trans rfl, (blk_cell BK189.out 0).trans rfl, (blk_cell BK189.out 1).trans rfl⟩ (fun hHeld => ?_); refine with_tabW spillwaylaw03_SpanTight.tab11 spillwaylaw03_SpanTight.bits11 (fun HT_ HW_ => ?_)
        generalize w108.drew = w109 at BK173 BK174 BK175 BK176 BK181 BK189 HB hHeld ⊢
        refine take_ (i := 0) (N := some 75) (v := ?_) (a' := ?_) tf31_40000000 rfl rfl (take_ofW HT_.out HW_.out (by kernel_rfl)) (fun _ _ _ h => h) (Or.inl ⟨by rfl, ?_⟩) hHeld ?_ ?_
        rotate_left
        ·rintro w' ⟨s0, s1, s2, s3, s4, s5, s6, s7⟩
         go_simp
         with_reducible rfl
        rotate_left
        ·simp only [Act.put, sA, sZ, sS, i64_w, i32_w]
         rfl
        refine take_ (i := 1) (N := some 76) (v := ?_) (a' := ?_) tf31_60000000 rfl rfl (take_ofW HT_.out HW_.out (by kernel_rfl)) (fun _ _ _ h => h) (Or.inl ⟨by rfl, ?_⟩) hHeld ?_ ?_
        rotate_left
        ·rintro w' ⟨s0, s1, s2, s3, s4, s5, s6, s7⟩
         go_simp
         with_reducible rfl
        rotate_left
        ·simp only [Act.put, sA, sZ, sS, i64_w, i32_w]
         rfl
        refine one_ (i := 2) (N := some 77) tf31_70000000 rfl rfl (one_of HT_.out (by kernel_rfl)) (by decide) (fun K hK => ?_)
        refine goes_ Try.func22 (by kernel_rfl) rfl #[.agg #[.int .i64 a0_0, .int .i64 a0_1], .agg #[.int .i64 a0_4, .int .i64 a0_5]] (by rfl) rfl rfl (by (try simp only [List.map_toArray, List.map_cons, List.map_nil]); first | done | rfl | (simp only [List.length_drop, List.length_take]; rfl)) ?_
        with_reducible refine (span_Holds.calls a0_0 a0_1 a0_4 a0_5 false _ A79.out).mono ?_
        rintro e w110 ⟨rfl, hb⟩
        refine ⟨_, rfl, ?_⟩
        have n0_ := Aside0.mk (blk_below (sp BK173.out) hb)
        have n1_ := Aside0.mk (blk_below (sp BK174.out) hb)
        have n2_ := Aside0.mk (blk_below (sp BK175.out) hb)
        have n3_ := Aside0.mk (blk_below (sp BK176.out) hb)
        have n4_ := Aside0.mk (blk_below (sp BK181.out) hb)
        have n5_ := Aside0.mk (blk_below (sp BK189.out) hb)
        have n6_ := Aside0.mk (below_step (by repeat (first | (with_reducible first | exact HB.out | apply bA | apply bD | apply bW | refine bS ?_ GE173.out | refine bS ?_ GE174.out | refine bS ?_ GE175.out | refine bS ?_ GE176.out | refine bS ?_ GE181.out | refine bS ?_ GE189.out) | exact HB.out)) hb)
        clear BK173
        clear BK174
        clear BK175
        clear BK176
        clear BK181
        clear BK189
        clear HB
        have BK173 := n0_
        have BK174 := n1_
        have BK175 := n2_
        have BK176 := n3_
        have BK181 := n4_
        have BK189 := n5_
        have HB := n6_
        clear n0_ n1_ n2_ n3_ n4_ n5_ n6_
        (try clear hb)
        (try clear hb2)
        (try clear hk)
        (try clear hi)
        refine hK.out _ _ ⟨(blk_cell BK174.out 0).trans rfl, (blk_cell BK174.out 1).trans rfl, (blk_cell BK176.out 0).trans rfl, (blk_cell BK176.out 1).trans rfl, (blk_cell BK181.out 0).trans rfl, (blk_cell BK181.out 1).trans rfl, (blk_cell BK189.out 0).trans rfl, (blk_cell BK189.out 1).trans rfl⟩ (fun hHeld => ?_)
        clear hK K
        refine norm_ (a' := ?_) ?_ ?_
        rotate_left
        ·show Act.put _ (some 77) _ = _
         simp only [Act.put, sA, sZ, sS, i64_w, i32_w]
         rfl
        refine pure_ (i := 3) (N := some 78) (v := ?_) (a' := ?_) tf31_78000000 rfl rfl (any_of HT_.out (by kernel_rfl)) (fun _ _ _ h => h) (Or.inl ⟨by rfl, ?_⟩) ?_ ?_
        rotate_left
        ·intro w'
         go_simp
         with_reducible rfl
        rotate_left
        ·simp only [Act.put, sA, sZ, sS, i64_w, i32_w]
         rfl
        refine pure_ (i := 4) (N := some 79) (v := undef) (a' := ?_) tf31_7c000000 rfl rfl (any_of HT_.out (by kernel_rfl)) (fun _ _ _ h => h) (Or.inr ⟨by rfl, rfl⟩) ?_ ?_
        rotate_left
        ·simp only [Act.put, sA, sZ, sS, i64_w, i32_w]
         rfl
        refine pure_ (i := 5) (N := some 80) (v := undef) (a' := ?_) tf31_7e000000 rfl rfl (any_of HT_.out (by kernel_rfl)) (fun _ _ _ h => h) (Or.inr ⟨by rfl, rfl⟩) ?_ ?_
        rotate_left
        ·simp only [Act.put, sA, sZ, sS, i64_w, i32_w]
         rfl
        refine pure_ (i := 6) (N := some 81) (v := ?_) (a' := ?_) tf31_7f000000 rfl rfl (any_of HT_.out (by kernel_rfl)) (fun _ _ _ h => h) (Or.inl ⟨by rfl, ?_⟩) ?_ ?_
        rotate_left
        ·intro w'
         go_simp
         with_reducible rfl
        rotate_left
        ·simp only [Act.put, sA, sZ, sS, i64_w, i32_w]
         rfl
        refine pure_ (i := 7) (N := some 82) (v := ?_) (a' := ?_) tf31_7f800000 rfl rfl (any_of HT_.out (by kernel_rfl)) (fun _ _ _ h => h) (Or.inl ⟨by rfl, ?_⟩) ?_ ?_
        rotate_left
        ·intro w'
         go_simp
         with_reducible rfl
        rotate_left
        ·simp only [Act.put, sA, sZ, sS, i64_w, i32_w]
         rfl
        refine pure_ (i := 8) (N := some 83) (v := undef) (a' := ?_) tf31_7fc00000 rfl rfl (any_of HT_.out (by kernel_rfl)) (fun _ _ _ h => h) (Or.inr ⟨by rfl, rfl⟩) ?_ ?_
        rotate_left
        ·simp only [Act.put, sA, sZ, sS, i64_w, i32_w]
         rfl
        refine pure_ (i := 9) (N := some 84) (v := undef) (a' := ?_) tf31_7fe00000 rfl rfl (any_of HT_.out (by kernel_rfl)) (fun _ _ _ h => h) (Or.inr ⟨by rfl, rfl⟩) ?_ ?_
        rotate_left
        ·simp only [Act.put, sA, sZ, sS, i64_w, i32_w]
         rfl
        refine pure_ (i := 10) (N := some 85) (v := undef) (a' := ?_) tf31_7ff00000 rfl rfl (any_of HT_.out (by kernel_rfl)) (fun _ _ _ h => h) (Or.inr ⟨by rfl, rfl⟩) ?_ ?_
        rotate_left
        ·simp only [Act.put, sA, sZ, sS, i64_w, i32_w]
         rfl
        refine pure_ (i := 11) (N := some 86) (v := undef) (a' := ?_) tf31_7ff80000 rfl rfl (any_of HT_.out (by kernel_rfl)) (fun _ _ _ h => h) (Or.inr ⟨by rfl, rfl⟩) ?_ ?_
        rotate_left
        ·simp only [Act.put, sA, sZ, sS, i64_w, i32_w]
         rfl
        refine pure_ (i := 12) (N := some 87) (v := undef) (a' := ?_) tf31_7ffc0000 rfl rfl (any_of HT_.out (by kernel_rfl)) (fun _ _ _ h => h) (Or.inr ⟨by rfl, rfl⟩) ?_ ?_
        rotate_left
        ·simp only [Act.put, sA, sZ, sS, i64_w, i32_w]
         rfl
        refine pure_ (i := 13) (N := some 88) (v := ?_) (a' := ?_) tf31_7ffe0000 rfl rfl (any_of HT_.out (by kernel_rfl)) (fun _ _ _ h => h) (Or.inl ⟨by rfl, ?_⟩) ?_ ?_
        rotate_left
        ·intro w'
         go_simp
         with_reducible rfl
        rotate_left
        ·simp only [Act.put, sA, sZ, sS, i64_w, i32_w]
         rfl
        refine pure_ (i := 14) (N := some 89) (v := ?_) (a' := ?_) tf31_7fff0000 rfl rfl (any_of HT_.out (by kernel_rfl)) (fun _ _ _ h => h) (Or.inl ⟨by rfl, ?_⟩) ?_ ?_
        rotate_left
        ·intro w'
         go_simp
         with_reducible rfl
        rotate_left
        ·simp only [Act.put, sA, sZ, sS, i64_w, i32_w]
         rfl
        refine pure_ (i := 15) (N := some 90) (v := ?_) (a' := ?_) tf31_7fff8000 rfl rfl (any_of HT_.out (by kernel_rfl)) (fun _ _ _ h => h) (Or.inl ⟨by rfl, ?_⟩) ?_ ?_
        rotate_left
        ·intro w'
         go_simp
         with_reducible rfl
        rotate_left
        ·simp only [Act.put, sA, sZ, sS, i64_w, i32_w]
         rfl
        refine pure_ (i := 16) (N := some 91) (v := ?_) (a' := ?_) tf31_7fffc000 rfl rfl (any_of HT_.out (by kernel_rfl)) (fun _ _ _ h => h) (Or.inl ⟨by rfl, ?_⟩) ?_ ?_
        rotate_left
        ·intro w'
         go_simp
         with_reducible rfl
        rotate_left
        ·simp only [Act.put, sA, sZ, sS, i64_w, i32_w]
         rfl
        refine pure_ (i := 17) (N := some 92) (v := ?_) (a' := ?_) tf31_7fffe000 rfl rfl (any_of HT_.out (by kernel_rfl)) (fun _ _ _ h => h) (Or.inl ⟨by rfl, ?_⟩) ?_ ?_
        rotate_left
        ·intro w'
         go_simp
         with_reducible rfl
        rotate_left
        ·simp only [Act.put, sA, sZ, sS, i64_w, i32_w]
         rfl
        refine pure_ (i := 18) (N := some 93) (v := ?_) (a' := ?_) tf31_7ffff000 rfl rfl (any_of HT_.out (by kernel_rfl)) (fun _ _ _ h => h) (Or.inl ⟨by rfl, ?_⟩) ?_ ?_
        rotate_left
        ·intro w'
         go_simp
         with_reducible rfl
        rotate_left
        ·simp only [Act.put, sA, sZ, sS, i64_w, i32_w]
         rfl
        refine pure_ (i := 19) (N := some 94) (v := ?_) (a' := ?_) tf31_7ffff800 rfl rfl (any_of HT_.out (by kernel_rfl)) (fun _ _ _ h => h) (Or.inl ⟨by rfl, ?_⟩) ?_ ?_
        rotate_left
        ·intro w'
         go_simp
         with_reducible rfl
        rotate_left
        ·simp only [Act.put, sA, sZ, sS, i64_w, i32_w]
         rfl
        refine pure_ (i := 20) (N := some 95) (v := ?_) (a' := ?_) tf31_7ffffc00 rfl rfl (any_of HT_.out (by kernel_rfl)) (fun _ _ _ h => h) (Or.inl ⟨by rfl, ?_⟩) ?_ ?_
        rotate_left
        ·intro w'
         go_simp
         with_reducible rfl
        rotate_left
        ·simp only [Act.put, sA, sZ, sS, i64_w, i32_w]
         rfl
        refine pure_ (i := 21) (N := some 96) (v := ?_) (a' := ?_) tf31_7ffffe00 rfl rfl (any_of HT_.out (by kernel_rfl)) (fun _ _ _ h => h) (Or.inl ⟨by rfl, ?_⟩) ?_ ?_
        rotate_left
        ·intro w'
         go_simp
         with_reducible rfl
        rotate_left
        ·simp only [Act.put, sA, sZ, sS, i64_w, i32_w]
         rfl
        refine take_ (i := 22) (N := some 97) (v := ?_) (a' := ?_) tf31_7fffff00 rfl rfl (take_ofW HT_.out HW_.out (by kernel_rfl)) (fun _ _ _ h => h) (Or.inl ⟨by rfl, ?_⟩) hHeld ?_ ?_
        rotate_left
        ·rintro w' ⟨s0, s1, s2, s3, s4, s5, s6, s7⟩
         go_simp
         with_reducible rfl
        rotate_left
        ·simp only [Act.put, sA, sZ, sS, i64_w, i32_w]
         rfl
        refine take_ (i := 23) (N := some 98) (v := ?_) (a' := ?_) tf31_7fffff80 rfl rfl (take_ofW HT_.out HW_.out (by kernel_rfl)) (fun _ _ _ h => h) (Or.inl ⟨by rfl, ?_⟩) hHeld ?_ ?_
        rotate_left
        ·rintro w' ⟨s0, s1, s2, s3, s4, s5, s6, s7⟩
         go_simp
         with_reducible rfl
        rotate_left
        ·simp only [Act.put, sA, sZ, sS, i64_w, i32_w]
         rfl
        refine take_ (i := 25) (N := some 100) (v := ?_) (a' := ?_) tf31_7fffffa0 rfl rfl (take_ofW HT_.out HW_.out (by kernel_rfl)) (fun _ _ _ h => h) (Or.inl ⟨by rfl, ?_⟩) hHeld ?_ ?_
        rotate_left
        ·rintro w' ⟨s0, s1, s2, s3, s4, s5, s6, s7⟩
         go_simp
         with_reducible rfl
        rotate_left
        ·simp only [Act.put, sA, sZ, sS, i64_w, i32_w]
         rfl
        refine take_ (i := 26) (N := some 101) (v := ?_) (a' := ?_) tf31_7fffffb0 rfl rfl (take_ofW HT_.out HW_.out (by kernel_rfl)) (fun _ _ _ h => h) (Or.inl ⟨by rfl, ?_⟩) hHeld ?_ ?_
        rotate_left
        ·rintro w' ⟨s0, s1, s2, s3, s4, s5, s6, s7⟩
         go_simp
         with_reducible rfl
        rotate_left
        ·simp only [Act.put, sA, sZ, sS, i64_w, i32_w]
         rfl
        refine one_ (i := 24) (N := some 99) tf31_7ffffff0 rfl rfl (one_of HT_.out (by kernel_rfl)) (by decide) (fun K hK => ?_)
        refine goes_ Try.func22 (by kernel_rfl) rfl #[.agg #[.int .i64 a0_0, .int .i64 a0_1], .agg #[.int .i64 a0_4, .int .i64 a0_5]] (by rfl) rfl rfl (by (try simp only [List.map_toArray, List.map_cons, List.map_nil]); first | done | rfl | (simp only [List.length_drop, List.length_take]; rfl)) ?_
        with_reducible refine (span_Holds.calls a0_0 a0_1 a0_4 a0_5 t194 _ A106.out).mono ?_
        rintro e w111 ⟨rfl, hb⟩
        refine ⟨_, rfl, ?_⟩
        have n0_ := Aside0.mk (blk_below (sp BK173.out) hb)
        have n1_ := Aside0.mk (blk_below (sp BK174.out) hb)
        have n2_ := Aside0.mk (blk_below (sp BK175.out) hb)
        have n3_ := Aside0.mk (blk_below (sp BK176.out) hb)
        have n4_ := Aside0.mk (blk_below (sp BK181.out) hb)
        have n5_ := Aside0.mk (blk_below (sp BK189.out) hb)
        have n6_ := Aside0.mk (below_step (by repeat (first | (with_reducible first | exact HB.out | apply bA | apply bD | apply bW | refine bS ?_ GE173.out | refine bS ?_ GE174.out | refine bS ?_ GE175.out | refine bS ?_ GE176.out | refine bS ?_ GE181.out | refine bS ?_ GE189.out) | exact HB.out)) hb)
        clear BK173
        clear BK174
        clear BK175
        clear BK176
        clear BK181
        clear BK189
        clear HB
        have BK173 := n0_
        have BK174 := n1_
        have BK175 := n2_
        have BK176 := n3_
        have BK181 := n4_
        have BK189 := n5_
        have HB := n6_
        clear n0_ n1_ n2_ n3_ n4_ n5_ n6_
        (try clear hb)
        (try clear hb2)
        (try clear hk)
        (try clear hi)
        refine hK.out _ _ ⟨(blk_cell BK174.out 0).trans rfl, (blk_cell BK174.out 1).trans rfl, (blk_cell BK176.out 0).trans rfl, (blk_cell BK176.out 1).trans rfl, (blk_cell BK181.out 0).trans rfl, (blk_cell BK181.out 1).trans rfl, (blk_cell BK189.out 0).trans rfl, (blk_cell BK189.out 1).trans rfl⟩ (fun hHeld => ?_)
        clear hK K
        refine norm_ (a' := ?_) ?_ ?_
        rotate_left
        ·show Act.put _ (some 99) _ = _
         simp only [Act.put, sA, sZ, sS, i64_w, i32_w]
         rfl
        refine one_ (i := 27) (N := some 102) tf31_7ffffff8 rfl rfl (one_of HT_.out (by kernel_rfl)) (by decide) (fun K hK => ?_)
        refine goes_ Try.func22 (by kernel_rfl) rfl #[.agg #[.int .i64 t178, .int .i64 t179], .agg #[.int .i64 t186, .int .i64 t187]] (by rfl) rfl rfl (by (try simp only [List.map_toArray, List.map_cons, List.map_nil]); first | done | rfl | (simp only [List.length_drop, List.length_take]; rfl)) ?_
        with_reducible refine (span_Holds.calls t178 t179 t186 t187 t195 _ A107.out).mono ?_
        rintro e w112 ⟨rfl, hb⟩
        refine ⟨_, rfl, ?_⟩
        have n0_ := Aside0.mk (blk_below (sp BK173.out) hb)
        have n1_ := Aside0.mk (blk_below (sp BK174.out) hb)
        have n2_ := Aside0.mk (blk_below (sp BK175.out) hb)
        have n3_ := Aside0.mk (blk_below (sp BK176.out) hb)
        have n4_ := Aside0.mk (blk_below (sp BK181.out) hb)
        have n5_ := Aside0.mk (blk_below (sp BK189.out) hb)
        have n6_ := Aside0.mk (below_step (by repeat (first | (with_reducible first | exact HB.out | apply bA | apply bD | apply bW | refine bS ?_ GE173.out | refine bS ?_ GE174.out | refine bS ?_ GE175.out | refine bS ?_ GE176.out | refine bS ?_ GE181.out | refine bS ?_ GE189.out) | exact HB.out)) hb)
        clear BK173
        clear BK174
        clear BK175
        clear BK176
        clear BK181
        clear BK189
        clear HB
        have BK173 := n0_
        have BK174 := n1_
        have BK175 := n2_
        have BK176 := n3_
        have BK181 := n4_
        have BK189 := n5_
        have HB := n6_
        clear n0_ n1_ n2_ n3_ n4_ n5_ n6_
        (try clear hb)
        (try clear hb2)
        (try clear hk)
        (try clear hi)
        refine hK.out _ _ ⟨(blk_cell BK174.out 0).trans rfl, (blk_cell BK174.out 1).trans rfl, (blk_cell BK176.out 0).trans rfl, (blk_cell BK176.out 1).trans rfl, (blk_cell BK181.out 0).trans rfl, (blk_cell BK181.out 1).trans rfl, (blk_cell BK189.out 0).trans rfl, (blk_cell BK189.out 1).trans rfl⟩ (fun hHeld => ?_)
        clear hK K
        refine norm_ (a' := ?_) ?_ ?_
        rotate_left
        ·show Act.put _ (some 102) _ = _
         simp only [Act.put, sA, sZ, sS, i64_w, i32_w]
         rfl
        refine pure_ (i := 28) (N := some 103) (v := ?_) (a' := ?_) tf31_7ffffffc rfl rfl (any_of HT_.out (by kernel_rfl)) (fun _ _ _ h => h) (Or.inl ⟨by rfl, ?_⟩) ?_ ?_
        rotate_left
        ·intro w'
         go_simp
         with_reducible rfl
        rotate_left
        ·simp only [Act.put, sA, sZ, sS, i64_w, i32_w]
         rfl
        refine pure_ (i := 29) (N := some 104) (v := ?_) (a' := ?_) tf31_7ffffffe rfl rfl (any_of HT_.out (by kernel_rfl)) (fun _ _ _ h => h) (Or.inl ⟨by rfl, ?_⟩) ?_ ?_
        rotate_left
        ·intro w'
         go_simp
         with_reducible rfl
        rotate_left
        ·simp only [Act.put, sA, sZ, sS, i64_w, i32_w]
         rfl
        refine pure_ (i := 30) (N := some 105) (v := ?_) (a' := ?_) tf31_7fffffff rfl rfl (any_of HT_.out (by kernel_rfl)) (fun _ _ _ h => h) (Or.inl ⟨by rfl, ?_⟩) ?_ ?_
        rotate_left
        ·intro w'
         go_simp
         with_reducible rfl
        rotate_left
        ·simp only [Act.put, sA, sZ, sS, i64_w, i32_w]
         rfl
        refine done_ (done_of HT_.out (by kernel_rfl)) ?_
        try go_wp2
        go_meet
        case rel => exact ⟨_, ((t194 != t195)), (by first | rfl | (simp; done) | (simp [*]; done)), H', ⟨by have := HJ4.out; first | omega | exact Nat.le_refl _⟩, ⟨(sp BK173.out)⟩, ⟨(sp BK174.out)⟩, ⟨(sp BK175.out)⟩, ⟨(sp BK176.out)⟩, ⟨(sp BK181.out)⟩, ⟨(sp BK189.out)⟩, ⟨by repeat (first | (with_reducible first | exact HB.out | apply bA | apply bD | apply bW | refine bS ?_ GE173.out | refine bS ?_ GE174.out | refine bS ?_ GE175.out | refine bS ?_ GE176.out | refine bS ?_ GE181.out | refine bS ?_ GE189.out) | exact HB.out)⟩⟩
       ·rw [if_neg c105] at H
        have c105b0 : (t188 == 0) = false := beq_eq_false_iff_ne.mpr c105
        have c105b1 : (t188 != 0) = true := bne_iff_ne.mpr c105
        have H' := Aside0.mk H
        clear H
        try go_wp2
        have n0_ : Aside0 (((w72.setCell ⟨gb189, 0, none⟩ (.int .i64 t186)).setCell ⟨gb189, 1, none⟩ (.int .i64 t187)).heap[gb173]? = some (.cells #[.int .i64 a0_0, .int .i64 a0_1, .int .i64 a0_2, .int .i64 a0_3, .int .i64 a0_4, .int .i64 a0_5, .int .i64 a0_6] 40 (0, 0))) := ⟨(sp (blk_far (sp (blk_far (sp BK173.out) NB173_189.out _)) NB173_189.out _))⟩
        have n1_ : Aside0 (((w72.setCell ⟨gb189, 0, none⟩ (.int .i64 t186)).setCell ⟨gb189, 1, none⟩ (.int .i64 t187)).heap[gb174]? = some (.cells #[.int .i64 a0_0, .int .i64 a0_1] 23 (0, 0))) := ⟨(sp (blk_far (sp (blk_far (sp BK174.out) NB174_189.out _)) NB174_189.out _))⟩
        have n2_ : Aside0 (((w72.setCell ⟨gb189, 0, none⟩ (.int .i64 t186)).setCell ⟨gb189, 1, none⟩ (.int .i64 t187)).heap[gb175]? = some (.cells #[.int .i64 a0_2, .int .i64 a0_3] 23 (0, 0))) := ⟨(sp (blk_far (sp (blk_far (sp BK175.out) NB175_189.out _)) NB175_189.out _))⟩
        have n3_ : Aside0 (((w72.setCell ⟨gb189, 0, none⟩ (.int .i64 t186)).setCell ⟨gb189, 1, none⟩ (.int .i64 t187)).heap[gb176]? = some (.cells #[.int .i64 a0_4, .int .i64 a0_5] 23 (0, 0))) := ⟨(sp (blk_far (sp (blk_far (sp BK176.out) NB176_189.out _)) NB176_189.out _))⟩
        have n4_ : Aside0 (((w72.setCell ⟨gb189, 0, none⟩ (.int .i64 t186)).setCell ⟨gb189, 1, none⟩ (.int .i64 t187)).heap[gb181]? = some (.cells #[.int .i64 t178, .int .i64 t179] 23 (0, 0))) := ⟨(sp (blk_far (sp (blk_far (sp BK181.out) NB181_189.out _)) NB181_189.out _))⟩
        have n5_ : Aside0 (((w72.setCell ⟨gb189, 0, none⟩ (.int .i64 t186)).setCell ⟨gb189, 1, none⟩ (.int .i64 t187)).heap[gb189]? = some (.cells #[.int .i64 t186, .int .i64 t187] 23 (0, 0))) := ⟨by (with_reducible repeat first | apply dN | apply dW | apply dL); refine blk_put (cs := #[.int .i64 t186, .int .i64 0]) ?_ 1 _ rfl; (with_reducible repeat first | apply dN | apply dW | apply dL); refine blk_put (cs := #[.int .i64 0, .int .i64 0]) ?_ 0 _ rfl; exact sp BK189.out⟩
        have n6_ : Aside0 (Below w.heap.size w ((w72.setCell ⟨gb189, 0, none⟩ (.int .i64 t186)).setCell ⟨gb189, 1, none⟩ (.int .i64 t187))) := ⟨by repeat (first | (with_reducible first | exact HB.out | apply bA | apply bD | apply bW | refine bS ?_ GE173.out | refine bS ?_ GE174.out | refine bS ?_ GE175.out | refine bS ?_ GE176.out | refine bS ?_ GE181.out | refine bS ?_ GE189.out) | exact HB.out)⟩
        (try clear BK173)
        (try clear BK174)
        (try clear BK175)
        (try clear BK176)
        (try clear BK181)
        (try clear BK189)
        (try clear HB)
        generalize ((w72.setCell ⟨gb189, 0, none⟩ (.int .i64 t186)).setCell ⟨gb189, 1, none⟩ (.int .i64 t187)) = w113 at n0_ n1_ n2_ n3_ n4_ n5_ n6_ ⊢
        have BK173 := n0_
        have BK174 := n1_
        have BK175 := n2_
        have BK176 := n3_
        have BK181 := n4_
        have BK189 := n5_
        have HB := n6_
        clear n0_ n1_ n2_ n3_ n4_ n5_ n6_
        have n0_ := Aside0.mk (blk_drew BK173.out)
        have n1_ := Aside0.mk (blk_drew BK174.out)
        have n2_ := Aside0.mk (blk_drew BK175.out)
        have n3_ := Aside0.mk (blk_drew BK176.out)
        have n4_ := Aside0.mk (blk_drew BK181.out)
        have n5_ := Aside0.mk (blk_drew BK189.out)
        have n6_ := Aside0.mk (below_drew1 HB.out)
        clear BK173
        clear BK174
        clear BK175
        clear BK176
        clear BK181
        clear BK189
        clear HB
        have BK173 := n0_
        have BK174 := n1_
        have BK175 := n2_
        have BK176 := n3_
        have BK181 := n4_
        have BK189 := n5_
        have HB := n6_
        clear n0_ n1_ n2_ n3_ n4_ n5_ n6_
        refine start_ (n := 31) (S := fun w' => w'.cell? ⟨gb174, 0, none⟩ = some (.int .i64 a0_0) ∧ w'.cell? ⟨gb174, 1, none⟩ = some (.int .i64 a0_1) ∧ w'.cell? ⟨gb176, 0, none⟩ = some (.int .i64 a0_4) ∧ w'.cell? ⟨gb176, 1, none⟩ = some (.int .i64 a0_5)) (ds := []) tf31_0 (by kernel_rfl) rfl rfl ⟨(blk_cell BK174.out 0).trans rfl, (blk_cell BK174.out 1).trans rfl, (blk_cell BK176.out 0).trans rfl, (blk_cell BK176.out 1).trans rfl⟩ (fun hHeld => ?_); refine with_tabW spillwaylaw03_SpanTight.tab11 spillwaylaw03_SpanTight.bits11 (fun HT_ HW_ => ?_)
        generalize w113.drew = w114 at BK173 BK174 BK175 BK176 BK181 BK189 HB hHeld ⊢
        refine take_ (i := 0) (N := some 75) (v := ?_) (a' := ?_) tf31_40000000 rfl rfl (take_ofW HT_.out HW_.out (by kernel_rfl)) (fun _ _ _ h => h) (Or.inl ⟨by rfl, ?_⟩) hHeld ?_ ?_
        rotate_left
        ·rintro w' ⟨s0, s1, s2, s3⟩
         go_simp
         with_reducible rfl
        rotate_left
        ·simp only [Act.put, sA, sZ, sS, i64_w, i32_w]
         rfl
        refine take_ (i := 1) (N := some 76) (v := ?_) (a' := ?_) tf31_60000000 rfl rfl (take_ofW HT_.out HW_.out (by kernel_rfl)) (fun _ _ _ h => h) (Or.inl ⟨by rfl, ?_⟩) hHeld ?_ ?_
        rotate_left
        ·rintro w' ⟨s0, s1, s2, s3⟩
         go_simp
         with_reducible rfl
        rotate_left
        ·simp only [Act.put, sA, sZ, sS, i64_w, i32_w]
         rfl
        refine one_ (i := 2) (N := some 77) tf31_70000000 rfl rfl (one_of HT_.out (by kernel_rfl)) (by decide) (fun K hK => ?_)
        refine goes_ Try.func22 (by kernel_rfl) rfl #[.agg #[.int .i64 a0_0, .int .i64 a0_1], .agg #[.int .i64 a0_4, .int .i64 a0_5]] (by rfl) rfl rfl (by (try simp only [List.map_toArray, List.map_cons, List.map_nil]); first | done | rfl | (simp only [List.length_drop, List.length_take]; rfl)) ?_
        with_reducible refine (span_Holds.calls a0_0 a0_1 a0_4 a0_5 false _ A79.out).mono ?_
        rintro e w115 ⟨rfl, hb⟩
        refine ⟨_, rfl, ?_⟩
        have n0_ := Aside0.mk (blk_below (sp BK173.out) hb)
        have n1_ := Aside0.mk (blk_below (sp BK174.out) hb)
        have n2_ := Aside0.mk (blk_below (sp BK175.out) hb)
        have n3_ := Aside0.mk (blk_below (sp BK176.out) hb)
        have n4_ := Aside0.mk (blk_below (sp BK181.out) hb)
        have n5_ := Aside0.mk (blk_below (sp BK189.out) hb)
        have n6_ := Aside0.mk (below_step (by repeat (first | (with_reducible first | exact HB.out | apply bA | apply bD | apply bW | refine bS ?_ GE173.out | refine bS ?_ GE174.out | refine bS ?_ GE175.out | refine bS ?_ GE176.out | refine bS ?_ GE181.out | refine bS ?_ GE189.out) | exact HB.out)) hb)
        clear BK173
        clear BK174
        clear BK175
        clear BK176
        clear BK181
        clear BK189
        clear HB
        have BK173 := n0_
        have BK174 := n1_
        have BK175 := n2_
        have BK176 := n3_
        have BK181 := n4_
        have BK189 := n5_
        have HB := n6_
        clear n0_ n1_ n2_ n3_ n4_ n5_ n6_
        (try clear hb)
        (try clear hb2)
        (try clear hk)
        (try clear hi)
        refine hK.out _ _ ⟨(blk_cell BK174.out 0).trans rfl, (blk_cell BK174.out 1).trans rfl, (blk_cell BK176.out 0).trans rfl, (blk_cell BK176.out 1).trans rfl⟩ (fun hHeld => ?_)
        clear hK K
        refine norm_ (a' := ?_) ?_ ?_
        rotate_left
        ·show Act.put _ (some 77) _ = _
         simp only [Act.put, sA, sZ, sS, i64_w, i32_w]
         rfl
        refine pure_ (i := 3) (N := some 78) (v := ?_) (a' := ?_) tf31_78000000 rfl rfl (any_of HT_.out (by kernel_rfl)) (fun _ _ _ h => h) (Or.inl ⟨by rfl, ?_⟩) ?_ ?_
        rotate_left
        ·intro w'
         go_simp
         with_reducible rfl
        rotate_left
        ·simp only [Act.put, sA, sZ, sS, i64_w, i32_w]
         rfl
        refine pure_ (i := 4) (N := some 79) (v := undef) (a' := ?_) tf31_7c000000 rfl rfl (any_of HT_.out (by kernel_rfl)) (fun _ _ _ h => h) (Or.inr ⟨by rfl, rfl⟩) ?_ ?_
        rotate_left
        ·simp only [Act.put, sA, sZ, sS, i64_w, i32_w]
         rfl
        refine pure_ (i := 5) (N := some 80) (v := undef) (a' := ?_) tf31_7e000000 rfl rfl (any_of HT_.out (by kernel_rfl)) (fun _ _ _ h => h) (Or.inr ⟨by rfl, rfl⟩) ?_ ?_
        rotate_left
        ·simp only [Act.put, sA, sZ, sS, i64_w, i32_w]
         rfl
        refine pure_ (i := 6) (N := some 81) (v := ?_) (a' := ?_) tf31_7f000000 rfl rfl (any_of HT_.out (by kernel_rfl)) (fun _ _ _ h => h) (Or.inl ⟨by rfl, ?_⟩) ?_ ?_
        rotate_left
        ·intro w'
         go_simp
         with_reducible rfl
        rotate_left
        ·simp only [Act.put, sA, sZ, sS, i64_w, i32_w]
         rfl
        refine pure_ (i := 7) (N := some 82) (v := ?_) (a' := ?_) tf31_7f800000 rfl rfl (any_of HT_.out (by kernel_rfl)) (fun _ _ _ h => h) (Or.inl ⟨by rfl, ?_⟩) ?_ ?_
        rotate_left
        ·intro w'
         go_simp
         with_reducible rfl
        rotate_left
        ·simp only [Act.put, sA, sZ, sS, i64_w, i32_w]
         rfl
        refine pure_ (i := 8) (N := some 83) (v := undef) (a' := ?_) tf31_7fc00000 rfl rfl (any_of HT_.out (by kernel_rfl)) (fun _ _ _ h => h) (Or.inr ⟨by rfl, rfl⟩) ?_ ?_
        rotate_left
        ·simp only [Act.put, sA, sZ, sS, i64_w, i32_w]
         rfl
        refine pure_ (i := 9) (N := some 84) (v := undef) (a' := ?_) tf31_7fe00000 rfl rfl (any_of HT_.out (by kernel_rfl)) (fun _ _ _ h => h) (Or.inr ⟨by rfl, rfl⟩) ?_ ?_
        rotate_left
        ·simp only [Act.put, sA, sZ, sS, i64_w, i32_w]
         rfl
        refine pure_ (i := 10) (N := some 85) (v := undef) (a' := ?_) tf31_7ff00000 rfl rfl (any_of HT_.out (by kernel_rfl)) (fun _ _ _ h => h) (Or.inr ⟨by rfl, rfl⟩) ?_ ?_
        rotate_left
        ·simp only [Act.put, sA, sZ, sS, i64_w, i32_w]
         rfl
        refine pure_ (i := 11) (N := some 86) (v := undef) (a' := ?_) tf31_7ff80000 rfl rfl (any_of HT_.out (by kernel_rfl)) (fun _ _ _ h => h) (Or.inr ⟨by rfl, rfl⟩) ?_ ?_
        rotate_left
        ·simp only [Act.put, sA, sZ, sS, i64_w, i32_w]
         rfl
        refine pure_ (i := 12) (N := some 87) (v := undef) (a' := ?_) tf31_7ffc0000 rfl rfl (any_of HT_.out (by kernel_rfl)) (fun _ _ _ h => h) (Or.inr ⟨by rfl, rfl⟩) ?_ ?_
        rotate_left
        ·simp only [Act.put, sA, sZ, sS, i64_w, i32_w]
         rfl
        refine pure_ (i := 13) (N := some 88) (v := ?_) (a' := ?_) tf31_7ffe0000 rfl rfl (any_of HT_.out (by kernel_rfl)) (fun _ _ _ h => h) (Or.inl ⟨by rfl, ?_⟩) ?_ ?_
        rotate_left
        ·intro w'
         go_simp
         with_reducible rfl
        rotate_left
        ·simp only [Act.put, sA, sZ, sS, i64_w, i32_w]
         rfl
        refine pure_ (i := 14) (N := some 89) (v := ?_) (a' := ?_) tf31_7fff0000 rfl rfl (any_of HT_.out (by kernel_rfl)) (fun _ _ _ h => h) (Or.inl ⟨by rfl, ?_⟩) ?_ ?_
        rotate_left
        ·intro w'
         go_simp
         with_reducible rfl
        rotate_left
        ·simp only [Act.put, sA, sZ, sS, i64_w, i32_w]
         rfl
        refine pure_ (i := 15) (N := some 90) (v := ?_) (a' := ?_) tf31_7fff8000 rfl rfl (any_of HT_.out (by kernel_rfl)) (fun _ _ _ h => h) (Or.inl ⟨by rfl, ?_⟩) ?_ ?_
        rotate_left
        ·intro w'
         go_simp
         with_reducible rfl
        rotate_left
        ·simp only [Act.put, sA, sZ, sS, i64_w, i32_w]
         rfl
        refine pure_ (i := 16) (N := some 91) (v := ?_) (a' := ?_) tf31_7fffc000 rfl rfl (any_of HT_.out (by kernel_rfl)) (fun _ _ _ h => h) (Or.inl ⟨by rfl, ?_⟩) ?_ ?_
        rotate_left
        ·intro w'
         go_simp
         with_reducible rfl
        rotate_left
        ·simp only [Act.put, sA, sZ, sS, i64_w, i32_w]
         rfl
        refine pure_ (i := 17) (N := some 92) (v := ?_) (a' := ?_) tf31_7fffe000 rfl rfl (any_of HT_.out (by kernel_rfl)) (fun _ _ _ h => h) (Or.inl ⟨by rfl, ?_⟩) ?_ ?_
        rotate_left
        ·intro w'
         go_simp
         with_reducible rfl
        rotate_left
        ·simp only [Act.put, sA, sZ, sS, i64_w, i32_w]
         rfl
        refine pure_ (i := 18) (N := some 93) (v := ?_) (a' := ?_) tf31_7ffff000 rfl rfl (any_of HT_.out (by kernel_rfl)) (fun _ _ _ h => h) (Or.inl ⟨by rfl, ?_⟩) ?_ ?_
        rotate_left
        ·intro w'
         go_simp
         with_reducible rfl
        rotate_left
        ·simp only [Act.put, sA, sZ, sS, i64_w, i32_w]
         rfl
        refine pure_ (i := 19) (N := some 94) (v := ?_) (a' := ?_) tf31_7ffff800 rfl rfl (any_of HT_.out (by kernel_rfl)) (fun _ _ _ h => h) (Or.inl ⟨by rfl, ?_⟩) ?_ ?_
        rotate_left
        ·intro w'
         go_simp
         with_reducible rfl
        rotate_left
        ·simp only [Act.put, sA, sZ, sS, i64_w, i32_w]
         rfl
        refine pure_ (i := 20) (N := some 95) (v := ?_) (a' := ?_) tf31_7ffffc00 rfl rfl (any_of HT_.out (by kernel_rfl)) (fun _ _ _ h => h) (Or.inl ⟨by rfl, ?_⟩) ?_ ?_
        rotate_left
        ·intro w'
         go_simp
         with_reducible rfl
        rotate_left
        ·simp only [Act.put, sA, sZ, sS, i64_w, i32_w]
         rfl
        refine pure_ (i := 21) (N := some 96) (v := ?_) (a' := ?_) tf31_7ffffe00 rfl rfl (any_of HT_.out (by kernel_rfl)) (fun _ _ _ h => h) (Or.inl ⟨by rfl, ?_⟩) ?_ ?_
        rotate_left
        ·intro w'
         go_simp
         with_reducible rfl
        rotate_left
        ·simp only [Act.put, sA, sZ, sS, i64_w, i32_w]
         rfl
        refine pure_ (i := 22) (N := some 97) (v := undef) (a' := ?_) tf31_7fffff00 rfl rfl (any_of HT_.out (by kernel_rfl)) (fun _ _ _ h => h) (Or.inr ⟨by rfl, rfl⟩) ?_ ?_
        rotate_left
        ·simp only [Act.put, sA, sZ, sS, i64_w, i32_w]
         rfl
        refine pure_ (i := 23) (N := some 98) (v := undef) (a' := ?_) tf31_7fffff80 rfl rfl (any_of HT_.out (by kernel_rfl)) (fun _ _ _ h => h) (Or.inr ⟨by rfl, rfl⟩) ?_ ?_
        rotate_left
        ·simp only [Act.put, sA, sZ, sS, i64_w, i32_w]
         rfl
        refine pure_ (i := 24) (N := some 99) (v := undef) (a' := ?_) tf31_7fffffc0 rfl rfl (any_of HT_.out (by kernel_rfl)) (fun _ _ _ h => h) (Or.inr ⟨by rfl, rfl⟩) ?_ ?_
        rotate_left
        ·simp only [Act.put, sA, sZ, sS, i64_w, i32_w]
         rfl
        refine pure_ (i := 25) (N := some 100) (v := undef) (a' := ?_) tf31_7fffffe0 rfl rfl (any_of HT_.out (by kernel_rfl)) (fun _ _ _ h => h) (Or.inr ⟨by rfl, rfl⟩) ?_ ?_
        rotate_left
        ·simp only [Act.put, sA, sZ, sS, i64_w, i32_w]
         rfl
        refine pure_ (i := 26) (N := some 101) (v := undef) (a' := ?_) tf31_7ffffff0 rfl rfl (any_of HT_.out (by kernel_rfl)) (fun _ _ _ h => h) (Or.inr ⟨by rfl, rfl⟩) ?_ ?_
        rotate_left
        ·simp only [Act.put, sA, sZ, sS, i64_w, i32_w]
         rfl
        refine pure_ (i := 27) (N := some 102) (v := undef) (a' := ?_) tf31_7ffffff8 rfl rfl (any_of HT_.out (by kernel_rfl)) (fun _ _ _ h => h) (Or.inr ⟨by rfl, rfl⟩) ?_ ?_
        rotate_left
        ·simp only [Act.put, sA, sZ, sS, i64_w, i32_w]
         rfl
        refine pure_ (i := 28) (N := some 103) (v := undef) (a' := ?_) tf31_7ffffffc rfl rfl (any_of HT_.out (by kernel_rfl)) (fun _ _ _ h => h) (Or.inr ⟨by rfl, rfl⟩) ?_ ?_
        rotate_left
        ·simp only [Act.put, sA, sZ, sS, i64_w, i32_w]
         rfl
        refine pure_ (i := 29) (N := some 104) (v := ?_) (a' := ?_) tf31_7ffffffe rfl rfl (any_of HT_.out (by kernel_rfl)) (fun _ _ _ h => h) (Or.inl ⟨by rfl, ?_⟩) ?_ ?_
        rotate_left
        ·intro w'
         go_simp
         with_reducible rfl
        rotate_left
        ·simp only [Act.put, sA, sZ, sS, i64_w, i32_w]
         rfl
        refine pure_ (i := 30) (N := some 105) (v := ?_) (a' := ?_) tf31_7fffffff rfl rfl (any_of HT_.out (by kernel_rfl)) (fun _ _ _ h => h) (Or.inl ⟨by rfl, ?_⟩) ?_ ?_
        rotate_left
        ·intro w'
         go_simp
         with_reducible rfl
        rotate_left
        ·simp only [Act.put, sA, sZ, sS, i64_w, i32_w]
         rfl
        refine done_ (done_of HT_.out (by kernel_rfl)) ?_
        try go_wp2
        go_meet
        case rel => exact ⟨_, (false), (by first | rfl | (simp; done) | (simp [*]; done)), H', ⟨by have := HJ4.out; first | omega | exact Nat.le_refl _⟩, ⟨(sp BK173.out)⟩, ⟨(sp BK174.out)⟩, ⟨(sp BK175.out)⟩, ⟨(sp BK176.out)⟩, ⟨(sp BK181.out)⟩, ⟨(sp BK189.out)⟩, ⟨by repeat (first | (with_reducible first | exact HB.out | apply bA | apply bD | apply bW | refine bS ?_ GE173.out | refine bS ?_ GE174.out | refine bS ?_ GE175.out | refine bS ?_ GE176.out | refine bS ?_ GE181.out | refine bS ?_ GE189.out) | exact HB.out)⟩⟩
      ·rw [if_neg c104] at H
       have c104b0 : (t180 == 0) = false := beq_eq_false_iff_ne.mpr c104
       have c104b1 : (t180 != 0) = true := bne_iff_ne.mpr c104
       have H' := Aside0.mk H
       clear H
       try go_wp2
       have n0_ : Aside0 (((w72.setCell ⟨gb189, 0, none⟩ (.int .i64 t186)).setCell ⟨gb189, 1, none⟩ (.int .i64 t187)).heap[gb173]? = some (.cells #[.int .i64 a0_0, .int .i64 a0_1, .int .i64 a0_2, .int .i64 a0_3, .int .i64 a0_4, .int .i64 a0_5, .int .i64 a0_6] 40 (0, 0))) := ⟨(sp (blk_far (sp (blk_far (sp BK173.out) NB173_189.out _)) NB173_189.out _))⟩
       have n1_ : Aside0 (((w72.setCell ⟨gb189, 0, none⟩ (.int .i64 t186)).setCell ⟨gb189, 1, none⟩ (.int .i64 t187)).heap[gb174]? = some (.cells #[.int .i64 a0_0, .int .i64 a0_1] 23 (0, 0))) := ⟨(sp (blk_far (sp (blk_far (sp BK174.out) NB174_189.out _)) NB174_189.out _))⟩
       have n2_ : Aside0 (((w72.setCell ⟨gb189, 0, none⟩ (.int .i64 t186)).setCell ⟨gb189, 1, none⟩ (.int .i64 t187)).heap[gb175]? = some (.cells #[.int .i64 a0_2, .int .i64 a0_3] 23 (0, 0))) := ⟨(sp (blk_far (sp (blk_far (sp BK175.out) NB175_189.out _)) NB175_189.out _))⟩
       have n3_ : Aside0 (((w72.setCell ⟨gb189, 0, none⟩ (.int .i64 t186)).setCell ⟨gb189, 1, none⟩ (.int .i64 t187)).heap[gb176]? = some (.cells #[.int .i64 a0_4, .int .i64 a0_5] 23 (0, 0))) := ⟨(sp (blk_far (sp (blk_far (sp BK176.out) NB176_189.out _)) NB176_189.out _))⟩
       have n4_ : Aside0 (((w72.setCell ⟨gb189, 0, none⟩ (.int .i64 t186)).setCell ⟨gb189, 1, none⟩ (.int .i64 t187)).heap[gb181]? = some (.cells #[.int .i64 t178, .int .i64 t179] 23 (0, 0))) := ⟨(sp (blk_far (sp (blk_far (sp BK181.out) NB181_189.out _)) NB181_189.out _))⟩
       have n5_ : Aside0 (((w72.setCell ⟨gb189, 0, none⟩ (.int .i64 t186)).setCell ⟨gb189, 1, none⟩ (.int .i64 t187)).heap[gb189]? = some (.cells #[.int .i64 t186, .int .i64 t187] 23 (0, 0))) := ⟨by (with_reducible repeat first | apply dN | apply dW | apply dL); refine blk_put (cs := #[.int .i64 t186, .int .i64 0]) ?_ 1 _ rfl; (with_reducible repeat first | apply dN | apply dW | apply dL); refine blk_put (cs := #[.int .i64 0, .int .i64 0]) ?_ 0 _ rfl; exact sp BK189.out⟩
       have n6_ : Aside0 (Below w.heap.size w ((w72.setCell ⟨gb189, 0, none⟩ (.int .i64 t186)).setCell ⟨gb189, 1, none⟩ (.int .i64 t187))) := ⟨by repeat (first | (with_reducible first | exact HB.out | apply bA | apply bD | apply bW | refine bS ?_ GE173.out | refine bS ?_ GE174.out | refine bS ?_ GE175.out | refine bS ?_ GE176.out | refine bS ?_ GE181.out | refine bS ?_ GE189.out) | exact HB.out)⟩
       (try clear BK173)
       (try clear BK174)
       (try clear BK175)
       (try clear BK176)
       (try clear BK181)
       (try clear BK189)
       (try clear HB)
       generalize ((w72.setCell ⟨gb189, 0, none⟩ (.int .i64 t186)).setCell ⟨gb189, 1, none⟩ (.int .i64 t187)) = w116 at n0_ n1_ n2_ n3_ n4_ n5_ n6_ ⊢
       have BK173 := n0_
       have BK174 := n1_
       have BK175 := n2_
       have BK176 := n3_
       have BK181 := n4_
       have BK189 := n5_
       have HB := n6_
       clear n0_ n1_ n2_ n3_ n4_ n5_ n6_
       have n0_ := Aside0.mk (blk_drew BK173.out)
       have n1_ := Aside0.mk (blk_drew BK174.out)
       have n2_ := Aside0.mk (blk_drew BK175.out)
       have n3_ := Aside0.mk (blk_drew BK176.out)
       have n4_ := Aside0.mk (blk_drew BK181.out)
       have n5_ := Aside0.mk (blk_drew BK189.out)
       have n6_ := Aside0.mk (below_drew1 HB.out)
       clear BK173
       clear BK174
       clear BK175
       clear BK176
       clear BK181
       clear BK189
       clear HB
       have BK173 := n0_
       have BK174 := n1_
       have BK175 := n2_
       have BK176 := n3_
       have BK181 := n4_
       have BK189 := n5_
       have HB := n6_
       clear n0_ n1_ n2_ n3_ n4_ n5_ n6_
       refine start_ (n := 31) (S := fun w' => w'.cell? ⟨gb174, 0, none⟩ = some (.int .i64 a0_0) ∧ w'.cell? ⟨gb174, 1, none⟩ = some (.int .i64 a0_1) ∧ w'.cell? ⟨gb176, 0, none⟩ = some (.int .i64 a0_4) ∧ w'.cell? ⟨gb176, 1, none⟩ = some (.int .i64 a0_5)) (ds := []) tf31_0 (by kernel_rfl) rfl rfl ⟨(blk_cell BK174.out 0).trans rfl, (blk_cell BK174.out 1).trans rfl, (blk_cell BK176.out 0).trans rfl, (blk_cell BK176.out 1).trans rfl⟩ (fun hHeld => ?_); refine with_tabW spillwaylaw03_SpanTight.tab11 spillwaylaw03_SpanTight.bits11 (fun HT_ HW_ => ?_)
       generalize w116.drew = w117 at BK173 BK174 BK175 BK176 BK181 BK189 HB hHeld ⊢
       refine take_ (i := 0) (N := some 75) (v := ?_) (a' := ?_) tf31_40000000 rfl rfl (take_ofW HT_.out HW_.out (by kernel_rfl)) (fun _ _ _ h => h) (Or.inl ⟨by rfl, ?_⟩) hHeld ?_ ?_
       rotate_left
       ·rintro w' ⟨s0, s1, s2, s3⟩
        go_simp
        with_reducible rfl
       rotate_left
       ·simp only [Act.put, sA, sZ, sS, i64_w, i32_w]
        rfl
       refine take_ (i := 1) (N := some 76) (v := ?_) (a' := ?_) tf31_60000000 rfl rfl (take_ofW HT_.out HW_.out (by kernel_rfl)) (fun _ _ _ h => h) (Or.inl ⟨by rfl, ?_⟩) hHeld ?_ ?_
       rotate_left
       ·rintro w' ⟨s0, s1, s2, s3⟩
        go_simp
        with_reducible rfl
       rotate_left
       ·simp only [Act.put, sA, sZ, sS, i64_w, i32_w]
        rfl
       refine one_ (i := 2) (N := some 77) tf31_70000000 rfl rfl (one_of HT_.out (by kernel_rfl)) (by decide) (fun K hK => ?_)
       refine goes_ Try.func22 (by kernel_rfl) rfl #[.agg #[.int .i64 a0_0, .int .i64 a0_1], .agg #[.int .i64 a0_4, .int .i64 a0_5]] (by rfl) rfl rfl (by (try simp only [List.map_toArray, List.map_cons, List.map_nil]); first | done | rfl | (simp only [List.length_drop, List.length_take]; rfl)) ?_
       with_reducible refine (span_Holds.calls a0_0 a0_1 a0_4 a0_5 false _ A79.out).mono ?_
       rintro e w118 ⟨rfl, hb⟩
       refine ⟨_, rfl, ?_⟩
       have n0_ := Aside0.mk (blk_below (sp BK173.out) hb)
       have n1_ := Aside0.mk (blk_below (sp BK174.out) hb)
       have n2_ := Aside0.mk (blk_below (sp BK175.out) hb)
       have n3_ := Aside0.mk (blk_below (sp BK176.out) hb)
       have n4_ := Aside0.mk (blk_below (sp BK181.out) hb)
       have n5_ := Aside0.mk (blk_below (sp BK189.out) hb)
       have n6_ := Aside0.mk (below_step (by repeat (first | (with_reducible first | exact HB.out | apply bA | apply bD | apply bW | refine bS ?_ GE173.out | refine bS ?_ GE174.out | refine bS ?_ GE175.out | refine bS ?_ GE176.out | refine bS ?_ GE181.out | refine bS ?_ GE189.out) | exact HB.out)) hb)
       clear BK173
       clear BK174
       clear BK175
       clear BK176
       clear BK181
       clear BK189
       clear HB
       have BK173 := n0_
       have BK174 := n1_
       have BK175 := n2_
       have BK176 := n3_
       have BK181 := n4_
       have BK189 := n5_
       have HB := n6_
       clear n0_ n1_ n2_ n3_ n4_ n5_ n6_
       (try clear hb)
       (try clear hb2)
       (try clear hk)
       (try clear hi)
       refine hK.out _ _ ⟨(blk_cell BK174.out 0).trans rfl, (blk_cell BK174.out 1).trans rfl, (blk_cell BK176.out 0).trans rfl, (blk_cell BK176.out 1).trans rfl⟩ (fun hHeld => ?_)
       clear hK K
       refine norm_ (a' := ?_) ?_ ?_
       rotate_left
       ·show Act.put _ (some 77) _ = _
        simp only [Act.put, sA, sZ, sS, i64_w, i32_w]
        rfl
       refine pure_ (i := 3) (N := some 78) (v := ?_) (a' := ?_) tf31_78000000 rfl rfl (any_of HT_.out (by kernel_rfl)) (fun _ _ _ h => h) (Or.inl ⟨by rfl, ?_⟩) ?_ ?_
       rotate_left
       ·intro w'
        go_simp
        with_reducible rfl
       rotate_left
       ·simp only [Act.put, sA, sZ, sS, i64_w, i32_w]
        rfl
       refine pure_ (i := 4) (N := some 79) (v := undef) (a' := ?_) tf31_7c000000 rfl rfl (any_of HT_.out (by kernel_rfl)) (fun _ _ _ h => h) (Or.inr ⟨by rfl, rfl⟩) ?_ ?_
       rotate_left
       ·simp only [Act.put, sA, sZ, sS, i64_w, i32_w]
        rfl
       refine pure_ (i := 5) (N := some 80) (v := undef) (a' := ?_) tf31_7e000000 rfl rfl (any_of HT_.out (by kernel_rfl)) (fun _ _ _ h => h) (Or.inr ⟨by rfl, rfl⟩) ?_ ?_
       rotate_left
       ·simp only [Act.put, sA, sZ, sS, i64_w, i32_w]
        rfl
       refine pure_ (i := 6) (N := some 81) (v := ?_) (a' := ?_) tf31_7f000000 rfl rfl (any_of HT_.out (by kernel_rfl)) (fun _ _ _ h => h) (Or.inl ⟨by rfl, ?_⟩) ?_ ?_
       rotate_left
       ·intro w'
        go_simp
        with_reducible rfl
       rotate_left
       ·simp only [Act.put, sA, sZ, sS, i64_w, i32_w]
        rfl
       refine pure_ (i := 7) (N := some 82) (v := ?_) (a' := ?_) tf31_7f800000 rfl rfl (any_of HT_.out (by kernel_rfl)) (fun _ _ _ h => h) (Or.inl ⟨by rfl, ?_⟩) ?_ ?_
       rotate_left
       ·intro w'
        go_simp
        with_reducible rfl
       rotate_left
       ·simp only [Act.put, sA, sZ, sS, i64_w, i32_w]
        rfl
       refine pure_ (i := 8) (N := some 83) (v := undef) (a' := ?_) tf31_7fc00000 rfl rfl (any_of HT_.out (by kernel_rfl)) (fun _ _ _ h => h) (Or.inr ⟨by rfl, rfl⟩) ?_ ?_
       rotate_left
       ·simp only [Act.put, sA, sZ, sS, i64_w, i32_w]
        rfl
       refine pure_ (i := 9) (N := some 84) (v := undef) (a' := ?_) tf31_7fe00000 rfl rfl (any_of HT_.out (by kernel_rfl)) (fun _ _ _ h => h) (Or.inr ⟨by rfl, rfl⟩) ?_ ?_
       rotate_left
       ·simp only [Act.put, sA, sZ, sS, i64_w, i32_w]
        rfl
       refine pure_ (i := 10) (N := some 85) (v := undef) (a' := ?_) tf31_7ff00000 rfl rfl (any_of HT_.out (by kernel_rfl)) (fun _ _ _ h => h) (Or.inr ⟨by rfl, rfl⟩) ?_ ?_
       rotate_left
       ·simp only [Act.put, sA, sZ, sS, i64_w, i32_w]
        rfl
       refine pure_ (i := 11) (N := some 86) (v := undef) (a' := ?_) tf31_7ff80000 rfl rfl (any_of HT_.out (by kernel_rfl)) (fun _ _ _ h => h) (Or.inr ⟨by rfl, rfl⟩) ?_ ?_
       rotate_left
       ·simp only [Act.put, sA, sZ, sS, i64_w, i32_w]
        rfl
       refine pure_ (i := 12) (N := some 87) (v := undef) (a' := ?_) tf31_7ffc0000 rfl rfl (any_of HT_.out (by kernel_rfl)) (fun _ _ _ h => h) (Or.inr ⟨by rfl, rfl⟩) ?_ ?_
       rotate_left
       ·simp only [Act.put, sA, sZ, sS, i64_w, i32_w]
        rfl
       refine pure_ (i := 13) (N := some 88) (v := ?_) (a' := ?_) tf31_7ffe0000 rfl rfl (any_of HT_.out (by kernel_rfl)) (fun _ _ _ h => h) (Or.inl ⟨by rfl, ?_⟩) ?_ ?_
       rotate_left
       ·intro w'
        go_simp
        with_reducible rfl
       rotate_left
       ·simp only [Act.put, sA, sZ, sS, i64_w, i32_w]
        rfl
       refine pure_ (i := 14) (N := some 89) (v := ?_) (a' := ?_) tf31_7fff0000 rfl rfl (any_of HT_.out (by kernel_rfl)) (fun _ _ _ h => h) (Or.inl ⟨by rfl, ?_⟩) ?_ ?_
       rotate_left
       ·intro w'
        go_simp
        with_reducible rfl
       rotate_left
       ·simp only [Act.put, sA, sZ, sS, i64_w, i32_w]
        rfl
       refine pure_ (i := 15) (N := some 90) (v := ?_) (a' := ?_) tf31_7fff8000 rfl rfl (any_of HT_.out (by kernel_rfl)) (fun _ _ _ h => h) (Or.inl ⟨by rfl, ?_⟩) ?_ ?_
       rotate_left
       ·intro w'
        go_simp
        with_reducible rfl
       rotate_left
       ·simp only [Act.put, sA, sZ, sS, i64_w, i32_w]
        rfl
       refine pure_ (i := 16) (N := some 91) (v := ?_) (a' := ?_) tf31_7fffc000 rfl rfl (any_of HT_.out (by kernel_rfl)) (fun _ _ _ h => h) (Or.inl ⟨by rfl, ?_⟩) ?_ ?_
       rotate_left
       ·intro w'
        go_simp
        with_reducible rfl
       rotate_left
       ·simp only [Act.put, sA, sZ, sS, i64_w, i32_w]
        rfl
       refine pure_ (i := 17) (N := some 92) (v := ?_) (a' := ?_) tf31_7fffe000 rfl rfl (any_of HT_.out (by kernel_rfl)) (fun _ _ _ h => h) (Or.inl ⟨by rfl, ?_⟩) ?_ ?_
       rotate_left
       ·intro w'
        go_simp
        with_reducible rfl
       rotate_left
       ·simp only [Act.put, sA, sZ, sS, i64_w, i32_w]
        rfl
       refine pure_ (i := 18) (N := some 93) (v := undef) (a' := ?_) tf31_7ffff000 rfl rfl (any_of HT_.out (by kernel_rfl)) (fun _ _ _ h => h) (Or.inr ⟨by rfl, rfl⟩) ?_ ?_
       rotate_left
       ·simp only [Act.put, sA, sZ, sS, i64_w, i32_w]
        rfl
       refine pure_ (i := 19) (N := some 94) (v := undef) (a' := ?_) tf31_7ffff800 rfl rfl (any_of HT_.out (by kernel_rfl)) (fun _ _ _ h => h) (Or.inr ⟨by rfl, rfl⟩) ?_ ?_
       rotate_left
       ·simp only [Act.put, sA, sZ, sS, i64_w, i32_w]
        rfl
       refine pure_ (i := 20) (N := some 95) (v := ?_) (a' := ?_) tf31_7ffffc00 rfl rfl (any_of HT_.out (by kernel_rfl)) (fun _ _ _ h => h) (Or.inl ⟨by rfl, ?_⟩) ?_ ?_
       rotate_left
       ·intro w'
        go_simp
        with_reducible rfl
       rotate_left
       ·simp only [Act.put, sA, sZ, sS, i64_w, i32_w]
        rfl
       refine pure_ (i := 21) (N := some 96) (v := ?_) (a' := ?_) tf31_7ffffe00 rfl rfl (any_of HT_.out (by kernel_rfl)) (fun _ _ _ h => h) (Or.inl ⟨by rfl, ?_⟩) ?_ ?_
       rotate_left
       ·intro w'
        go_simp
        with_reducible rfl
       rotate_left
       ·simp only [Act.put, sA, sZ, sS, i64_w, i32_w]
        rfl
       refine pure_ (i := 22) (N := some 97) (v := undef) (a' := ?_) tf31_7fffff00 rfl rfl (any_of HT_.out (by kernel_rfl)) (fun _ _ _ h => h) (Or.inr ⟨by rfl, rfl⟩) ?_ ?_
       rotate_left
       ·simp only [Act.put, sA, sZ, sS, i64_w, i32_w]
        rfl
       refine pure_ (i := 23) (N := some 98) (v := undef) (a' := ?_) tf31_7fffff80 rfl rfl (any_of HT_.out (by kernel_rfl)) (fun _ _ _ h => h) (Or.inr ⟨by rfl, rfl⟩) ?_ ?_
       rotate_left
       ·simp only [Act.put, sA, sZ, sS, i64_w, i32_w]
        rfl
       refine pure_ (i := 24) (N := some 99) (v := undef) (a' := ?_) tf31_7fffffc0 rfl rfl (any_of HT_.out (by kernel_rfl)) (fun _ _ _ h => h) (Or.inr ⟨by rfl, rfl⟩) ?_ ?_
       rotate_left
       ·simp only [Act.put, sA, sZ, sS, i64_w, i32_w]
        rfl
       refine pure_ (i := 25) (N := some 100) (v := undef) (a' := ?_) tf31_7fffffe0 rfl rfl (any_of HT_.out (by kernel_rfl)) (fun _ _ _ h => h) (Or.inr ⟨by rfl, rfl⟩) ?_ ?_
       rotate_left
       ·simp only [Act.put, sA, sZ, sS, i64_w, i32_w]
        rfl
       refine pure_ (i := 26) (N := some 101) (v := undef) (a' := ?_) tf31_7ffffff0 rfl rfl (any_of HT_.out (by kernel_rfl)) (fun _ _ _ h => h) (Or.inr ⟨by rfl, rfl⟩) ?_ ?_
       rotate_left
       ·simp only [Act.put, sA, sZ, sS, i64_w, i32_w]
        rfl
       refine pure_ (i := 27) (N := some 102) (v := undef) (a' := ?_) tf31_7ffffff8 rfl rfl (any_of HT_.out (by kernel_rfl)) (fun _ _ _ h => h) (Or.inr ⟨by rfl, rfl⟩) ?_ ?_
       rotate_left
       ·simp only [Act.put, sA, sZ, sS, i64_w, i32_w]
        rfl
       refine pure_ (i := 28) (N := some 103) (v := undef) (a' := ?_) tf31_7ffffffc rfl rfl (any_of HT_.out (by kernel_rfl)) (fun _ _ _ h => h) (Or.inr ⟨by rfl, rfl⟩) ?_ ?_
       rotate_left
       ·simp only [Act.put, sA, sZ, sS, i64_w, i32_w]
        rfl
       refine pure_ (i := 29) (N := some 104) (v := ?_) (a' := ?_) tf31_7ffffffe rfl rfl (any_of HT_.out (by kernel_rfl)) (fun _ _ _ h => h) (Or.inl ⟨by rfl, ?_⟩) ?_ ?_
       rotate_left
       ·intro w'
        go_simp
        with_reducible rfl
       rotate_left
       ·simp only [Act.put, sA, sZ, sS, i64_w, i32_w]
        rfl
       refine pure_ (i := 30) (N := some 105) (v := ?_) (a' := ?_) tf31_7fffffff rfl rfl (any_of HT_.out (by kernel_rfl)) (fun _ _ _ h => h) (Or.inl ⟨by rfl, ?_⟩) ?_ ?_
       rotate_left
       ·intro w'
        go_simp
        with_reducible rfl
       rotate_left
       ·simp only [Act.put, sA, sZ, sS, i64_w, i32_w]
        rfl
       refine done_ (done_of HT_.out (by kernel_rfl)) ?_
       try go_wp2
       go_meet
       case rel => exact ⟨_, (false), (by first | rfl | (simp; done) | (simp [*]; done)), H', ⟨by have := HJ4.out; first | omega | exact Nat.le_refl _⟩, ⟨(sp BK173.out)⟩, ⟨(sp BK174.out)⟩, ⟨(sp BK175.out)⟩, ⟨(sp BK176.out)⟩, ⟨(sp BK181.out)⟩, ⟨(sp BK189.out)⟩, ⟨by repeat (first | (with_reducible first | exact HB.out | apply bA | apply bD | apply bW | refine bS ?_ GE173.out | refine bS ?_ GE174.out | refine bS ?_ GE175.out | refine bS ?_ GE176.out | refine bS ?_ GE181.out | refine bS ?_ GE189.out) | exact HB.out)⟩⟩
    case rest =>
     clear HC61
     try clear c1
     try clear c2
     try clear p2
     try clear c10
     try clear c22
     try clear c104
     try clear c104b0
     try clear c104b1
     try clear c105
     try clear c105b0
     try clear c105b1
     obtain ⟨kq, x105_60, rfl, HA, HJ60, BK173, BK174, BK175, BK176, BK181, BK189, HB⟩ := hcut
     cases kq with
     | zero => exact absurd HA.out (by simp [spillwaylaw03_SpanTight.j2])
     | succ kj60 =>
      have H := HA.out
      clear HA
      simp only [spillwaylaw03_SpanTight.j2] at H
      by_cases c119 : x105_60 = true
      ·subst c119
       have H1 : (some false) = some r := by rw [if_pos rfl] at H; exact H
       clear H
       have H := H1
       clear H1
       exact absurd ((Option.some.inj H).trans HRT.out) Bool.false_ne_true
      ·replace c119 := Bool.eq_false_iff.mpr c119
       subst c119
       have H1 : ((span_Times.f kj60 a0_0 a0_1 a0_6).bind fun bt196 => ((span_Times.f kj60 a0_0 a0_1 (wrap64 (-a0_6))).bind fun bt200 => (if a0_6 = (-9223372036854775808) then (spillwaylaw03_SpanTight.j3 kj60 true bt196.1 bt196.2.1 bt200.1 bt200.2.1) else (if bt196.2.2 = 0 then (spillwaylaw03_SpanTight.j3 kj60 (bt200.2.2 != 0) bt196.1 bt196.2.1 bt200.1 bt200.2.1) else (spillwaylaw03_SpanTight.j3 kj60 true bt196.1 bt196.2.1 bt200.1 bt200.2.1))))) = some r := by rw [if_neg (show ¬ (false = true) by decide)] at H; exact H
       clear H
       have H := H1
       clear H1
       replace H := Option.bind_eq_some_iff.mp H
       obtain ⟨⟨t196, t197, t198⟩, A1200, H⟩ := H
       replace H : ((span_Times.f kj60 a0_0 a0_1 (wrap64 (-a0_6))).bind fun bt200 => (if a0_6 = (-9223372036854775808) then (spillwaylaw03_SpanTight.j3 kj60 true t196 t197 bt200.1 bt200.2.1) else (if t198 = 0 then (spillwaylaw03_SpanTight.j3 kj60 (bt200.2.2 != 0) t196 t197 bt200.1 bt200.2.1) else (spillwaylaw03_SpanTight.j3 kj60 true t196 t197 bt200.1 bt200.2.1)))) = some r := H
       have A120 := Aside0.mk A1200
       clear A1200
       replace H := Option.bind_eq_some_iff.mp H
       obtain ⟨⟨t200, t201, t202⟩, A1210, H⟩ := H
       replace H : (if a0_6 = (-9223372036854775808) then (spillwaylaw03_SpanTight.j3 kj60 true t196 t197 t200 t201) else (if t198 = 0 then (spillwaylaw03_SpanTight.j3 kj60 (t202 != 0) t196 t197 t200 t201) else (spillwaylaw03_SpanTight.j3 kj60 true t196 t197 t200 t201))) = some r := H
       have A121 := Aside0.mk A1210
       clear A1210
       have HC122 := Aside0.mk H
       clear H
       have hnb123 := NB174_173.out
       have hnc123 := NB173_174.out
       have hnb124 := NB174_175.out
       have hnc124 := NB175_174.out
       have hnb125 := NB174_176.out
       have hnc125 := NB176_174.out
       have hnb126 := NB174_181.out
       have hnc126 := NB181_174.out
       have hnb127 := NB174_189.out
       have hnc127 := NB189_174.out
       have hcz128_0 : wc.cell? ⟨gb174, 0, none⟩ = some (.int .i64 a0_0) := (blk_cell BK174.out 0).trans rfl
       have hcz128_1 : wc.cell? ⟨gb174, 1, none⟩ = some (.int .i64 a0_1) := (blk_cell BK174.out 1).trans rfl
       have hfz128_0 := blk_frozen BK174.out 0
       have hfz128_1 := blk_frozen BK174.out 1
       go_upto_region 15 with (first | ((with_reducible refine gate_callee (f := 32) rfl ?_); refine goesL_ (some 109) rfl rfl Try.func32 (by kernel_rfl) rfl #[.agg #[.int .i64 a0_0, .int .i64 a0_1], .int .i64 a0_6] rfl (by (try simp only [List.map_toArray, List.map_cons, List.map_nil]); first | done | rfl | (simp only [List.length_drop, List.length_take]; rfl)) ?_; (with_reducible refine (span_Times.calls kj60 a0_0 a0_1 a0_6 t196 t197 t198 _ A120.out).mono ?_); rintro e w129 ⟨rfl, hb⟩; refine ⟨_, rfl, ?_⟩; have n0_ := Aside0.mk (blk_below (sp BK173.out) hb); have n1_ := Aside0.mk (blk_below (sp BK174.out) hb); have n2_ := Aside0.mk (blk_below (sp BK175.out) hb); have n3_ := Aside0.mk (blk_below (sp BK176.out) hb); have n4_ := Aside0.mk (blk_below (sp BK181.out) hb); have n5_ := Aside0.mk (blk_below (sp BK189.out) hb); have n6_ := Aside0.mk (below_step (by repeat (first | (with_reducible first | exact HB.out | apply bA | apply bD | apply bW | refine bS ?_ GE173.out | refine bS ?_ GE174.out | refine bS ?_ GE175.out | refine bS ?_ GE176.out | refine bS ?_ GE181.out | refine bS ?_ GE189.out) | exact HB.out)) hb); clear BK173; clear BK174; clear BK175; clear BK176; clear BK181; clear BK189; clear HB; have BK173 := n0_; have BK174 := n1_; have BK175 := n2_; have BK176 := n3_; have BK181 := n4_; have BK189 := n5_; have HB := n6_; clear n0_ n1_ n2_ n3_ n4_ n5_ n6_; (try clear hb); (try clear hb2); (try clear hk); (try clear hi)) | ((with_reducible refine gate_dst (N := 15) rfl ?_); refine box_event ?hg (N := 15) ?hd (cs := #[.int .i64 0, .int .i64 0]) (t := 23) ?hr ?_; (case hd => rfl); (case hg => rfl); (case hr => first | (go_simp; done) | (go_simp; rfl)); intro gb199 hg w130 hbox hb; have n0_ := Aside0.mk (blk_below (sp BK173.out) hb); have n1_ := Aside0.mk (blk_below (sp BK174.out) hb); have n2_ := Aside0.mk (blk_below (sp BK175.out) hb); have n3_ := Aside0.mk (blk_below (sp BK176.out) hb); have n4_ := Aside0.mk (blk_below (sp BK181.out) hb); have n5_ := Aside0.mk (blk_below (sp BK189.out) hb); have n6_ := Aside0.mk (below_step (by repeat (first | (with_reducible first | exact HB.out | apply bA | apply bD | apply bW | refine bS ?_ GE173.out | refine bS ?_ GE174.out | refine bS ?_ GE175.out | refine bS ?_ GE176.out | refine bS ?_ GE181.out | refine bS ?_ GE189.out) | exact HB.out)) hb); have n7_ := Aside0.mk (hbox); have n8_ := Aside0.mk ((by rw [hg]; exact (below_size (by repeat (first | (with_reducible first | exact HB.out | apply bA | apply bD | apply bW | refine bS ?_ GE173.out | refine bS ?_ GE174.out | refine bS ?_ GE175.out | refine bS ?_ GE176.out | refine bS ?_ GE181.out | refine bS ?_ GE189.out) | exact HB.out))) : w.heap.size ≤ gb199)); have n9_ := Aside0.mk ((by rw [hg]; exact (below_size (by repeat (first | (with_reducible first | exact HB.out | apply bA | apply bD | apply bW | refine bS ?_ GE173.out | refine bS ?_ GE174.out | refine bS ?_ GE175.out | refine bS ?_ GE176.out | refine bS ?_ GE181.out | refine bS ?_ GE189.out) | exact HB.out))) : w.heap.size ≤ gb199)); have n10_ := Aside0.mk ((by rw [hg]; exact Nat.ne_of_lt (blk_lt (g := gb173) (o := .cells #[.int .i64 a0_0, .int .i64 a0_1, .int .i64 a0_2, .int .i64 a0_3, .int .i64 a0_4, .int .i64 a0_5, .int .i64 a0_6] 40 (0, 0)) (sp BK173.out)) : gb173 ≠ gb199)); have n11_ := Aside0.mk ((by rw [hg]; exact Nat.ne_of_gt (blk_lt (g := gb173) (o := .cells #[.int .i64 a0_0, .int .i64 a0_1, .int .i64 a0_2, .int .i64 a0_3, .int .i64 a0_4, .int .i64 a0_5, .int .i64 a0_6] 40 (0, 0)) (sp BK173.out)) : gb199 ≠ gb173)); have n12_ := Aside0.mk ((by rw [hg]; exact Nat.ne_of_lt (blk_lt (g := gb174) (o := .cells #[.int .i64 a0_0, .int .i64 a0_1] 23 (0, 0)) (sp BK174.out)) : gb174 ≠ gb199)); have n13_ := Aside0.mk ((by rw [hg]; exact Nat.ne_of_gt (blk_lt (g := gb174) (o := .cells #[.int .i64 a0_0, .int .i64 a0_1] 23 (0, 0)) (sp BK174.out)) : gb199 ≠ gb174)); have n14_ := Aside0.mk ((by rw [hg]; exact Nat.ne_of_lt (blk_lt (g := gb175) (o := .cells #[.int .i64 a0_2, .int .i64 a0_3] 23 (0, 0)) (sp BK175.out)) : gb175 ≠ gb199)); have n15_ := Aside0.mk ((by rw [hg]; exact Nat.ne_of_gt (blk_lt (g := gb175) (o := .cells #[.int .i64 a0_2, .int .i64 a0_3] 23 (0, 0)) (sp BK175.out)) : gb199 ≠ gb175)); have n16_ := Aside0.mk ((by rw [hg]; exact Nat.ne_of_lt (blk_lt (g := gb176) (o := .cells #[.int .i64 a0_4, .int .i64 a0_5] 23 (0, 0)) (sp BK176.out)) : gb176 ≠ gb199)); have n17_ := Aside0.mk ((by rw [hg]; exact Nat.ne_of_gt (blk_lt (g := gb176) (o := .cells #[.int .i64 a0_4, .int .i64 a0_5] 23 (0, 0)) (sp BK176.out)) : gb199 ≠ gb176)); have n18_ := Aside0.mk ((by rw [hg]; exact Nat.ne_of_lt (blk_lt (g := gb181) (o := .cells #[.int .i64 t178, .int .i64 t179] 23 (0, 0)) (sp BK181.out)) : gb181 ≠ gb199)); have n19_ := Aside0.mk ((by rw [hg]; exact Nat.ne_of_gt (blk_lt (g := gb181) (o := .cells #[.int .i64 t178, .int .i64 t179] 23 (0, 0)) (sp BK181.out)) : gb199 ≠ gb181)); have n20_ := Aside0.mk ((by rw [hg]; exact Nat.ne_of_lt (blk_lt (g := gb189) (o := .cells #[.int .i64 t186, .int .i64 t187] 23 (0, 0)) (sp BK189.out)) : gb189 ≠ gb199)); have n21_ := Aside0.mk ((by rw [hg]; exact Nat.ne_of_gt (blk_lt (g := gb189) (o := .cells #[.int .i64 t186, .int .i64 t187] 23 (0, 0)) (sp BK189.out)) : gb199 ≠ gb189)); clear BK173; clear BK174; clear BK175; clear BK176; clear BK181; clear BK189; clear HB; have BK173 := n0_; have BK174 := n1_; have BK175 := n2_; have BK176 := n3_; have BK181 := n4_; have BK189 := n5_; have HB := n6_; have BK199 := n7_; have GW199 := n8_; have GE199 := n9_; have NB173_199 := n10_; have NB199_173 := n11_; have NB174_199 := n12_; have NB199_174 := n13_; have NB175_199 := n14_; have NB199_175 := n15_; have NB176_199 := n16_; have NB199_176 := n17_; have NB181_199 := n18_; have NB199_181 := n19_; have NB189_199 := n20_; have NB199_189 := n21_; clear n0_ n1_ n2_ n3_ n4_ n5_ n6_ n7_ n8_ n9_ n10_ n11_ n12_ n13_ n14_ n15_ n16_ n17_ n18_ n19_ n20_ n21_; clear hb hbox hg; have hnb131 := NB199_173.out; have hnc131 := NB173_199.out; have hnb132 := NB199_174.out; have hnc132 := NB174_199.out; have hnb133 := NB199_175.out; have hnc133 := NB175_199.out; have hnb134 := NB199_176.out; have hnc134 := NB176_199.out; have hnb135 := NB199_181.out; have hnc135 := NB181_199.out; have hnb136 := NB199_189.out; have hnc136 := NB189_199.out; have hcz137_0 : w130.cell? ⟨gb199, 0, none⟩ = some (.int .i64 0) := (blk_cell BK199.out 0).trans rfl; have hcz137_1 : w130.cell? ⟨gb199, 1, none⟩ = some (.int .i64 0) := (blk_cell BK199.out 1).trans rfl; have hfz137_0 := blk_frozen BK199.out 0; have hfz137_1 := blk_frozen BK199.out 1; have hcz138_0 : w130.cell? ⟨gb174, 0, none⟩ = some (.int .i64 a0_0) := (blk_cell BK174.out 0).trans rfl; have hcz138_1 : w130.cell? ⟨gb174, 1, none⟩ = some (.int .i64 a0_1) := (blk_cell BK174.out 1).trans rfl; have hfz138_0 := blk_frozen BK174.out 0; have hfz138_1 := blk_frozen BK174.out 1) | ((with_reducible refine gate_callee (f := 32) rfl ?_); refine goesL_ (some 116) rfl rfl Try.func32 (by kernel_rfl) rfl #[.agg #[.int .i64 a0_0, .int .i64 a0_1], .int .i64 (wrap64 (-a0_6))] rfl (by (try simp only [List.map_toArray, List.map_cons, List.map_nil]); first | done | rfl | (simp only [List.length_drop, List.length_take]; rfl)) ?_; (with_reducible refine (span_Times.calls kj60 a0_0 a0_1 (wrap64 (-a0_6)) t200 t201 t202 _ A121.out).mono ?_); rintro e w139 ⟨rfl, hb⟩; refine ⟨_, rfl, ?_⟩; have n0_ := Aside0.mk (blk_below (g := gb173) (o := .cells #[.int .i64 a0_0, .int .i64 a0_1, .int .i64 a0_2, .int .i64 a0_3, .int .i64 a0_4, .int .i64 a0_5, .int .i64 a0_6] 40 (0, 0)) (sp (blk_far (sp (blk_far (sp BK173.out) NB173_199.out _)) NB173_199.out _)) hb); have n1_ := Aside0.mk (blk_below (g := gb174) (o := .cells #[.int .i64 a0_0, .int .i64 a0_1] 23 (0, 0)) (sp (blk_far (sp (blk_far (sp BK174.out) NB174_199.out _)) NB174_199.out _)) hb); have n2_ := Aside0.mk (blk_below (g := gb175) (o := .cells #[.int .i64 a0_2, .int .i64 a0_3] 23 (0, 0)) (sp (blk_far (sp (blk_far (sp BK175.out) NB175_199.out _)) NB175_199.out _)) hb); have n3_ := Aside0.mk (blk_below (g := gb176) (o := .cells #[.int .i64 a0_4, .int .i64 a0_5] 23 (0, 0)) (sp (blk_far (sp (blk_far (sp BK176.out) NB176_199.out _)) NB176_199.out _)) hb); have n4_ := Aside0.mk (blk_below (g := gb181) (o := .cells #[.int .i64 t178, .int .i64 t179] 23 (0, 0)) (sp (blk_far (sp (blk_far (sp BK181.out) NB181_199.out _)) NB181_199.out _)) hb); have n5_ := Aside0.mk (blk_below (g := gb189) (o := .cells #[.int .i64 t186, .int .i64 t187] 23 (0, 0)) (sp (blk_far (sp (blk_far (sp BK189.out) NB189_199.out _)) NB189_199.out _)) hb); have n6_ := Aside0.mk (blk_below (g := gb199) (o := .cells #[.int .i64 t196, .int .i64 t197] 23 (0, 0)) (by (with_reducible repeat first | apply dN | apply dW | apply dL); refine blk_put (cs := #[.int .i64 t196, .int .i64 0]) ?_ 1 _ rfl; (with_reducible repeat first | apply dN | apply dW | apply dL); refine blk_put (cs := #[.int .i64 0, .int .i64 0]) ?_ 0 _ rfl; exact sp BK199.out) hb); have n7_ := Aside0.mk (below_step (by repeat (first | (with_reducible first | exact HB.out | apply bA | apply bD | apply bW | refine bS ?_ GE173.out | refine bS ?_ GE174.out | refine bS ?_ GE175.out | refine bS ?_ GE176.out | refine bS ?_ GE181.out | refine bS ?_ GE189.out | refine bS ?_ GE199.out) | exact HB.out)) hb); clear BK173; clear BK174; clear BK175; clear BK176; clear BK181; clear BK189; clear BK199; clear HB; have BK173 := n0_; have BK174 := n1_; have BK175 := n2_; have BK176 := n3_; have BK181 := n4_; have BK189 := n5_; have BK199 := n6_; have HB := n7_; clear n0_ n1_ n2_ n3_ n4_ n5_ n6_ n7_; (try clear hb); (try clear hb2); (try clear hk); (try clear hi)) | ((with_reducible refine gate_dst (N := 16) rfl ?_); refine box_event ?hg (N := 16) ?hd (cs := #[.int .i64 0, .int .i64 0]) (t := 23) ?hr ?_; (case hd => rfl); (case hg => rfl); (case hr => first | (go_simp; done) | (go_simp; rfl)); intro gb203 hg w140 hbox hb; have n0_ := Aside0.mk (blk_below (sp BK173.out) hb); have n1_ := Aside0.mk (blk_below (sp BK174.out) hb); have n2_ := Aside0.mk (blk_below (sp BK175.out) hb); have n3_ := Aside0.mk (blk_below (sp BK176.out) hb); have n4_ := Aside0.mk (blk_below (sp BK181.out) hb); have n5_ := Aside0.mk (blk_below (sp BK189.out) hb); have n6_ := Aside0.mk (blk_below (sp BK199.out) hb); have n7_ := Aside0.mk (below_step (by repeat (first | (with_reducible first | exact HB.out | apply bA | apply bD | apply bW | refine bS ?_ GE173.out | refine bS ?_ GE174.out | refine bS ?_ GE175.out | refine bS ?_ GE176.out | refine bS ?_ GE181.out | refine bS ?_ GE189.out | refine bS ?_ GE199.out) | exact HB.out)) hb); have n8_ := Aside0.mk (hbox); have n9_ := Aside0.mk ((by rw [hg]; exact (below_size (by repeat (first | (with_reducible first | exact HB.out | apply bA | apply bD | apply bW | refine bS ?_ GE173.out | refine bS ?_ GE174.out | refine bS ?_ GE175.out | refine bS ?_ GE176.out | refine bS ?_ GE181.out | refine bS ?_ GE189.out | refine bS ?_ GE199.out) | exact HB.out))) : w.heap.size ≤ gb203)); have n10_ := Aside0.mk ((by rw [hg]; exact (below_size (by repeat (first | (with_reducible first | exact HB.out | apply bA | apply bD | apply bW | refine bS ?_ GE173.out | refine bS ?_ GE174.out | refine bS ?_ GE175.out | refine bS ?_ GE176.out | refine bS ?_ GE181.out | refine bS ?_ GE189.out | refine bS ?_ GE199.out) | exact HB.out))) : w.heap.size ≤ gb203)); have n11_ := Aside0.mk ((by rw [hg]; exact Nat.ne_of_lt (blk_lt (g := gb173) (o := .cells #[.int .i64 a0_0, .int .i64 a0_1, .int .i64 a0_2, .int .i64 a0_3, .int .i64 a0_4, .int .i64 a0_5, .int .i64 a0_6] 40 (0, 0)) (sp BK173.out)) : gb173 ≠ gb203)); have n12_ := Aside0.mk ((by rw [hg]; exact Nat.ne_of_gt (blk_lt (g := gb173) (o := .cells #[.int .i64 a0_0, .int .i64 a0_1, .int .i64 a0_2, .int .i64 a0_3, .int .i64 a0_4, .int .i64 a0_5, .int .i64 a0_6] 40 (0, 0)) (sp BK173.out)) : gb203 ≠ gb173)); have n13_ := Aside0.mk ((by rw [hg]; exact Nat.ne_of_lt (blk_lt (g := gb174) (o := .cells #[.int .i64 a0_0, .int .i64 a0_1] 23 (0, 0)) (sp BK174.out)) : gb174 ≠ gb203)); have n14_ := Aside0.mk ((by rw [hg]; exact Nat.ne_of_gt (blk_lt (g := gb174) (o := .cells #[.int .i64 a0_0, .int .i64 a0_1] 23 (0, 0)) (sp BK174.out)) : gb203 ≠ gb174)); have n15_ := Aside0.mk ((by rw [hg]; exact Nat.ne_of_lt (blk_lt (g := gb175) (o := .cells #[.int .i64 a0_2, .int .i64 a0_3] 23 (0, 0)) (sp BK175.out)) : gb175 ≠ gb203)); have n16_ := Aside0.mk ((by rw [hg]; exact Nat.ne_of_gt (blk_lt (g := gb175) (o := .cells #[.int .i64 a0_2, .int .i64 a0_3] 23 (0, 0)) (sp BK175.out)) : gb203 ≠ gb175)); have n17_ := Aside0.mk ((by rw [hg]; exact Nat.ne_of_lt (blk_lt (g := gb176) (o := .cells #[.int .i64 a0_4, .int .i64 a0_5] 23 (0, 0)) (sp BK176.out)) : gb176 ≠ gb203)); have n18_ := Aside0.mk ((by rw [hg]; exact Nat.ne_of_gt (blk_lt (g := gb176) (o := .cells #[.int .i64 a0_4, .int .i64 a0_5] 23 (0, 0)) (sp BK176.out)) : gb203 ≠ gb176)); have n19_ := Aside0.mk ((by rw [hg]; exact Nat.ne_of_lt (blk_lt (g := gb181) (o := .cells #[.int .i64 t178, .int .i64 t179] 23 (0, 0)) (sp BK181.out)) : gb181 ≠ gb203)); have n20_ := Aside0.mk ((by rw [hg]; exact Nat.ne_of_gt (blk_lt (g := gb181) (o := .cells #[.int .i64 t178, .int .i64 t179] 23 (0, 0)) (sp BK181.out)) : gb203 ≠ gb181)); have n21_ := Aside0.mk ((by rw [hg]; exact Nat.ne_of_lt (blk_lt (g := gb189) (o := .cells #[.int .i64 t186, .int .i64 t187] 23 (0, 0)) (sp BK189.out)) : gb189 ≠ gb203)); have n22_ := Aside0.mk ((by rw [hg]; exact Nat.ne_of_gt (blk_lt (g := gb189) (o := .cells #[.int .i64 t186, .int .i64 t187] 23 (0, 0)) (sp BK189.out)) : gb203 ≠ gb189)); have n23_ := Aside0.mk ((by rw [hg]; exact Nat.ne_of_lt (blk_lt (g := gb199) (o := .cells #[.int .i64 t196, .int .i64 t197] 23 (0, 0)) (sp BK199.out)) : gb199 ≠ gb203)); have n24_ := Aside0.mk ((by rw [hg]; exact Nat.ne_of_gt (blk_lt (g := gb199) (o := .cells #[.int .i64 t196, .int .i64 t197] 23 (0, 0)) (sp BK199.out)) : gb203 ≠ gb199)); clear BK173; clear BK174; clear BK175; clear BK176; clear BK181; clear BK189; clear BK199; clear HB; have BK173 := n0_; have BK174 := n1_; have BK175 := n2_; have BK176 := n3_; have BK181 := n4_; have BK189 := n5_; have BK199 := n6_; have HB := n7_; have BK203 := n8_; have GW203 := n9_; have GE203 := n10_; have NB173_203 := n11_; have NB203_173 := n12_; have NB174_203 := n13_; have NB203_174 := n14_; have NB175_203 := n15_; have NB203_175 := n16_; have NB176_203 := n17_; have NB203_176 := n18_; have NB181_203 := n19_; have NB203_181 := n20_; have NB189_203 := n21_; have NB203_189 := n22_; have NB199_203 := n23_; have NB203_199 := n24_; clear n0_ n1_ n2_ n3_ n4_ n5_ n6_ n7_ n8_ n9_ n10_ n11_ n12_ n13_ n14_ n15_ n16_ n17_ n18_ n19_ n20_ n21_ n22_ n23_ n24_; clear hb hbox hg; have hnb141 := NB203_173.out; have hnc141 := NB173_203.out; have hnb142 := NB203_174.out; have hnc142 := NB174_203.out; have hnb143 := NB203_175.out; have hnc143 := NB175_203.out; have hnb144 := NB203_176.out; have hnc144 := NB176_203.out; have hnb145 := NB203_181.out; have hnc145 := NB181_203.out; have hnb146 := NB203_189.out; have hnc146 := NB189_203.out; have hnb147 := NB203_199.out; have hnc147 := NB199_203.out; have hcz148_0 : w140.cell? ⟨gb203, 0, none⟩ = some (.int .i64 0) := (blk_cell BK203.out 0).trans rfl; have hcz148_1 : w140.cell? ⟨gb203, 1, none⟩ = some (.int .i64 0) := (blk_cell BK203.out 1).trans rfl; have hfz148_0 := blk_frozen BK203.out 0; have hfz148_1 := blk_frozen BK203.out 1))
       (try simp only [Act.put, List.setIfInBounds_toArray, List.set_cons_zero, List.set_cons_succ])
       go_cut [128] (fun v128 wc => ∃ (kq : Nat) (x128_121 : Bool), v128 = .bool x128_121 ∧ Aside0 (spillwaylaw03_SpanTight.j3 kq x128_121 t196 t197 t200 t201 = some r) ∧ Aside0 (kq ≤ kj60) ∧ Aside0 (wc.heap[gb173]? = some (.cells #[.int .i64 a0_0, .int .i64 a0_1, .int .i64 a0_2, .int .i64 a0_3, .int .i64 a0_4, .int .i64 a0_5, .int .i64 a0_6] 40 (0, 0))) ∧ Aside0 (wc.heap[gb174]? = some (.cells #[.int .i64 a0_0, .int .i64 a0_1] 23 (0, 0))) ∧ Aside0 (wc.heap[gb175]? = some (.cells #[.int .i64 a0_2, .int .i64 a0_3] 23 (0, 0))) ∧ Aside0 (wc.heap[gb176]? = some (.cells #[.int .i64 a0_4, .int .i64 a0_5] 23 (0, 0))) ∧ Aside0 (wc.heap[gb181]? = some (.cells #[.int .i64 t178, .int .i64 t179] 23 (0, 0))) ∧ Aside0 (wc.heap[gb189]? = some (.cells #[.int .i64 t186, .int .i64 t187] 23 (0, 0))) ∧ Aside0 (wc.heap[gb199]? = some (.cells #[.int .i64 t196, .int .i64 t197] 23 (0, 0))) ∧ Aside0 (wc.heap[gb203]? = some (.cells #[.int .i64 t200, .int .i64 t201] 23 (0, 0))) ∧ Aside0 (Below w.heap.size w wc))
       case first =>
        have H := HC122.out
        clear HC122
        by_cases c149 : a0_6 = (-9223372036854775808)
        ·rw [if_pos c149] at H
         have c149b0 : (a0_6 == (-9223372036854775808)) = true := beq_iff_eq.mpr c149
         have c149b1 : (a0_6 != (-9223372036854775808)) = false := bne_eq_false_iff_eq.mpr c149
         clear c149
         (first | rw [c149b0] | (simp only [i64_w, i32_w]; rw [c149b0]) | skip)
         have H' := Aside0.mk H
         clear H
         go_wp2
         go_meet
         case rel => exact ⟨_, (true), (by first | rfl | (simp; done) | (simp [*]; done)), H', ⟨by have := HJ4.out; have := HJ60.out; first | omega | exact Nat.le_refl _⟩, ⟨(sp (blk_far (sp (blk_far (sp BK173.out) NB173_203.out _)) NB173_203.out _))⟩, ⟨(sp (blk_far (sp (blk_far (sp BK174.out) NB174_203.out _)) NB174_203.out _))⟩, ⟨(sp (blk_far (sp (blk_far (sp BK175.out) NB175_203.out _)) NB175_203.out _))⟩, ⟨(sp (blk_far (sp (blk_far (sp BK176.out) NB176_203.out _)) NB176_203.out _))⟩, ⟨(sp (blk_far (sp (blk_far (sp BK181.out) NB181_203.out _)) NB181_203.out _))⟩, ⟨(sp (blk_far (sp (blk_far (sp BK189.out) NB189_203.out _)) NB189_203.out _))⟩, ⟨(sp (blk_far (sp (blk_far (sp BK199.out) NB199_203.out _)) NB199_203.out _))⟩, ⟨by (with_reducible repeat first | apply dN | apply dW | apply dL); refine blk_put (cs := #[.int .i64 t200, .int .i64 0]) ?_ 1 _ rfl; (with_reducible repeat first | apply dN | apply dW | apply dL); refine blk_put (cs := #[.int .i64 0, .int .i64 0]) ?_ 0 _ rfl; exact sp BK203.out⟩, ⟨by repeat (first | (with_reducible first | exact HB.out | apply bA | apply bD | apply bW | refine bS ?_ GE173.out | refine bS ?_ GE174.out | refine bS ?_ GE175.out | refine bS ?_ GE176.out | refine bS ?_ GE181.out | refine bS ?_ GE189.out | refine bS ?_ GE199.out | refine bS ?_ GE203.out) | exact HB.out)⟩⟩
        ·rw [if_neg c149] at H
         have c149b0 : (a0_6 == (-9223372036854775808)) = false := beq_eq_false_iff_ne.mpr c149
         have c149b1 : (a0_6 != (-9223372036854775808)) = true := bne_iff_ne.mpr c149
         (first | rw [c149b0] | (simp only [i64_w, i32_w]; rw [c149b0]) | skip)
         by_cases c150 : t198 = 0
         ·rw [if_pos c150] at H
          have c150b0 : (t198 == 0) = true := beq_iff_eq.mpr c150
          have c150b1 : (t198 != 0) = false := bne_eq_false_iff_eq.mpr c150
          clear c150
          have H' := Aside0.mk H
          clear H
          go_wp2
          go_meet
          case rel => exact ⟨_, ((t202 != 0)), (by first | rfl | (simp; done) | (simp [*]; done)), H', ⟨by have := HJ4.out; have := HJ60.out; first | omega | exact Nat.le_refl _⟩, ⟨(sp (blk_far (sp (blk_far (sp BK173.out) NB173_203.out _)) NB173_203.out _))⟩, ⟨(sp (blk_far (sp (blk_far (sp BK174.out) NB174_203.out _)) NB174_203.out _))⟩, ⟨(sp (blk_far (sp (blk_far (sp BK175.out) NB175_203.out _)) NB175_203.out _))⟩, ⟨(sp (blk_far (sp (blk_far (sp BK176.out) NB176_203.out _)) NB176_203.out _))⟩, ⟨(sp (blk_far (sp (blk_far (sp BK181.out) NB181_203.out _)) NB181_203.out _))⟩, ⟨(sp (blk_far (sp (blk_far (sp BK189.out) NB189_203.out _)) NB189_203.out _))⟩, ⟨(sp (blk_far (sp (blk_far (sp BK199.out) NB199_203.out _)) NB199_203.out _))⟩, ⟨by (with_reducible repeat first | apply dN | apply dW | apply dL); refine blk_put (cs := #[.int .i64 t200, .int .i64 0]) ?_ 1 _ rfl; (with_reducible repeat first | apply dN | apply dW | apply dL); refine blk_put (cs := #[.int .i64 0, .int .i64 0]) ?_ 0 _ rfl; exact sp BK203.out⟩, ⟨by repeat (first | (with_reducible first | exact HB.out | apply bA | apply bD | apply bW | refine bS ?_ GE173.out | refine bS ?_ GE174.out | refine bS ?_ GE175.out | refine bS ?_ GE176.out | refine bS ?_ GE181.out | refine bS ?_ GE189.out | refine bS ?_ GE199.out | refine bS ?_ GE203.out) | exact HB.out)⟩⟩
         ·rw [if_neg c150] at H
          have c150b0 : (t198 == 0) = false := beq_eq_false_iff_ne.mpr c150
          have c150b1 : (t198 != 0) = true := bne_iff_ne.mpr c150
          have H' := Aside0.mk H
          clear H
          go_wp2
          go_meet
          case rel => exact ⟨_, (true), (by first | rfl | (simp; done) | (simp [*]; done)), H', ⟨by have := HJ4.out; have := HJ60.out; first | omega | exact Nat.le_refl _⟩, ⟨(sp (blk_far (sp (blk_far (sp BK173.out) NB173_203.out _)) NB173_203.out _))⟩, ⟨(sp (blk_far (sp (blk_far (sp BK174.out) NB174_203.out _)) NB174_203.out _))⟩, ⟨(sp (blk_far (sp (blk_far (sp BK175.out) NB175_203.out _)) NB175_203.out _))⟩, ⟨(sp (blk_far (sp (blk_far (sp BK176.out) NB176_203.out _)) NB176_203.out _))⟩, ⟨(sp (blk_far (sp (blk_far (sp BK181.out) NB181_203.out _)) NB181_203.out _))⟩, ⟨(sp (blk_far (sp (blk_far (sp BK189.out) NB189_203.out _)) NB189_203.out _))⟩, ⟨(sp (blk_far (sp (blk_far (sp BK199.out) NB199_203.out _)) NB199_203.out _))⟩, ⟨by (with_reducible repeat first | apply dN | apply dW | apply dL); refine blk_put (cs := #[.int .i64 t200, .int .i64 0]) ?_ 1 _ rfl; (with_reducible repeat first | apply dN | apply dW | apply dL); refine blk_put (cs := #[.int .i64 0, .int .i64 0]) ?_ 0 _ rfl; exact sp BK203.out⟩, ⟨by repeat (first | (with_reducible first | exact HB.out | apply bA | apply bD | apply bW | refine bS ?_ GE173.out | refine bS ?_ GE174.out | refine bS ?_ GE175.out | refine bS ?_ GE176.out | refine bS ?_ GE181.out | refine bS ?_ GE189.out | refine bS ?_ GE199.out | refine bS ?_ GE203.out) | exact HB.out)⟩⟩
       case rest =>
        clear HC122
        try clear c1
        try clear c2
        try clear p2
        try clear c3
        try clear p6
        try clear c10
        try clear c11
        try clear c12
        try clear c13
        try clear c14
        try clear c15
        try clear c22
        try clear c32
        try clear p64
        try clear c104
        try clear c104b0
        try clear c104b1
        try clear c105
        try clear c105b0
        try clear c105b1
        try clear c119
        try clear c123
        try clear c124
        try clear c125
        try clear c126
        try clear c127
        try clear c131
        try clear c132
        try clear c133
        try clear c134
        try clear c135
        try clear c136
        try clear c141
        try clear c142
        try clear c143
        try clear c144
        try clear c145
        try clear c146
        try clear c147
        try clear c149
        try clear c149b0
        try clear c149b1
        try clear c150
        try clear c150b0
        try clear c150b1
        try clear hcz128_0
        try clear hcz128_1
        try clear hcz137_0
        try clear hcz137_1
        try clear hcz138_0
        try clear hcz138_1
        try clear hcz148_0
        try clear hcz148_1
        try clear hfz128_0
        try clear hfz128_1
        try clear hfz137_0
        try clear hfz137_1
        try clear hfz138_0
        try clear hfz138_1
        try clear hfz148_0
        try clear hfz148_1
        try clear p2
        obtain ⟨kq, x128_121, rfl, HA, HJ121, BK173, BK174, BK175, BK176, BK181, BK189, BK199, BK203, HB⟩ := hcut
        cases kq with
        | zero => exact absurd HA.out (by simp [spillwaylaw03_SpanTight.j3])
        | succ kj121 =>
         have H := HA.out
         clear HA
         simp only [spillwaylaw03_SpanTight.j3] at H
         by_cases c151 : x128_121 = true
         ·subst c151
          have H1 : (some true) = some r := by rw [if_pos rfl] at H; exact H
          clear H
          have H := H1
          clear H1
          obtain rfl := Option.some.inj H
          go_wp2
          go_ret
          exact ⟨by first | rfl | (simp [errW_none, errW_some] <;> rfl) | (simp [*, errW_none, errW_some] <;> rfl) | (exfalso; simp only [decide_eq_true_eq, decide_eq_false_iff_not, gt_iff_lt, ge_iff_le] at *; omega), by repeat (first | (with_reducible first | exact HB.out | apply bA | apply bD | apply bW | refine bS ?_ GE173.out | refine bS ?_ GE174.out | refine bS ?_ GE175.out | refine bS ?_ GE176.out | refine bS ?_ GE181.out | refine bS ?_ GE189.out | refine bS ?_ GE199.out | refine bS ?_ GE203.out) | exact HB.out)⟩
         ·replace c151 := Bool.eq_false_iff.mpr c151
          subst c151
          have H1 : (if t196 = (wrap64 (-t201)) then (if t197 = (wrap64 (-t200)) then (some (decide (t196 ≤ t197))) else (some false)) else (some false)) = some r := by rw [if_neg (show ¬ (false = true) by decide)] at H; exact H
          clear H
          have H := H1
          clear H1
          by_cases c152 : t196 = (wrap64 (-t201))
          ·rw [if_pos c152] at H
           have c152b0 : (t196 == (wrap64 (-t201))) = true := beq_iff_eq.mpr c152
           have c152b1 : (t196 != (wrap64 (-t201))) = false := bne_eq_false_iff_eq.mpr c152
           clear c152
           by_cases c153 : t197 = (wrap64 (-t200))
           ·rw [if_pos c153] at H
            have c153b0 : (t197 == (wrap64 (-t200))) = true := beq_iff_eq.mpr c153
            have c153b1 : (t197 != (wrap64 (-t200))) = false := bne_eq_false_iff_eq.mpr c153
            clear c153
            obtain rfl := Option.some.inj H
            have hnb154 := NB199_173.out
            have hnc154 := NB173_199.out
            have hnb155 := NB199_174.out
            have hnc155 := NB174_199.out
            have hnb156 := NB199_175.out
            have hnc156 := NB175_199.out
            have hnb157 := NB199_176.out
            have hnc157 := NB176_199.out
            have hnb158 := NB199_181.out
            have hnc158 := NB181_199.out
            have hnb159 := NB199_189.out
            have hnc159 := NB189_199.out
            have hnb160 := NB199_203.out
            have hnc160 := NB203_199.out
            have hcz161_0 : wc.cell? ⟨gb199, 0, none⟩ = some (.int .i64 t196) := (blk_cell BK199.out 0).trans rfl
            have hcz161_1 : wc.cell? ⟨gb199, 1, none⟩ = some (.int .i64 t197) := (blk_cell BK199.out 1).trans rfl
            have hfz161_0 := blk_frozen BK199.out 0
            have hfz161_1 := blk_frozen BK199.out 1
            have hnb162 := NB203_173.out
            have hnc162 := NB173_203.out
            have hnb163 := NB203_174.out
            have hnc163 := NB174_203.out
            have hnb164 := NB203_175.out
            have hnc164 := NB175_203.out
            have hnb165 := NB203_176.out
            have hnc165 := NB176_203.out
            have hnb166 := NB203_181.out
            have hnc166 := NB181_203.out
            have hnb167 := NB203_189.out
            have hnc167 := NB189_203.out
            have hcz168_0 : wc.cell? ⟨gb203, 0, none⟩ = some (.int .i64 t200) := (blk_cell BK203.out 0).trans rfl
            have hcz168_1 : wc.cell? ⟨gb203, 1, none⟩ = some (.int .i64 t201) := (blk_cell BK203.out 1).trans rfl
            have hfz168_0 := blk_frozen BK203.out 0
            have hfz168_1 := blk_frozen BK203.out 1
            go_wp2
            go_ret
            exact ⟨by first | rfl | (simp [errW_none, errW_some] <;> rfl) | (simp [*, errW_none, errW_some] <;> rfl) | (exfalso; simp only [decide_eq_true_eq, decide_eq_false_iff_not, gt_iff_lt, ge_iff_le] at *; omega), by repeat (first | (with_reducible first | exact HB.out | apply bA | apply bD | apply bW | refine bS ?_ GE173.out | refine bS ?_ GE174.out | refine bS ?_ GE175.out | refine bS ?_ GE176.out | refine bS ?_ GE181.out | refine bS ?_ GE189.out | refine bS ?_ GE199.out | refine bS ?_ GE203.out) | exact HB.out)⟩
           ·rw [if_neg c153] at H
            have c153b0 : (t197 == (wrap64 (-t200))) = false := beq_eq_false_iff_ne.mpr c153
            have c153b1 : (t197 != (wrap64 (-t200))) = true := bne_iff_ne.mpr c153
            exact absurd ((Option.some.inj H).trans HRT.out) Bool.false_ne_true
          ·rw [if_neg c152] at H
           have c152b0 : (t196 == (wrap64 (-t201))) = false := beq_eq_false_iff_ne.mpr c152
           have c152b1 : (t196 != (wrap64 (-t201))) = true := bne_iff_ne.mpr c152
           exact absurd ((Option.some.inj H).trans HRT.out) Bool.false_ne_true
 ·replace c3 := Bool.eq_false_iff.mpr c3
  subst c3
  have H1 : (some false) = some r := by rw [if_neg (show ¬ (false = true) by decide)] at H; exact H
  clear H
  have H := H1
  clear H1
  exact absurd ((Option.some.inj H).trans HRT.out) Bool.false_ne_true

end Go.Proofs.Ythjfmgdldjbkgaa.CSnTight
