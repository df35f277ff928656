-- PRINTED by print.py (a twelfth state) out of the translation. Not trusted: Lean checks it.
import Derived.Test.YthjfmgdldjbkgaaCSembersx0
import Derived.Test.YthjfmgdldjbkgaaCSembersx2
import Derived.Test.YthjfmgdldjbkgaaCSembersx3
namespace Go.Proofs.Ythjfmgdldjbkgaa.CSembers
open Go.RowKit Go.Proofs.YthjfmgdldjbkgaaW.PrintWords Go.Proofs.YthjfmgdldjbkgaaW.PrintLast Go.Proofs.YthjfmgdldjbkgaaW.PrintMore
attribute [local go_sem] max2_int min2_int max_two min_two max_three min_three max_four min_four   -- for this text's walks alone
set_option linter.unusedVariables false
set_option linter.unusedSimpArgs false

/-! ### spillwaylaw03_SpanMembers: function 8 -/
mutual
def spillwaylaw03_SpanMembers.j0 : Nat → Int → Int → Int → Bool → Int → Int → Int → Int → Option (Bool)
 | 0, _, _, _, _, _, _, _, _ => none
 | k + 1, x5, x6, x7, x47, x180000, x180001, x181000, x181001 => if x47 = true then (some false) else ((span_Has.f x180000 x180001 x5).bind fun t191 => (if t191 = true then ((span_Has.f x181000 x181001 x6).bind fun t192 => (spillwaylaw03_SpanMembers.j1 k x5 x6 x7 (!t192) x180000 x180001 x181000 x181001)) else (spillwaylaw03_SpanMembers.j1 k x5 x6 x7 true x180000 x180001 x181000 x181001)))
def spillwaylaw03_SpanMembers.j1 : Nat → Int → Int → Int → Bool → Int → Int → Int → Int → Option (Bool)
 | 0, _, _, _, _, _, _, _, _ => none
 | k + 1, x5, x6, x7, x57, x180000, x180001, x181000, x181001 => if x57 = true then (some true) else ((span_Hull.f x180000 x180001 x181000 x181001).bind fun bt193 => (if bt193.2.2 = 0 then ((span_Has.f bt193.1 bt193.2.1 x5).bind fun t197 => (if t197 = true then ((span_Has.f bt193.1 bt193.2.1 x6).bind fun t198 => (if t198 = true then ((span_Holds.f bt193.1 bt193.2.1 x180000 x180001).bind fun t199 => (if t199 = true then ((span_Holds.f bt193.1 bt193.2.1 x181000 x181001).bind fun t200 => (spillwaylaw03_SpanMembers.j2 k x5 x6 x7 (!t200) x180000 x180001 x181000 x181001)) else (spillwaylaw03_SpanMembers.j2 k x5 x6 x7 true x180000 x180001 x181000 x181001))) else (spillwaylaw03_SpanMembers.j2 k x5 x6 x7 true x180000 x180001 x181000 x181001))) else (spillwaylaw03_SpanMembers.j2 k x5 x6 x7 true x180000 x180001 x181000 x181001))) else (spillwaylaw03_SpanMembers.j2 k x5 x6 x7 true x180000 x180001 x181000 x181001)))
def spillwaylaw03_SpanMembers.j2 : Nat → Int → Int → Int → Bool → Int → Int → Int → Int → Option (Bool)
 | 0, _, _, _, _, _, _, _, _ => none
 | k + 1, x5, x6, x7, x89, x180000, x180001, x181000, x181001 => if x89 = true then (some false) else ((span_Add.f k x180000 x180001 x181000 x181001).bind fun bt201 => ((num_Add.f x5 x6).bind fun bt205 => (if bt201.2.2 = 0 then (if bt205.2 = 0 then ((span_Has.f bt201.1 bt201.2.1 bt205.1).bind fun t207 => (spillwaylaw03_SpanMembers.j3 k x5 x6 x7 (!t207) x180000 x180001 x181000 x181001)) else (spillwaylaw03_SpanMembers.j3 k x5 x6 x7 true x180000 x180001 x181000 x181001)) else (spillwaylaw03_SpanMembers.j3 k x5 x6 x7 false x180000 x180001 x181000 x181001))))
def spillwaylaw03_SpanMembers.j3 : Nat → Int → Int → Int → Bool → Int → Int → Int → Int → Option (Bool)
 | 0, _, _, _, _, _, _, _, _ => none
 | k + 1, x5, x6, x7, x113, x180000, x180001, x181000, x181001 => if x113 = true then (some false) else ((span_Sub.f k x180000 x180001 x181000 x181001).bind fun bt208 => ((num_Sub.f x5 x6).bind fun bt211 => (if bt208.2.2 = 0 then (if bt211.2 = 0 then ((span_Has.f bt208.1 bt208.2.1 bt211.1).bind fun t213 => (spillwaylaw03_SpanMembers.j4 k x5 x7 (!t213) x180000 x180001)) else (spillwaylaw03_SpanMembers.j4 k x5 x7 true x180000 x180001)) else (spillwaylaw03_SpanMembers.j4 k x5 x7 false x180000 x180001))))
def spillwaylaw03_SpanMembers.j4 : Nat → Int → Int → Bool → Int → Int → Option (Bool)
 | 0, _, _, _, _, _ => none
 | k + 1, x5, x7, x137, x180000, x180001 => if x137 = true then (some false) else ((span_Times.f k x180000 x180001 x7).bind fun bt214 => ((num_Mul.f k x5 x7).bind fun bt217 => (if bt214.2.2 = 0 then (if bt217.2 = 0 then ((span_Has.f bt214.1 bt214.2.1 bt217.1).bind fun t219 => (some t219)) else (some false)) else (some true))))
end
def spillwaylaw03_SpanMembers.f (k : Nat) (a0_0 : Int) (a0_1 : Int) (a0_2 : Int) (a0_3 : Int) (a0_4 : Int) (a0_5 : Int) (a0_6 : Int) : Option (Bool) := (spillwaylaw03_fixed.f k).bind fun t181 => (if t181 = true then ((span_Meet.f a0_0 a0_1 a0_2 a0_3).bind fun bt182 => (if bt182.2.2 = true then ((span_Has.f bt182.1 bt182.2.1 a0_4).bind fun t186 => ((span_Has.f a0_0 a0_1 a0_4).bind fun t187 => (if t187 = true then ((span_Has.f a0_2 a0_3 a0_4).bind fun t188 => (spillwaylaw03_SpanMembers.j0 k a0_4 a0_5 a0_6 (t186 != t188) a0_0 a0_1 a0_2 a0_3)) else (spillwaylaw03_SpanMembers.j0 k a0_4 a0_5 a0_6 (t186 != false) a0_0 a0_1 a0_2 a0_3)))) else ((span_Has.f a0_0 a0_1 a0_4).bind fun t189 => (if t189 = true then ((span_Has.f a0_2 a0_3 a0_4).bind fun t190 => (spillwaylaw03_SpanMembers.j0 k a0_4 a0_5 a0_6 (false != t190) a0_0 a0_1 a0_2 a0_3)) else (spillwaylaw03_SpanMembers.j0 k a0_4 a0_5 a0_6 (false != false) a0_0 a0_1 a0_2 a0_3))))) else (some false))
theorem spillwaylaw03_SpanMembers.mono_l : ∀ k, (∀ y0 y1 y2 y3 y4 y5 y6 y7, LeO (spillwaylaw03_SpanMembers.j0 k y0 y1 y2 y3 y4 y5 y6 y7) (spillwaylaw03_SpanMembers.j0 (k + 1) y0 y1 y2 y3 y4 y5 y6 y7)) ∧ (∀ y0 y1 y2 y3 y4 y5 y6 y7, LeO (spillwaylaw03_SpanMembers.j1 k y0 y1 y2 y3 y4 y5 y6 y7) (spillwaylaw03_SpanMembers.j1 (k + 1) y0 y1 y2 y3 y4 y5 y6 y7)) ∧ (∀ y0 y1 y2 y3 y4 y5 y6 y7, LeO (spillwaylaw03_SpanMembers.j2 k y0 y1 y2 y3 y4 y5 y6 y7) (spillwaylaw03_SpanMembers.j2 (k + 1) y0 y1 y2 y3 y4 y5 y6 y7)) ∧ (∀ y0 y1 y2 y3 y4 y5 y6 y7, LeO (spillwaylaw03_SpanMembers.j3 k y0 y1 y2 y3 y4 y5 y6 y7) (spillwaylaw03_SpanMembers.j3 (k + 1) y0 y1 y2 y3 y4 y5 y6 y7)) ∧ (∀ y0 y1 y2 y3 y4, LeO (spillwaylaw03_SpanMembers.j4 k y0 y1 y2 y3 y4) (spillwaylaw03_SpanMembers.j4 (k + 1) y0 y1 y2 y3 y4))
 | 0 => ⟨fun _ _ _ _ _ _ _ _ r h => by simp [spillwaylaw03_SpanMembers.j0] at h, fun _ _ _ _ _ _ _ _ r h => by simp [spillwaylaw03_SpanMembers.j1] at h, fun _ _ _ _ _ _ _ _ r h => by simp [spillwaylaw03_SpanMembers.j2] at h, fun _ _ _ _ _ _ _ _ r h => by simp [spillwaylaw03_SpanMembers.j3] at h, fun _ _ _ _ _ r h => by simp [spillwaylaw03_SpanMembers.j4] at h⟩
 | k + 1 => by
  obtain ⟨ih0, ih1, ih2, ih3, ih4⟩ := spillwaylaw03_SpanMembers.mono_l k
  refine ⟨?_, ?_, ?_, ?_, ?_⟩
  ·intro y0 y1 y2 y3 y4 y5 y6 y7
   unfold spillwaylaw03_SpanMembers.j0
   repeat' first
   | (with_reducible exact ih0 _ _ _ _ _ _ _ _)
   | (with_reducible exact ih1 _ _ _ _ _ _ _ _)
   | (with_reducible exact ih2 _ _ _ _ _ _ _ _)
   | (with_reducible exact ih3 _ _ _ _ _ _ _ _)
   | (with_reducible exact ih4 _ _ _ _ _)
   | (with_reducible exact num_Mul.mono _ _ _)
   | (with_reducible exact span_Add.mono _ _ _ _ _)
   | (with_reducible exact span_Sub.mono _ _ _ _ _)
   | (with_reducible exact span_Times.mono _ _ _ _)
   | (with_reducible exact spillwaylaw03_fixed.mono _)
   | (with_reducible exact LeO.refl _)
   | (with_reducible exact LeO.none _)
   | (with_reducible refine LeO.ite ?_ ?_)
   | (with_reducible refine LeO.bind ?_ (fun _ => ?_))
   | exact ih0 _ _ _ _ _ _ _ _
   | exact ih1 _ _ _ _ _ _ _ _
   | exact ih2 _ _ _ _ _ _ _ _
   | exact ih3 _ _ _ _ _ _ _ _
   | exact ih4 _ _ _ _ _
   | exact num_Mul.mono _ _ _
   | exact span_Add.mono _ _ _ _ _
   | exact span_Sub.mono _ _ _ _ _
   | exact span_Times.mono _ _ _ _
   | exact spillwaylaw03_fixed.mono _
   | exact LeO.none _
   | refine LeO.ite ?_ ?_
   | refine LeO.bind ?_ (fun _ => ?_)
  ·intro y0 y1 y2 y3 y4 y5 y6 y7
   unfold spillwaylaw03_SpanMembers.j1
   repeat' first
   | (with_reducible exact ih0 _ _ _ _ _ _ _ _)
   | (with_reducible exact ih1 _ _ _ _ _ _ _ _)
   | (with_reducible exact ih2 _ _ _ _ _ _ _ _)
   | (with_reducible exact ih3 _ _ _ _ _ _ _ _)
   | (with_reducible exact ih4 _ _ _ _ _)
   | (with_reducible exact num_Mul.mono _ _ _)
   | (with_reducible exact span_Add.mono _ _ _ _ _)
   | (with_reducible exact span_Sub.mono _ _ _ _ _)
   | (with_reducible exact span_Times.mono _ _ _ _)
   | (with_reducible exact spillwaylaw03_fixed.mono _)
   | (with_reducible exact LeO.refl _)
   | (with_reducible exact LeO.none _)
   | (with_reducible refine LeO.ite ?_ ?_)
   | (with_reducible refine LeO.bind ?_ (fun _ => ?_))
   | exact ih0 _ _ _ _ _ _ _ _
   | exact ih1 _ _ _ _ _ _ _ _
   | exact ih2 _ _ _ _ _ _ _ _
   | exact ih3 _ _ _ _ _ _ _ _
   | exact ih4 _ _ _ _ _
   | exact num_Mul.mono _ _ _
   | exact span_Add.mono _ _ _ _ _
   | exact span_Sub.mono _ _ _ _ _
   | exact span_Times.mono _ _ _ _
   | exact spillwaylaw03_fixed.mono _
   | exact LeO.none _
   | refine LeO.ite ?_ ?_
   | refine LeO.bind ?_ (fun _ => ?_)
  ·intro y0 y1 y2 y3 y4 y5 y6 y7
   unfold spillwaylaw03_SpanMembers.j2
   repeat' first
   | (with_reducible exact ih0 _ _ _ _ _ _ _ _)
   | (with_reducible exact ih1 _ _ _ _ _ _ _ _)
   | (with_reducible exact ih2 _ _ _ _ _ _ _ _)
   | (with_reducible exact ih3 _ _ _ _ _ _ _ _)
   | (with_reducible exact ih4 _ _ _ _ _)
   | (with_reducible exact num_Mul.mono _ _ _)
   | (with_reducible exact span_Add.mono _ _ _ _ _)
   | (with_reducible exact span_Sub.mono _ _ _ _ _)
   | (with_reducible exact span_Times.mono _ _ _ _)
   | (with_reducible exact spillwaylaw03_fixed.mono _)
   | (with_reducible exact LeO.refl _)
   | (with_reducible exact LeO.none _)
   | (with_reducible refine LeO.ite ?_ ?_)
   | (with_reducible refine LeO.bind ?_ (fun _ => ?_))
   | exact ih0 _ _ _ _ _ _ _ _
   | exact ih1 _ _ _ _ _ _ _ _
   | exact ih2 _ _ _ _ _ _ _ _
   | exact ih3 _ _ _ _ _ _ _ _
   | exact ih4 _ _ _ _ _
   | exact num_Mul.mono _ _ _
   | exact span_Add.mono _ _ _ _ _
   | exact span_Sub.mono _ _ _ _ _
   | exact span_Times.mono _ _ _ _
   | exact spillwaylaw03_fixed.mono _
   | exact LeO.none _
   | refine LeO.ite ?_ ?_
   | refine LeO.bind ?_ (fun _ => ?_)
  ·intro y0 y1 y2 y3 y4 y5 y6 y7
   unfold spillwaylaw03_SpanMembers.j3
   repeat' first
   | (with_reducible exact ih0 _ _ _ _ _ _ _ _)
   | (with_reducible exact ih1 _ _ _ _ _ _ _ _)
   | (with_reducible exact ih2 _ _ _ _ _ _ _ _)
   | (with_reducible exact ih3 _ _ _ _ _ _ _ _)
   | (with_reducible exact ih4 _ _ _ _ _)
   | (with_reducible exact num_Mul.mono _ _ _)
   | (with_reducible exact span_Add.mono _ _ _ _ _)
   | (with_reducible exact span_Sub.mono _ _ _ _ _)
   | (with_reducible exact span_Times.mono _ _ _ _)
   | (with_reducible exact spillwaylaw03_fixed.mono _)
   | (with_reducible exact LeO.refl _)
   | (with_reducible exact LeO.none _)
   | (with_reducible refine LeO.ite ?_ ?_)
   | (with_reducible refine LeO.bind ?_ (fun _ => ?_))
   | exact ih0 _ _ _ _ _ _ _ _
   | exact ih1 _ _ _ _ _ _ _ _
   | exact ih2 _ _ _ _ _ _ _ _
   | exact ih3 _ _ _ _ _ _ _ _
   | exact ih4 _ _ _ _ _
   | exact num_Mul.mono _ _ _
   | exact span_Add.mono _ _ _ _ _
   | exact span_Sub.mono _ _ _ _ _
   | exact span_Times.mono _ _ _ _
   | exact spillwaylaw03_fixed.mono _
   | exact LeO.none _
   | refine LeO.ite ?_ ?_
   | refine LeO.bind ?_ (fun _ => ?_)
  ·intro y0 y1 y2 y3 y4
   unfold spillwaylaw03_SpanMembers.j4
   repeat' first
   | (with_reducible exact ih0 _ _ _ _ _ _ _ _)
   | (with_reducible exact ih1 _ _ _ _ _ _ _ _)
   | (with_reducible exact ih2 _ _ _ _ _ _ _ _)
   | (with_reducible exact ih3 _ _ _ _ _ _ _ _)
   | (with_reducible exact ih4 _ _ _ _ _)
   | (with_reducible exact num_Mul.mono _ _ _)
   | (with_reducible exact span_Add.mono _ _ _ _ _)
   | (with_reducible exact span_Sub.mono _ _ _ _ _)
   | (with_reducible exact span_Times.mono _ _ _ _)
   | (with_reducible exact spillwaylaw03_fixed.mono _)
   | (with_reducible exact LeO.refl _)
   | (with_reducible exact LeO.none _)
   | (with_reducible refine LeO.ite ?_ ?_)
   | (with_reducible refine LeO.bind ?_ (fun _ => ?_))
   | exact ih0 _ _ _ _ _ _ _ _
   | exact ih1 _ _ _ _ _ _ _ _
   | exact ih2 _ _ _ _ _ _ _ _
   | exact ih3 _ _ _ _ _ _ _ _
   | exact ih4 _ _ _ _ _
   | exact num_Mul.mono _ _ _
   | exact span_Add.mono _ _ _ _ _
   | exact span_Sub.mono _ _ _ _ _
   | exact span_Times.mono _ _ _ _
   | exact spillwaylaw03_fixed.mono _
   | exact LeO.none _
   | refine LeO.ite ?_ ?_
   | refine LeO.bind ?_ (fun _ => ?_)
theorem spillwaylaw03_SpanMembers.mono : ∀ a0 a1 a2 a3 a4 a5 a6 k, LeO (spillwaylaw03_SpanMembers.f k a0 a1 a2 a3 a4 a5 a6) (spillwaylaw03_SpanMembers.f (k + 1) a0 a1 a2 a3 a4 a5 a6) := by
 intro a0 a1 a2 a3 a4 a5 a6 k
 obtain ⟨ih0, ih1, ih2, ih3, ih4⟩ := spillwaylaw03_SpanMembers.mono_l k
 unfold spillwaylaw03_SpanMembers.f
 repeat' first
   | (with_reducible exact ih0 _ _ _ _ _ _ _ _)
   | (with_reducible exact ih1 _ _ _ _ _ _ _ _)
   | (with_reducible exact ih2 _ _ _ _ _ _ _ _)
   | (with_reducible exact ih3 _ _ _ _ _ _ _ _)
   | (with_reducible exact ih4 _ _ _ _ _)
   | (with_reducible exact num_Mul.mono _ _ _)
   | (with_reducible exact span_Add.mono _ _ _ _ _)
   | (with_reducible exact span_Sub.mono _ _ _ _ _)
   | (with_reducible exact span_Times.mono _ _ _ _)
   | (with_reducible exact spillwaylaw03_fixed.mono _)
   | (with_reducible exact LeO.refl _)
   | (with_reducible exact LeO.none _)
   | (with_reducible refine LeO.ite ?_ ?_)
   | (with_reducible refine LeO.bind ?_ (fun _ => ?_))
   | exact ih0 _ _ _ _ _ _ _ _
   | exact ih1 _ _ _ _ _ _ _ _
   | exact ih2 _ _ _ _ _ _ _ _
   | exact ih3 _ _ _ _ _ _ _ _
   | exact ih4 _ _ _ _ _
   | exact num_Mul.mono _ _ _
   | exact span_Add.mono _ _ _ _ _
   | exact span_Sub.mono _ _ _ _ _
   | exact span_Times.mono _ _ _ _
   | exact spillwaylaw03_fixed.mono _
   | exact LeO.none _
   | refine LeO.ite ?_ ?_
   | refine LeO.bind ?_ (fun _ => ?_)
def spillwaylaw03_SpanMembers.T1 : Bool × List (List Nat × List Nat) := (true, [([], []), ([0], [0]), ([], []), ([2], [2]), ([], []), ([4], [4]), ([], []), ([6], [6]), ([], []), ([8], [8]), ([], []), ([], []), ([10, 1, 0, 1, 10, 11], [1, 10]), ([11, 3, 12, 0, 1, 2, 3, 10, 11, 12], [3, 11]), ([5, 13, 0, 1, 2, 3, 4, 5, 10, 11, 12, 13], [5]), ([7, 14, 0, 1, 2, 3, 4, 5, 6, 7, 10, 11, 12, 13, 14], [7]), ([9, 15, 0, 1, 2, 3, 4, 5, 6, 7, 8, 9, 10, 11, 12, 13, 14, 15], [9])])
def spillwaylaw03_SpanMembers.B1 : List Nat := [0, 1, 0, 4, 0, 16, 0, 64, 0, 256, 0, 0, 3075, 7183, 15423, 31999, 65535]
theorem spillwaylaw03_SpanMembers.tab1 : rtab .any (opsOf Try.f8 1) = spillwaylaw03_SpanMembers.T1 := by kernel_rfl
theorem spillwaylaw03_SpanMembers.bits1 : waitsOk spillwaylaw03_SpanMembers.T1.2 spillwaylaw03_SpanMembers.B1 = true := by kernel_rfl
def spillwaylaw03_SpanMembers.T5 : Bool × List (List Nat × List Nat) := (true, [([], []), ([0], [0]), ([1], [1]), ([1], [1]), ([2, 3, 1, 1], [1, 2, 3]), ([1, 4], [1, 4]), ([], []), ([], []), ([6, 7, 4], [6, 7]), ([8, 8], [8]), ([9], [9]), ([9], [9]), ([10, 11, 9, 9], [9, 10, 11]), ([9, 12], [9, 12]), ([5, 13], [5, 13])])
def spillwaylaw03_SpanMembers.B5 : List Nat := [0, 1, 3, 3, 15, 31, 0, 0, 223, 479, 991, 991, 4063, 8159, 16383]
theorem spillwaylaw03_SpanMembers.tab5 : rtab .any (opsOf Try.f8 5) = spillwaylaw03_SpanMembers.T5 := by kernel_rfl
theorem spillwaylaw03_SpanMembers.bits5 : waitsOk spillwaylaw03_SpanMembers.T5.2 spillwaylaw03_SpanMembers.B5 = true := by kernel_rfl
set_option maxHeartbeats 8000000 in
set_option maxRecDepth 100000 in
theorem spillwaylaw03_SpanMembers.calls (k : Nat) (a0_0 : Int) (a0_1 : Int) (a0_2 : Int) (a0_3 : Int) (a0_4 : Int) (a0_5 : Int) (a0_6 : Int) (r : Bool) (w : World) (hrt : r = true) (h : spillwaylaw03_SpanMembers.f k a0_0 a0_1 a0_2 a0_3 a0_4 a0_5 a0_6 = some r) :
  Calls Try.prog 8 #[.agg #[.int .i64 a0_0, .int .i64 a0_1, .int .i64 a0_2, .int .i64 a0_3, .int .i64 a0_4, .int .i64 a0_5, .int .i64 a0_6]] w fun e w' => e = .returned (.bool r) ∧ Below w.heap.size w w' := by
 have hu52 := Try.underlying52
 have hu23 := Try.underlying23
 have HB := Aside0.mk (Below.refl w.heap.size w)
 have H : ((spillwaylaw03_fixed.f k).bind fun t181 => (if t181 = true then ((span_Meet.f a0_0 a0_1 a0_2 a0_3).bind fun bt182 => (if bt182.2.2 = true then ((span_Has.f bt182.1 bt182.2.1 a0_4).bind fun t186 => ((span_Has.f a0_0 a0_1 a0_4).bind fun t187 => (if t187 = true then ((span_Has.f a0_2 a0_3 a0_4).bind fun t188 => (spillwaylaw03_SpanMembers.j0 k a0_4 a0_5 a0_6 (t186 != t188) a0_0 a0_1 a0_2 a0_3)) else (spillwaylaw03_SpanMembers.j0 k a0_4 a0_5 a0_6 (t186 != false) a0_0 a0_1 a0_2 a0_3)))) else ((span_Has.f a0_0 a0_1 a0_4).bind fun t189 => (if t189 = true then ((span_Has.f a0_2 a0_3 a0_4).bind fun t190 => (spillwaylaw03_SpanMembers.j0 k a0_4 a0_5 a0_6 (false != t190) a0_0 a0_1 a0_2 a0_3)) else (spillwaylaw03_SpanMembers.j0 k a0_4 a0_5 a0_6 (false != false) a0_0 a0_1 a0_2 a0_3))))) else (some false))) = some r := h
 clear h
 have HRT := Aside0.mk hrt
 clear hrt
 replace H := Option.bind_eq_some_iff.mp H
 obtain ⟨t181, A20, H⟩ := H
 replace H : (if t181 = true then ((span_Meet.f a0_0 a0_1 a0_2 a0_3).bind fun bt182 => (if bt182.2.2 = true then ((span_Has.f bt182.1 bt182.2.1 a0_4).bind fun t186 => ((span_Has.f a0_0 a0_1 a0_4).bind fun t187 => (if t187 = true then ((span_Has.f a0_2 a0_3 a0_4).bind fun t188 => (spillwaylaw03_SpanMembers.j0 k a0_4 a0_5 a0_6 (t186 != t188) a0_0 a0_1 a0_2 a0_3)) else (spillwaylaw03_SpanMembers.j0 k a0_4 a0_5 a0_6 (t186 != false) a0_0 a0_1 a0_2 a0_3)))) else ((span_Has.f a0_0 a0_1 a0_4).bind fun t189 => (if t189 = true then ((span_Has.f a0_2 a0_3 a0_4).bind fun t190 => (spillwaylaw03_SpanMembers.j0 k a0_4 a0_5 a0_6 (false != t190) a0_0 a0_1 a0_2 a0_3)) else (spillwaylaw03_SpanMembers.j0 k a0_4 a0_5 a0_6 (false != false) a0_0 a0_1 a0_2 a0_3))))) else (some false)) = some r := H
 have A2 := Aside0.mk A20
 clear A20
 by_cases c3 : t181 = true
 ·subst c3
  have H1 : ((span_Meet.f a0_0 a0_1 a0_2 a0_3).bind fun bt182 => (if bt182.2.2 = true then ((span_Has.f bt182.1 bt182.2.1 a0_4).bind fun t186 => ((span_Has.f a0_0 a0_1 a0_4).bind fun t187 => (if t187 = true then ((span_Has.f a0_2 a0_3 a0_4).bind fun t188 => (spillwaylaw03_SpanMembers.j0 k a0_4 a0_5 a0_6 (t186 != t188) a0_0 a0_1 a0_2 a0_3)) else (spillwaylaw03_SpanMembers.j0 k a0_4 a0_5 a0_6 (t186 != false) a0_0 a0_1 a0_2 a0_3)))) else ((span_Has.f a0_0 a0_1 a0_4).bind fun t189 => (if t189 = true then ((span_Has.f a0_2 a0_3 a0_4).bind fun t190 => (spillwaylaw03_SpanMembers.j0 k a0_4 a0_5 a0_6 (false != t190) a0_0 a0_1 a0_2 a0_3)) else (spillwaylaw03_SpanMembers.j0 k a0_4 a0_5 a0_6 (false != false) a0_0 a0_1 a0_2 a0_3))))) = some r := by rw [if_pos rfl] at H; exact H
  clear H
  have H := H1
  clear H1
  replace H := Option.bind_eq_some_iff.mp H
  obtain ⟨⟨t182, t183, t184⟩, A40, H⟩ := H
  replace H : (if t184 = true then ((span_Has.f t182 t183 a0_4).bind fun t186 => ((span_Has.f a0_0 a0_1 a0_4).bind fun t187 => (if t187 = true then ((span_Has.f a0_2 a0_3 a0_4).bind fun t188 => (spillwaylaw03_SpanMembers.j0 k a0_4 a0_5 a0_6 (t186 != t188) a0_0 a0_1 a0_2 a0_3)) else (spillwaylaw03_SpanMembers.j0 k a0_4 a0_5 a0_6 (t186 != false) a0_0 a0_1 a0_2 a0_3)))) else ((span_Has.f a0_0 a0_1 a0_4).bind fun t189 => (if t189 = true then ((span_Has.f a0_2 a0_3 a0_4).bind fun t190 => (spillwaylaw03_SpanMembers.j0 k a0_4 a0_5 a0_6 (false != t190) a0_0 a0_1 a0_2 a0_3)) else (spillwaylaw03_SpanMembers.j0 k a0_4 a0_5 a0_6 (false != false) a0_0 a0_1 a0_2 a0_3)))) = some r := H
  have A4 := Aside0.mk A40
  clear A40
  have HC5 := Aside0.mk H
  clear H
  go_enter Try.func8, Try.ntmps8
  try go_wp2_with (first | ((with_reducible refine gate_dst (N := 1) rfl ?_); refine box_event ?hg (N := 1) ?hd (cs := #[.int .i64 a0_0, .int .i64 a0_1, .int .i64 a0_2, .int .i64 a0_3, .int .i64 a0_4, .int .i64 a0_5, .int .i64 a0_6]) (t := 52) ?hr ?_; (case hd => rfl); (case hg => rfl); (case hr => first | (go_simp; done) | (go_simp; rfl)); intro gb178 hg w6 hbox hb; have n0_ := Aside0.mk (below_step (by repeat (first | (with_reducible first | exact HB.out | apply bA | apply bD | apply bW) | exact HB.out)) hb); have n1_ := Aside0.mk (hbox); have n2_ := Aside0.mk ((by rw [hg]; exact (below_size (by repeat (first | (with_reducible first | exact HB.out | apply bA | apply bD | apply bW) | exact HB.out))) : w.heap.size ≤ gb178)); have n3_ := Aside0.mk ((by rw [hg]; exact (below_size (by repeat (first | (with_reducible first | exact HB.out | apply bA | apply bD | apply bW) | exact HB.out))) : w.heap.size ≤ gb178)); clear HB; have HB := n0_; have BK178 := n1_; have GW178 := n2_; have GE178 := n3_; clear n0_ n1_ n2_ n3_; clear hb hbox hg))
  have n0_ := Aside0.mk (blk_drew BK178.out)
  have n1_ := Aside0.mk (below_drew1 HB.out)
  clear BK178
  clear HB
  have BK178 := n0_
  have HB := n1_
  clear n0_ n1_
  refine start_ (n := 17) (S := fun w' => w'.cell? ⟨gb178, 0, none⟩ = some (.int .i64 a0_0) ∧ w'.cell? ⟨gb178, 1, none⟩ = some (.int .i64 a0_1) ∧ w'.cell? ⟨gb178, 2, none⟩ = some (.int .i64 a0_2) ∧ w'.cell? ⟨gb178, 3, none⟩ = some (.int .i64 a0_3) ∧ w'.cell? ⟨gb178, 4, none⟩ = some (.int .i64 a0_4) ∧ w'.cell? ⟨gb178, 5, none⟩ = some (.int .i64 a0_5) ∧ w'.cell? ⟨gb178, 6, none⟩ = some (.int .i64 a0_6)) (ds := []) tf17_0 (by kernel_rfl) rfl rfl ⟨(blk_cell BK178.out 0).trans rfl, (blk_cell BK178.out 1).trans rfl, (blk_cell BK178.out 2).trans rfl, (blk_cell BK178.out 3).trans rfl, (blk_cell BK178.out 4).trans rfl, (blk_cell BK178.out 5).trans rfl, (blk_cell BK178.out 6).trans rfl⟩ (fun hHeld => ?_); refine with_tabW spillwaylaw03_SpanMembers.tab1 spillwaylaw03_SpanMembers.bits1 (fun HT_ HW_ => ?_)
  generalize w6.drew = w7 at BK178 HB hHeld ⊢
  refine pure_ (i := 0) (N := some 15) (v := ?_) (a' := ?_) tf17_10000 rfl rfl (any_of HT_.out (by kernel_rfl)) (fun _ _ _ h => h) (Or.inl ⟨by rfl, ?_⟩) ?_ ?_
  rotate_left
  ·intro w'
   go_simp
   with_reducible rfl
  rotate_left
  ·simp only [Act.put, sA, sZ, sS, i64_w, i32_w]
   rfl
  refine pure_ (i := 2) (N := some 17) (v := ?_) (a' := ?_) tf17_14000 rfl rfl (any_of HT_.out (by kernel_rfl)) (fun _ _ _ h => h) (Or.inl ⟨by rfl, ?_⟩) ?_ ?_
  rotate_left
  ·intro w'
   go_simp
   with_reducible rfl
  rotate_left
  ·simp only [Act.put, sA, sZ, sS, i64_w, i32_w]
   rfl
  refine pure_ (i := 4) (N := some 19) (v := ?_) (a' := ?_) tf17_15000 rfl rfl (any_of HT_.out (by kernel_rfl)) (fun _ _ _ h => h) (Or.inl ⟨by rfl, ?_⟩) ?_ ?_
  rotate_left
  ·intro w'
   go_simp
   with_reducible rfl
  rotate_left
  ·simp only [Act.put, sA, sZ, sS, i64_w, i32_w]
   rfl
  refine pure_ (i := 6) (N := some 21) (v := ?_) (a' := ?_) tf17_15400 rfl rfl (any_of HT_.out (by kernel_rfl)) (fun _ _ _ h => h) (Or.inl ⟨by rfl, ?_⟩) ?_ ?_
  rotate_left
  ·intro w'
   go_simp
   with_reducible rfl
  rotate_left
  ·simp only [Act.put, sA, sZ, sS, i64_w, i32_w]
   rfl
  refine pure_ (i := 8) (N := some 23) (v := ?_) (a' := ?_) tf17_15500 rfl rfl (any_of HT_.out (by kernel_rfl)) (fun _ _ _ h => h) (Or.inl ⟨by rfl, ?_⟩) ?_ ?_
  rotate_left
  ·intro w'
   go_simp
   with_reducible rfl
  rotate_left
  ·simp only [Act.put, sA, sZ, sS, i64_w, i32_w]
   rfl
  refine take_ (i := 1) (N := some 16) (v := ?_) (a' := ?_) tf17_1d500 rfl rfl (take_ofW HT_.out HW_.out (by kernel_rfl)) (fun _ _ _ h => h) (Or.inl ⟨by rfl, ?_⟩) hHeld ?_ ?_
  rotate_left
  ·rintro w' ⟨s0, s1, s2, s3, s4, s5, s6⟩
   go_simp
   with_reducible rfl
  rotate_left
  ·simp only [Act.put, sA, sZ, sS, i64_w, i32_w]
   rfl
  refine take_ (i := 3) (N := some 18) (v := ?_) (a' := ?_) tf17_1f500 rfl rfl (take_ofW HT_.out HW_.out (by kernel_rfl)) (fun _ _ _ h => h) (Or.inl ⟨by rfl, ?_⟩) hHeld ?_ ?_
  rotate_left
  ·rintro w' ⟨s0, s1, s2, s3, s4, s5, s6⟩
   go_simp
   with_reducible rfl
  rotate_left
  ·simp only [Act.put, sA, sZ, sS, i64_w, i32_w]
   rfl
  refine take_ (i := 5) (N := some 20) (v := ?_) (a' := ?_) tf17_1fd00 rfl rfl (take_ofW HT_.out HW_.out (by kernel_rfl)) (fun _ _ _ h => h) (Or.inl ⟨by rfl, ?_⟩) hHeld ?_ ?_
  rotate_left
  ·rintro w' ⟨s0, s1, s2, s3, s4, s5, s6⟩
   go_simp
   with_reducible rfl
  rotate_left
  ·simp only [Act.put, sA, sZ, sS, i64_w, i32_w]
   rfl
  refine take_ (i := 7) (N := some 22) (v := ?_) (a' := ?_) tf17_1ff00 rfl rfl (take_ofW HT_.out HW_.out (by kernel_rfl)) (fun _ _ _ h => h) (Or.inl ⟨by rfl, ?_⟩) hHeld ?_ ?_
  rotate_left
  ·rintro w' ⟨s0, s1, s2, s3, s4, s5, s6⟩
   go_simp
   with_reducible rfl
  rotate_left
  ·simp only [Act.put, sA, sZ, sS, i64_w, i32_w]
   rfl
  refine take_ (i := 9) (N := some 24) (v := ?_) (a' := ?_) tf17_1ff80 rfl rfl (take_ofW HT_.out HW_.out (by kernel_rfl)) (fun _ _ _ h => h) (Or.inl ⟨by rfl, ?_⟩) hHeld ?_ ?_
  rotate_left
  ·rintro w' ⟨s0, s1, s2, s3, s4, s5, s6⟩
   go_simp
   with_reducible rfl
  rotate_left
  ·simp only [Act.put, sA, sZ, sS, i64_w, i32_w]
   rfl
  refine join_ (σ := Nat × Nat) 5 tf17_1ffe0 (fun s_ => [(3, .pointer (some ⟨s_.1, 0, none⟩)), (4, .pointer (some ⟨s_.2, 0, none⟩))]) (fun s_ w' => (w'.cell? ⟨gb178, 0, none⟩ = some (.int .i64 a0_0) ∧ w'.cell? ⟨gb178, 1, none⟩ = some (.int .i64 a0_1) ∧ w'.cell? ⟨gb178, 2, none⟩ = some (.int .i64 a0_2) ∧ w'.cell? ⟨gb178, 3, none⟩ = some (.int .i64 a0_3) ∧ w'.cell? ⟨gb178, 4, none⟩ = some (.int .i64 a0_4) ∧ w'.cell? ⟨gb178, 5, none⟩ = some (.int .i64 a0_5) ∧ w'.cell? ⟨gb178, 6, none⟩ = some (.int .i64 a0_6)) ∧ (w'.heap[gb178]? = some (.cells #[.int .i64 a0_0, .int .i64 a0_1, .int .i64 a0_2, .int .i64 a0_3, .int .i64 a0_4, .int .i64 a0_5, .int .i64 a0_6] 52 (0, 0))) ∧ (w'.heap[s_.1]? = some (.cells #[.int .i64 0, .int .i64 0] 23 (0, 0))) ∧ (w'.heap[s_.2]? = some (.cells #[.int .i64 0, .int .i64 0] 23 (0, 0))) ∧ (w.heap.size ≤ s_.1) ∧ (w.heap.size ≤ s_.1) ∧ (gb178 ≠ s_.1) ∧ (s_.1 ≠ gb178) ∧ (s_.2 ≠ s_.1) ∧ (s_.1 ≠ s_.2) ∧ (w.heap.size ≤ s_.2) ∧ (w.heap.size ≤ s_.2) ∧ (gb178 ≠ s_.2) ∧ (s_.2 ≠ gb178) ∧ (Below w.heap.size w w')) ?_ ?_
  rotate_left
  ·intro hCont
   refine two_ (i := 10) (j := 11) (Ni := some 3) (Nj := some 4) tf17_1ffc0 tf17_1ffa0 rfl rfl rfl rfl (two_of HT_.out (by kernel_rfl)) (by decide) (by decide) (fun K hK => ?_) (fun K hK => ?_)
   ·skip
    refine box_step ?hg (N := 3) ?hd (cs := #[.int .i64 0, .int .i64 0]) (t := 23) ?hr ?_; (case hd => rfl); (case hg => rfl); (case hr => first | (go_simp; done) | (go_simp; rfl))
    intro gb179 hg w8 hbox hb
    have n0_ := Aside0.mk (blk_below (sp BK178.out) hb)
    have n1_ := Aside0.mk (below_step (by repeat (first | (with_reducible first | exact HB.out | apply bA | apply bD | apply bW | refine bS ?_ GE178.out) | exact HB.out)) hb)
    have n2_ := Aside0.mk (hbox)
    have n3_ := Aside0.mk ((by rw [hg]; exact (below_size (by repeat (first | (with_reducible first | exact HB.out | apply bA | apply bD | apply bW | refine bS ?_ GE178.out) | exact HB.out))) : w.heap.size ≤ gb179))
    have n4_ := Aside0.mk ((by rw [hg]; exact (below_size (by repeat (first | (with_reducible first | exact HB.out | apply bA | apply bD | apply bW | refine bS ?_ GE178.out) | exact HB.out))) : w.heap.size ≤ gb179))
    have n5_ := Aside0.mk ((by rw [hg]; exact Nat.ne_of_lt (blk_lt (g := gb178) (o := .cells #[.int .i64 a0_0, .int .i64 a0_1, .int .i64 a0_2, .int .i64 a0_3, .int .i64 a0_4, .int .i64 a0_5, .int .i64 a0_6] 52 (0, 0)) (sp BK178.out)) : gb178 ≠ gb179))
    have n6_ := Aside0.mk ((by rw [hg]; exact Nat.ne_of_gt (blk_lt (g := gb178) (o := .cells #[.int .i64 a0_0, .int .i64 a0_1, .int .i64 a0_2, .int .i64 a0_3, .int .i64 a0_4, .int .i64 a0_5, .int .i64 a0_6] 52 (0, 0)) (sp BK178.out)) : gb179 ≠ gb178))
    clear BK178
    clear HB
    have BK178 := n0_
    have HB := n1_
    have BK179 := n2_
    have GW179 := n3_
    have GE179 := n4_
    have NB178_179 := n5_
    have NB179_178 := n6_
    clear n0_ n1_ n2_ n3_ n4_ n5_ n6_
    clear hb hbox hg
    refine hK.out _ _ ⟨(blk_cell BK178.out 0).trans rfl, (blk_cell BK178.out 1).trans rfl, (blk_cell BK178.out 2).trans rfl, (blk_cell BK178.out 3).trans rfl, (blk_cell BK178.out 4).trans rfl, (blk_cell BK178.out 5).trans rfl, (blk_cell BK178.out 6).trans rfl⟩ (fun hHeld => ?_)
    clear hK K
    refine norm_ (a' := ?_) ?_ ?_
    rotate_left
    ·show Act.put _ (some 3) _ = _
     simp only [Act.put, sA, sZ, sS, i64_w, i32_w]
     rfl
    refine one_ (i := 11) (N := some 4) tf17_1ffe0 rfl rfl (one_of HT_.out (by kernel_rfl)) (by decide) (fun K hK => ?_)
    refine box_step ?hg (N := 4) ?hd (cs := #[.int .i64 0, .int .i64 0]) (t := 23) ?hr ?_; (case hd => rfl); (case hg => rfl); (case hr => first | (go_simp; done) | (go_simp; rfl))
    intro gb180 hg w9 hbox hb
    have n0_ := Aside0.mk (blk_below (sp BK178.out) hb)
    have n1_ := Aside0.mk (blk_below (sp BK179.out) hb)
    have n2_ := Aside0.mk (below_step (by repeat (first | (with_reducible first | exact HB.out | apply bA | apply bD | apply bW | refine bS ?_ GE178.out | refine bS ?_ GE179.out) | exact HB.out)) hb)
    have n3_ := Aside0.mk (hbox)
    have n4_ := Aside0.mk ((by rw [hg]; exact (below_size (by repeat (first | (with_reducible first | exact HB.out | apply bA | apply bD | apply bW | refine bS ?_ GE178.out | refine bS ?_ GE179.out) | exact HB.out))) : w.heap.size ≤ gb180))
    have n5_ := Aside0.mk ((by rw [hg]; exact (below_size (by repeat (first | (with_reducible first | exact HB.out | apply bA | apply bD | apply bW | refine bS ?_ GE178.out | refine bS ?_ GE179.out) | exact HB.out))) : w.heap.size ≤ gb180))
    have n6_ := Aside0.mk ((by rw [hg]; exact Nat.ne_of_lt (blk_lt (g := gb178) (o := .cells #[.int .i64 a0_0, .int .i64 a0_1, .int .i64 a0_2, .int .i64 a0_3, .int .i64 a0_4, .int .i64 a0_5, .int .i64 a0_6] 52 (0, 0)) (sp BK178.out)) : gb178 ≠ gb180))
    have n7_ := Aside0.mk ((by rw [hg]; exact Nat.ne_of_gt (blk_lt (g := gb178) (o := .cells #[.int .i64 a0_0, .int .i64 a0_1, .int .i64 a0_2, .int .i64 a0_3, .int .i64 a0_4, .int .i64 a0_5, .int .i64 a0_6] 52 (0, 0)) (sp BK178.out)) : gb180 ≠ gb178))
    have n8_ := Aside0.mk ((by rw [hg]; exact Nat.ne_of_lt (blk_lt (g := gb179) (o := .cells #[.int .i64 0, .int .i64 0] 23 (0, 0)) (sp BK179.out)) : gb179 ≠ gb180))
    have n9_ := Aside0.mk ((by rw [hg]; exact Nat.ne_of_gt (blk_lt (g := gb179) (o := .cells #[.int .i64 0, .int .i64 0] 23 (0, 0)) (sp BK179.out)) : gb180 ≠ gb179))
    clear BK178
    clear BK179
    clear HB
    have BK178 := n0_
    have BK179 := n1_
    have HB := n2_
    have BK180 := n3_
    have GW180 := n4_
    have GE180 := n5_
    have NB178_180 := n6_
    have NB180_178 := n7_
    have NB179_180 := n8_
    have NB180_179 := n9_
    clear n0_ n1_ n2_ n3_ n4_ n5_ n6_ n7_ n8_ n9_
    clear hb hbox hg
    refine hK.out _ _ ⟨(blk_cell BK178.out 0).trans rfl, (blk_cell BK178.out 1).trans rfl, (blk_cell BK178.out 2).trans rfl, (blk_cell BK178.out 3).trans rfl, (blk_cell BK178.out 4).trans rfl, (blk_cell BK178.out 5).trans rfl, (blk_cell BK178.out 6).trans rfl⟩ (fun hHeld => ?_)
    clear hK K
    refine norm_ (a' := ?_) ?_ ?_
    rotate_left
    ·show Act.put _ (some 4) _ = _
     simp only [Act.put, sA, sZ, sS, i64_w, i32_w]
     rfl
    exact norm_ (by simp only [putAll, Act.put, List.setIfInBounds_toArray, List.set_cons_zero, List.set_cons_succ]) (hCont (gb179, gb180) _ ⟨hHeld, (sp BK178.out), (sp BK179.out), (sp BK180.out), GW179.out, GE179.out, NB178_179.out, NB179_178.out, NB180_179.out, NB179_180.out, GW180.out, GE180.out, NB178_180.out, NB180_178.out, (by repeat (first | (with_reducible first | exact HB.out | apply bA | apply bD | apply bW | refine bS ?_ GE178.out | refine bS ?_ GE179.out | refine bS ?_ GE180.out) | exact HB.out))⟩)
   ·skip
    refine box_step ?hg (N := 4) ?hd (cs := #[.int .i64 0, .int .i64 0]) (t := 23) ?hr ?_; (case hd => rfl); (case hg => rfl); (case hr => first | (go_simp; done) | (go_simp; rfl))
    intro gb180 hg w8 hbox hb
    have n0_ := Aside0.mk (blk_below (sp BK178.out) hb)
    have n1_ := Aside0.mk (below_step (by repeat (first | (with_reducible first | exact HB.out | apply bA | apply bD | apply bW | refine bS ?_ GE178.out) | exact HB.out)) hb)
    have n2_ := Aside0.mk (hbox)
    have n3_ := Aside0.mk ((by rw [hg]; exact (below_size (by repeat (first | (with_reducible first | exact HB.out | apply bA | apply bD | apply bW | refine bS ?_ GE178.out) | exact HB.out))) : w.heap.size ≤ gb180))
    have n4_ := Aside0.mk ((by rw [hg]; exact (below_size (by repeat (first | (with_reducible first | exact HB.out | apply bA | apply bD | apply bW | refine bS ?_ GE178.out) | exact HB.out))) : w.heap.size ≤ gb180))
    have n5_ := Aside0.mk ((by rw [hg]; exact Nat.ne_of_lt (blk_lt (g := gb178) (o := .cells #[.int .i64 a0_0, .int .i64 a0_1, .int .i64 a0_2, .int .i64 a0_3, .int .i64 a0_4, .int .i64 a0_5, .int .i64 a0_6] 52 (0, 0)) (sp BK178.out)) : gb178 ≠ gb180))
    have n6_ := Aside0.mk ((by rw [hg]; exact Nat.ne_of_gt (blk_lt (g := gb178) (o := .cells #[.int .i64 a0_0, .int .i64 a0_1, .int .i64 a0_2, .int .i64 a0_3, .int .i64 a0_4, .int .i64 a0_5, .int .i64 a0_6] 52 (0, 0)) (sp BK178.out)) : gb180 ≠ gb178))
    clear BK178
    clear HB
    have BK178 := n0_
    have HB := n1_
    have BK180 := n2_
    have GW180 := n3_
    have GE180 := n4_
    have NB178_180 := n5_
    have NB180_178 := n6_
    clear n0_ n1_ n2_ n3_ n4_ n5_ n6_
    clear hb hbox hg
    refine hK.out _ _ ⟨(blk_cell BK178.out 0).trans rfl, (blk_cell BK178.out 1).trans rfl, (blk_cell BK178.out 2).trans rfl, (blk_cell BK178.out 3).trans rfl, (blk_cell BK178.out 4).trans rfl, (blk_cell BK178.out 5).trans rfl, (blk_cell BK178.out 6).trans rfl⟩ (fun hHeld => ?_)
    clear hK K
    refine norm_ (a' := ?_) ?_ ?_
    rotate_left
    ·show Act.put _ (some 4) _ = _
     simp only [Act.put, sA, sZ, sS, i64_w, i32_w]
     rfl
    refine one_ (i := 10) (N := some 3) tf17_1ffe0 rfl rfl (one_of HT_.out (by kernel_rfl)) (by decide) (fun K hK => ?_)
    refine box_step ?hg (N := 3) ?hd (cs := #[.int .i64 0, .int .i64 0]) (t := 23) ?hr ?_; (case hd => rfl); (case hg => rfl); (case hr => first | (go_simp; done) | (go_simp; rfl))
    intro gb179 hg w9 hbox hb
    have n0_ := Aside0.mk (blk_below (sp BK178.out) hb)
    have n1_ := Aside0.mk (blk_below (sp BK180.out) hb)
    have n2_ := Aside0.mk (below_step (by repeat (first | (with_reducible first | exact HB.out | apply bA | apply bD | apply bW | refine bS ?_ GE178.out | refine bS ?_ GE180.out) | exact HB.out)) hb)
    have n3_ := Aside0.mk (hbox)
    have n4_ := Aside0.mk ((by rw [hg]; exact (below_size (by repeat (first | (with_reducible first | exact HB.out | apply bA | apply bD | apply bW | refine bS ?_ GE178.out | refine bS ?_ GE180.out) | exact HB.out))) : w.heap.size ≤ gb179))
    have n5_ := Aside0.mk ((by rw [hg]; exact (below_size (by repeat (first | (with_reducible first | exact HB.out | apply bA | apply bD | apply bW | refine bS ?_ GE178.out | refine bS ?_ GE180.out) | exact HB.out))) : w.heap.size ≤ gb179))
    have n6_ := Aside0.mk ((by rw [hg]; exact Nat.ne_of_lt (blk_lt (g := gb178) (o := .cells #[.int .i64 a0_0, .int .i64 a0_1, .int .i64 a0_2, .int .i64 a0_3, .int .i64 a0_4, .int .i64 a0_5, .int .i64 a0_6] 52 (0, 0)) (sp BK178.out)) : gb178 ≠ gb179))
    have n7_ := Aside0.mk ((by rw [hg]; exact Nat.ne_of_gt (blk_lt (g := gb178) (o := .cells #[.int .i64 a0_0, .int .i64 a0_1, .int .i64 a0_2, .int .i64 a0_3, .int .i64 a0_4, .int .i64 a0_5, .int .i64 a0_6] 52 (0, 0)) (sp BK178.out)) : gb179 ≠ gb178))
    have n8_ := Aside0.mk ((by rw [hg]; exact Nat.ne_of_lt (blk_lt (g := gb180) (o := .cells #[.int .i64 0, .int .i64 0] 23 (0, 0)) (sp BK180.out)) : gb180 ≠ gb179))
    have n9_ := Aside0.mk ((by rw [hg]; exact Nat.ne_of_gt (blk_lt (g := gb180) (o := .cells #[.int .i64 0, .int .i64 0] 23 (0, 0)) (sp BK180.out)) : gb179 ≠ gb180))
    clear BK178
    clear BK180
    clear HB
    have BK178 := n0_
    have BK180 := n1_
    have HB := n2_
    have BK179 := n3_
    have GW179 := n4_
    have GE179 := n5_
    have NB178_179 := n6_
    have NB179_178 := n7_
    have NB180_179 := n8_
    have NB179_180 := n9_
    clear n0_ n1_ n2_ n3_ n4_ n5_ n6_ n7_ n8_ n9_
    clear hb hbox hg
    refine hK.out _ _ ⟨(blk_cell BK178.out 0).trans rfl, (blk_cell BK178.out 1).trans rfl, (blk_cell BK178.out 2).trans rfl, (blk_cell BK178.out 3).trans rfl, (blk_cell BK178.out 4).trans rfl, (blk_cell BK178.out 5).trans rfl, (blk_cell BK178.out 6).trans rfl⟩ (fun hHeld => ?_)
    clear hK K
    refine norm_ (a' := ?_) ?_ ?_
    rotate_left
    ·show Act.put _ (some 3) _ = _
     simp only [Act.put, sA, sZ, sS, i64_w, i32_w]
     rfl
    exact norm_ (by simp only [putAll, Act.put, List.setIfInBounds_toArray, List.set_cons_zero, List.set_cons_succ]) (hCont (gb179, gb180) _ ⟨hHeld, (sp BK178.out), (sp BK179.out), (sp BK180.out), GW179.out, GE179.out, NB178_179.out, NB179_178.out, NB180_179.out, NB179_180.out, GW180.out, GE180.out, NB178_180.out, NB180_178.out, (by repeat (first | (with_reducible first | exact HB.out | apply bA | apply bD | apply bW | refine bS ?_ GE178.out | refine bS ?_ GE180.out | refine bS ?_ GE179.out) | exact HB.out))⟩)
  rintro ⟨gb179, gb180⟩ w10 ⟨hS_, h0_, h1_, h2_, h3_, h4_, h5_, h6_, h7_, h8_, h9_, h10_, h11_, h12_, h13_⟩
  have n0_ : Aside0 (w10.heap[gb178]? = some (.cells #[.int .i64 a0_0, .int .i64 a0_1, .int .i64 a0_2, .int .i64 a0_3, .int .i64 a0_4, .int .i64 a0_5, .int .i64 a0_6] 52 (0, 0))) := ⟨h0_⟩
  have n1_ : Aside0 (w10.heap[gb179]? = some (.cells #[.int .i64 0, .int .i64 0] 23 (0, 0))) := ⟨h1_⟩
  have n2_ : Aside0 (w10.heap[gb180]? = some (.cells #[.int .i64 0, .int .i64 0] 23 (0, 0))) := ⟨h2_⟩
  have n3_ : Aside0 (w.heap.size ≤ gb179) := ⟨h3_⟩
  have n4_ : Aside0 (w.heap.size ≤ gb179) := ⟨h4_⟩
  have n5_ : Aside0 (gb178 ≠ gb179) := ⟨h5_⟩
  have n6_ : Aside0 (gb179 ≠ gb178) := ⟨h6_⟩
  have n7_ : Aside0 (gb180 ≠ gb179) := ⟨h7_⟩
  have n8_ : Aside0 (gb179 ≠ gb180) := ⟨h8_⟩
  have n9_ : Aside0 (w.heap.size ≤ gb180) := ⟨h9_⟩
  have n10_ : Aside0 (w.heap.size ≤ gb180) := ⟨h10_⟩
  have n11_ : Aside0 (gb178 ≠ gb180) := ⟨h11_⟩
  have n12_ : Aside0 (gb180 ≠ gb178) := ⟨h12_⟩
  have n13_ : Aside0 (Below w.heap.size w w10) := ⟨h13_⟩
  clear BK178
  clear HB
  clear h0_ h1_ h2_ h3_ h4_ h5_ h6_ h7_ h8_ h9_ h10_ h11_ h12_ h13_
  have BK178 := n0_
  have BK179 := n1_
  have BK180 := n2_
  have GW179 := n3_
  have GE179 := n4_
  have NB178_179 := n5_
  have NB179_178 := n6_
  have NB180_179 := n7_
  have NB179_180 := n8_
  have GW180 := n9_
  have GE180 := n10_
  have NB178_180 := n11_
  have NB180_178 := n12_
  have HB := n13_
  clear n0_ n1_ n2_ n3_ n4_ n5_ n6_ n7_ n8_ n9_ n10_ n11_ n12_ n13_
  have hHeld : w10.cell? ⟨gb178, 0, none⟩ = some (.int .i64 a0_0) ∧ w10.cell? ⟨gb178, 1, none⟩ = some (.int .i64 a0_1) ∧ w10.cell? ⟨gb178, 2, none⟩ = some (.int .i64 a0_2) ∧ w10.cell? ⟨gb178, 3, none⟩ = some (.int .i64 a0_3) ∧ w10.cell? ⟨gb178, 4, none⟩ = some (.int .i64 a0_4) ∧ w10.cell? ⟨gb178, 5, none⟩ = some (.int .i64 a0_5) ∧ w10.cell? ⟨gb178, 6, none⟩ = some (.int .i64 a0_6) := hS_
  refine norm_ (a' := ?_) ?_ ?_
  rotate_left
  ·simp only [putAll, Act.put, List.setIfInBounds_toArray, List.set_cons_zero, List.set_cons_succ]
   rfl
  refine one_ (i := 12) (N := none) tf17_1fff0 rfl rfl (one_of HT_.out (by kernel_rfl)) (by decide) (fun K hK => ?_)
  have hs11 : w10.cell? ⟨gb179, 0, none⟩ = some (.int .i64 0) := (blk_cell BK179.out 0).trans rfl
  have hfs11 := blk_frozen BK179.out 0
  have hns11_0 := NB178_179.out
  have hns11_2 := NB180_179.out
  have hms11_0 := NB179_178.out
  have hms11_2 := NB179_180.out
  have hs12 : w10.cell? ⟨gb179, 1, none⟩ = some (.int .i64 0) := (blk_cell BK179.out 1).trans rfl
  have hfs12 := blk_frozen BK179.out 1
  have hns12_0 := NB178_179.out
  have hns12_2 := NB180_179.out
  have hms12_0 := NB179_178.out
  have hms12_2 := NB179_180.out
  refine skip_ (w1 := ?_) (by rfl) rfl ?_ ?_
  rotate_left
  ·go_simp
   rfl
  refine hK.out _ _ ⟨(cfs2 NB178_179.out hHeld.1), (cfs2 NB178_179.out hHeld.2.1), (cfs2 NB178_179.out hHeld.2.2.1), (cfs2 NB178_179.out hHeld.2.2.2.1), (cfs2 NB178_179.out hHeld.2.2.2.2.1), (cfs2 NB178_179.out hHeld.2.2.2.2.2.1), (cfs2 NB178_179.out hHeld.2.2.2.2.2.2)⟩ (fun hHeld => ?_)
  clear hK K
  refine one_ (i := 13) (N := none) tf17_1fff8 rfl rfl (one_of HT_.out (by kernel_rfl)) (by decide) (fun K hK => ?_)
  have hs13 : w10.cell? ⟨gb180, 0, none⟩ = some (.int .i64 0) := (blk_cell BK180.out 0).trans rfl
  have hfs13 := blk_frozen BK180.out 0
  have hns13_0 := NB178_180.out
  have hns13_1 := NB179_180.out
  have hms13_0 := NB180_178.out
  have hms13_1 := NB180_179.out
  have hs14 : w10.cell? ⟨gb180, 1, none⟩ = some (.int .i64 0) := (blk_cell BK180.out 1).trans rfl
  have hfs14 := blk_frozen BK180.out 1
  have hns14_0 := NB178_180.out
  have hns14_1 := NB179_180.out
  have hms14_0 := NB180_178.out
  have hms14_1 := NB180_179.out
  refine skip_ (w1 := ?_) (by rfl) rfl ?_ ?_
  rotate_left
  ·go_simp
   rfl
  refine hK.out _ _ ⟨(cfs2 NB178_180.out hHeld.1), (cfs2 NB178_180.out hHeld.2.1), (cfs2 NB178_180.out hHeld.2.2.1), (cfs2 NB178_180.out hHeld.2.2.2.1), (cfs2 NB178_180.out hHeld.2.2.2.2.1), (cfs2 NB178_180.out hHeld.2.2.2.2.2.1), (cfs2 NB178_180.out hHeld.2.2.2.2.2.2)⟩ (fun hHeld => ?_)
  clear hK K
  refine pure_ (i := 14) (N := some 5) (v := ?_) (a' := ?_) tf17_1fffc rfl rfl (any_of HT_.out (by kernel_rfl)) (fun _ _ _ h => h) (Or.inl ⟨by rfl, ?_⟩) ?_ ?_
  rotate_left
  ·intro w'
   go_simp
   with_reducible rfl
  rotate_left
  ·simp only [Act.put, sA, sZ, sS, i64_w, i32_w]
   rfl
  refine pure_ (i := 15) (N := some 6) (v := ?_) (a' := ?_) tf17_1fffe rfl rfl (any_of HT_.out (by kernel_rfl)) (fun _ _ _ h => h) (Or.inl ⟨by rfl, ?_⟩) ?_ ?_
  rotate_left
  ·intro w'
   go_simp
   with_reducible rfl
  rotate_left
  ·simp only [Act.put, sA, sZ, sS, i64_w, i32_w]
   rfl
  refine pure_ (i := 16) (N := some 7) (v := ?_) (a' := ?_) tf17_1ffff rfl rfl (any_of HT_.out (by kernel_rfl)) (fun _ _ _ h => h) (Or.inl ⟨by rfl, ?_⟩) ?_ ?_
  rotate_left
  ·intro w'
   go_simp
   with_reducible rfl
  rotate_left
  ·simp only [Act.put, sA, sZ, sS, i64_w, i32_w]
   rfl
  refine done_ (done_of HT_.out (by kernel_rfl)) ?_
  go_upto_region 5 with (first | ((with_reducible refine gate_callee (f := 17) rfl ?_); refine goesL_ (some 25) rfl rfl Try.func17 (by kernel_rfl) rfl #[] rfl (by (try simp only [List.map_toArray, List.map_cons, List.map_nil]); first | done | rfl | (simp only [List.length_drop, List.length_take]; rfl)) ?_; (with_reducible refine (spillwaylaw03_fixed.calls k  true _ A2.out).mono ?_); rintro e w15 ⟨rfl, hb⟩; refine ⟨_, rfl, ?_⟩; have n0_ := Aside0.mk (blk_below (g := gb178) (o := .cells #[.int .i64 a0_0, .int .i64 a0_1, .int .i64 a0_2, .int .i64 a0_3, .int .i64 a0_4, .int .i64 a0_5, .int .i64 a0_6] 52 (0, 0)) (sp (blk_far (sp (blk_far (sp (blk_far (sp (blk_far (sp BK178.out) NB178_179.out _)) NB178_179.out _)) NB178_180.out _)) NB178_180.out _)) hb); have n1_ := Aside0.mk (blk_below (g := gb179) (o := .cells #[.int .i64 a0_0, .int .i64 a0_1] 23 (0, 0)) (by refine sp (blk_far ?_ NB179_180.out _); refine sp (blk_far ?_ NB179_180.out _); (with_reducible repeat first | apply dN | apply dW | apply dL); refine blk_put (cs := #[.int .i64 a0_0, .int .i64 0]) ?_ 1 _ rfl; (with_reducible repeat first | apply dN | apply dW | apply dL); refine blk_put (cs := #[.int .i64 0, .int .i64 0]) ?_ 0 _ rfl; exact sp BK179.out) hb); have n2_ := Aside0.mk (blk_below (g := gb180) (o := .cells #[.int .i64 a0_2, .int .i64 a0_3] 23 (0, 0)) (by (with_reducible repeat first | apply dN | apply dW | apply dL); refine blk_put (cs := #[.int .i64 a0_2, .int .i64 0]) ?_ 1 _ rfl; (with_reducible repeat first | apply dN | apply dW | apply dL); refine blk_put (cs := #[.int .i64 0, .int .i64 0]) ?_ 0 _ rfl; refine sp (blk_far ?_ NB180_179.out _); refine sp (blk_far ?_ NB180_179.out _); exact sp BK180.out) hb); have n3_ := Aside0.mk (below_step (by repeat (first | (with_reducible first | exact HB.out | apply bA | apply bD | apply bW | refine bS ?_ GE178.out | refine bS ?_ GE179.out | refine bS ?_ GE180.out) | exact HB.out)) hb); clear BK178; clear BK179; clear BK180; clear HB; have BK178 := n0_; have BK179 := n1_; have BK180 := n2_; have HB := n3_; clear n0_ n1_ n2_ n3_; (try clear hb); (try clear hb2); (try clear hk); (try clear hi); have hnb16 := NB179_178.out; have hnc16 := NB178_179.out; have hnb17 := NB179_180.out; have hnc17 := NB180_179.out; have hcz18_0 : w15.cell? ⟨gb179, 0, none⟩ = some (.int .i64 a0_0) := (blk_cell BK179.out 0).trans rfl; have hcz18_1 : w15.cell? ⟨gb179, 1, none⟩ = some (.int .i64 a0_1) := (blk_cell BK179.out 1).trans rfl; have hfz18_0 := blk_frozen BK179.out 0; have hfz18_1 := blk_frozen BK179.out 1; have hnb19 := NB180_178.out; have hnc19 := NB178_180.out; have hcz20_0 : w15.cell? ⟨gb180, 0, none⟩ = some (.int .i64 a0_2) := (blk_cell BK180.out 0).trans rfl; have hcz20_1 : w15.cell? ⟨gb180, 1, none⟩ = some (.int .i64 a0_3) := (blk_cell BK180.out 1).trans rfl; have hfz20_0 := blk_frozen BK180.out 0; have hfz20_1 := blk_frozen BK180.out 1) | ((with_reducible refine gate_callee (f := 26) rfl ?_); refine goesL_ (some 30) rfl rfl Try.func26 (by kernel_rfl) rfl #[.agg #[.int .i64 a0_0, .int .i64 a0_1], .agg #[.int .i64 a0_2, .int .i64 a0_3]] rfl (by (try simp only [List.map_toArray, List.map_cons, List.map_nil]); first | done | rfl | (simp only [List.length_drop, List.length_take]; rfl)) ?_; (with_reducible refine (span_Meet.calls a0_0 a0_1 a0_2 a0_3 t182 t183 t184 _ A4.out).mono ?_); rintro e w21 ⟨rfl, hb⟩; refine ⟨_, rfl, ?_⟩; have n0_ := Aside0.mk (blk_below (sp BK178.out) hb); have n1_ := Aside0.mk (blk_below (sp BK179.out) hb); have n2_ := Aside0.mk (blk_below (sp BK180.out) hb); have n3_ := Aside0.mk (below_step (by repeat (first | (with_reducible first | exact HB.out | apply bA | apply bD | apply bW | refine bS ?_ GE178.out | refine bS ?_ GE179.out | refine bS ?_ GE180.out) | exact HB.out)) hb); clear BK178; clear BK179; clear BK180; clear HB; have BK178 := n0_; have BK179 := n1_; have BK180 := n2_; have HB := n3_; clear n0_ n1_ n2_ n3_; (try clear hb); (try clear hb2); (try clear hk); (try clear hi)) | ((with_reducible refine gate_dst (N := 8) rfl ?_); refine box_event ?hg (N := 8) ?hd (cs := #[.int .i64 0, .int .i64 0]) (t := 23) ?hr ?_; (case hd => rfl); (case hg => rfl); (case hr => first | (go_simp; done) | (go_simp; rfl)); intro gb185 hg w22 hbox hb; have n0_ := Aside0.mk (blk_below (sp BK178.out) hb); have n1_ := Aside0.mk (blk_below (sp BK179.out) hb); have n2_ := Aside0.mk (blk_below (sp BK180.out) hb); have n3_ := Aside0.mk (below_step (by repeat (first | (with_reducible first | exact HB.out | apply bA | apply bD | apply bW | refine bS ?_ GE178.out | refine bS ?_ GE179.out | refine bS ?_ GE180.out) | exact HB.out)) hb); have n4_ := Aside0.mk (hbox); have n5_ := Aside0.mk ((by rw [hg]; exact (below_size (by repeat (first | (with_reducible first | exact HB.out | apply bA | apply bD | apply bW | refine bS ?_ GE178.out | refine bS ?_ GE179.out | refine bS ?_ GE180.out) | exact HB.out))) : w.heap.size ≤ gb185)); have n6_ := Aside0.mk ((by rw [hg]; exact (below_size (by repeat (first | (with_reducible first | exact HB.out | apply bA | apply bD | apply bW | refine bS ?_ GE178.out | refine bS ?_ GE179.out | refine bS ?_ GE180.out) | exact HB.out))) : w.heap.size ≤ gb185)); have n7_ := Aside0.mk ((by rw [hg]; exact Nat.ne_of_lt (blk_lt (g := gb178) (o := .cells #[.int .i64 a0_0, .int .i64 a0_1, .int .i64 a0_2, .int .i64 a0_3, .int .i64 a0_4, .int .i64 a0_5, .int .i64 a0_6] 52 (0, 0)) (sp BK178.out)) : gb178 ≠ gb185)); have n8_ := Aside0.mk ((by rw [hg]; exact Nat.ne_of_gt (blk_lt (g := gb178) (o := .cells #[.int .i64 a0_0, .int .i64 a0_1, .int .i64 a0_2, .int .i64 a0_3, .int .i64 a0_4, .int .i64 a0_5, .int .i64 a0_6] 52 (0, 0)) (sp BK178.out)) : gb185 ≠ gb178)); have n9_ := Aside0.mk ((by rw [hg]; exact Nat.ne_of_lt (blk_lt (g := gb179) (o := .cells #[.int .i64 a0_0, .int .i64 a0_1] 23 (0, 0)) (sp BK179.out)) : gb179 ≠ gb185)); have n10_ := Aside0.mk ((by rw [hg]; exact Nat.ne_of_gt (blk_lt (g := gb179) (o := .cells #[.int .i64 a0_0, .int .i64 a0_1] 23 (0, 0)) (sp BK179.out)) : gb185 ≠ gb179)); have n11_ := Aside0.mk ((by rw [hg]; exact Nat.ne_of_lt (blk_lt (g := gb180) (o := .cells #[.int .i64 a0_2, .int .i64 a0_3] 23 (0, 0)) (sp BK180.out)) : gb180 ≠ gb185)); have n12_ := Aside0.mk ((by rw [hg]; exact Nat.ne_of_gt (blk_lt (g := gb180) (o := .cells #[.int .i64 a0_2, .int .i64 a0_3] 23 (0, 0)) (sp BK180.out)) : gb185 ≠ gb180)); clear BK178; clear BK179; clear BK180; clear HB; have BK178 := n0_; have BK179 := n1_; have BK180 := n2_; have HB := n3_; have BK185 := n4_; have GW185 := n5_; have GE185 := n6_; have NB178_185 := n7_; have NB185_178 := n8_; have NB179_185 := n9_; have NB185_179 := n10_; have NB180_185 := n11_; have NB185_180 := n12_; clear n0_ n1_ n2_ n3_ n4_ n5_ n6_ n7_ n8_ n9_ n10_ n11_ n12_; clear hb hbox hg; have hnb23 := NB185_178.out; have hnc23 := NB178_185.out; have hnb24 := NB185_179.out; have hnc24 := NB179_185.out; have hnb25 := NB185_180.out; have hnc25 := NB180_185.out; have hcz26_0 : w22.cell? ⟨gb185, 0, none⟩ = some (.int .i64 0) := (blk_cell BK185.out 0).trans rfl; have hcz26_1 : w22.cell? ⟨gb185, 1, none⟩ = some (.int .i64 0) := (blk_cell BK185.out 1).trans rfl; have hfz26_0 := blk_frozen BK185.out 0; have hfz26_1 := blk_frozen BK185.out 1))
  (try simp only [Act.put, List.setIfInBounds_toArray, List.set_cons_zero, List.set_cons_succ])
  go_cut [47] (fun v47 wc => ∃ (kq : Nat) (x47_4 : Bool), v47 = .bool x47_4 ∧ Aside0 (spillwaylaw03_SpanMembers.j0 kq a0_4 a0_5 a0_6 x47_4 a0_0 a0_1 a0_2 a0_3 = some r) ∧ Aside0 (kq ≤ k) ∧ Aside0 (wc.heap[gb178]? = some (.cells #[.int .i64 a0_0, .int .i64 a0_1, .int .i64 a0_2, .int .i64 a0_3, .int .i64 a0_4, .int .i64 a0_5, .int .i64 a0_6] 52 (0, 0))) ∧ Aside0 (wc.heap[gb179]? = some (.cells #[.int .i64 a0_0, .int .i64 a0_1] 23 (0, 0))) ∧ Aside0 (wc.heap[gb180]? = some (.cells #[.int .i64 a0_2, .int .i64 a0_3] 23 (0, 0))) ∧ Aside0 (wc.heap[gb185]? = some (.cells #[.int .i64 t182, .int .i64 t183] 23 (0, 0))) ∧ Aside0 (Below w.heap.size w wc))
  case first =>
   have H := HC5.out
   clear HC5
   by_cases c27 : t184 = true
   ·subst c27
    have H1 : ((span_Has.f t182 t183 a0_4).bind fun t186 => ((span_Has.f a0_0 a0_1 a0_4).bind fun t187 => (if t187 = true then ((span_Has.f a0_2 a0_3 a0_4).bind fun t188 => (spillwaylaw03_SpanMembers.j0 k a0_4 a0_5 a0_6 (t186 != t188) a0_0 a0_1 a0_2 a0_3)) else (spillwaylaw03_SpanMembers.j0 k a0_4 a0_5 a0_6 (t186 != false) a0_0 a0_1 a0_2 a0_3)))) = some r := by rw [if_pos rfl] at H; exact H
    clear H
    have H := H1
    clear H1
    replace H := Option.bind_eq_some_iff.mp H
    obtain ⟨t186, A280, H⟩ := H
    replace H : ((span_Has.f a0_0 a0_1 a0_4).bind fun t187 => (if t187 = true then ((span_Has.f a0_2 a0_3 a0_4).bind fun t188 => (spillwaylaw03_SpanMembers.j0 k a0_4 a0_5 a0_6 (t186 != t188) a0_0 a0_1 a0_2 a0_3)) else (spillwaylaw03_SpanMembers.j0 k a0_4 a0_5 a0_6 (t186 != false) a0_0 a0_1 a0_2 a0_3))) = some r := H
    have A28 := Aside0.mk A280
    clear A280
    replace H := Option.bind_eq_some_iff.mp H
    obtain ⟨t187, A290, H⟩ := H
    replace H : (if t187 = true then ((span_Has.f a0_2 a0_3 a0_4).bind fun t188 => (spillwaylaw03_SpanMembers.j0 k a0_4 a0_5 a0_6 (t186 != t188) a0_0 a0_1 a0_2 a0_3)) else (spillwaylaw03_SpanMembers.j0 k a0_4 a0_5 a0_6 (t186 != false) a0_0 a0_1 a0_2 a0_3)) = some r := H
    have A29 := Aside0.mk A290
    clear A290
    by_cases c30 : t187 = true
    ·subst c30
     have H1 : ((span_Has.f a0_2 a0_3 a0_4).bind fun t188 => (spillwaylaw03_SpanMembers.j0 k a0_4 a0_5 a0_6 (t186 != t188) a0_0 a0_1 a0_2 a0_3)) = some r := by rw [if_pos rfl] at H; exact H
     clear H
     have H := H1
     clear H1
     replace H := Option.bind_eq_some_iff.mp H
     obtain ⟨t188, A310, H⟩ := H
     replace H : (spillwaylaw03_SpanMembers.j0 k a0_4 a0_5 a0_6 (t186 != t188) a0_0 a0_1 a0_2 a0_3) = some r := H
     have A31 := Aside0.mk A310
     clear A310
     have H' := Aside0.mk H
     clear H
     try go_wp2
     have n0_ : Aside0 (((w22.setCell ⟨gb185, 0, none⟩ (.int .i64 t182)).setCell ⟨gb185, 1, none⟩ (.int .i64 t183)).heap[gb178]? = some (.cells #[.int .i64 a0_0, .int .i64 a0_1, .int .i64 a0_2, .int .i64 a0_3, .int .i64 a0_4, .int .i64 a0_5, .int .i64 a0_6] 52 (0, 0))) := ⟨(sp (blk_far (sp (blk_far (sp BK178.out) NB178_185.out _)) NB178_185.out _))⟩
     have n1_ : Aside0 (((w22.setCell ⟨gb185, 0, none⟩ (.int .i64 t182)).setCell ⟨gb185, 1, none⟩ (.int .i64 t183)).heap[gb179]? = some (.cells #[.int .i64 a0_0, .int .i64 a0_1] 23 (0, 0))) := ⟨(sp (blk_far (sp (blk_far (sp BK179.out) NB179_185.out _)) NB179_185.out _))⟩
     have n2_ : Aside0 (((w22.setCell ⟨gb185, 0, none⟩ (.int .i64 t182)).setCell ⟨gb185, 1, none⟩ (.int .i64 t183)).heap[gb180]? = some (.cells #[.int .i64 a0_2, .int .i64 a0_3] 23 (0, 0))) := ⟨(sp (blk_far (sp (blk_far (sp BK180.out) NB180_185.out _)) NB180_185.out _))⟩
     have n3_ : Aside0 (((w22.setCell ⟨gb185, 0, none⟩ (.int .i64 t182)).setCell ⟨gb185, 1, none⟩ (.int .i64 t183)).heap[gb185]? = some (.cells #[.int .i64 t182, .int .i64 t183] 23 (0, 0))) := ⟨by (with_reducible repeat first | apply dN | apply dW | apply dL); refine blk_put (cs := #[.int .i64 t182, .int .i64 0]) ?_ 1 _ rfl; (with_reducible repeat first | apply dN | apply dW | apply dL); refine blk_put (cs := #[.int .i64 0, .int .i64 0]) ?_ 0 _ rfl; exact sp BK185.out⟩
     have n4_ : Aside0 (Below w.heap.size w ((w22.setCell ⟨gb185, 0, none⟩ (.int .i64 t182)).setCell ⟨gb185, 1, none⟩ (.int .i64 t183))) := ⟨by repeat (first | (with_reducible first | exact HB.out | apply bA | apply bD | apply bW | refine bS ?_ GE178.out | refine bS ?_ GE179.out | refine bS ?_ GE180.out | refine bS ?_ GE185.out) | exact HB.out)⟩
     (try clear BK178)
     (try clear BK179)
     (try clear BK180)
     (try clear BK185)
     (try clear HB)
     generalize ((w22.setCell ⟨gb185, 0, none⟩ (.int .i64 t182)).setCell ⟨gb185, 1, none⟩ (.int .i64 t183)) = w32 at n0_ n1_ n2_ n3_ n4_ ⊢
     have BK178 := n0_
     have BK179 := n1_
     have BK180 := n2_
     have BK185 := n3_
     have HB := n4_
     clear n0_ n1_ n2_ n3_ n4_
     have n0_ := Aside0.mk (blk_drew BK178.out)
     have n1_ := Aside0.mk (blk_drew BK179.out)
     have n2_ := Aside0.mk (blk_drew BK180.out)
     have n3_ := Aside0.mk (blk_drew BK185.out)
     have n4_ := Aside0.mk (below_drew1 HB.out)
     clear BK178
     clear BK179
     clear BK180
     clear BK185
     clear HB
     have BK178 := n0_
     have BK179 := n1_
     have BK180 := n2_
     have BK185 := n3_
     have HB := n4_
     clear n0_ n1_ n2_ n3_ n4_
     refine start_ (n := 15) (S := fun w' => w'.cell? ⟨gb185, 0, none⟩ = some (.int .i64 t182) ∧ w'.cell? ⟨gb185, 1, none⟩ = some (.int .i64 t183) ∧ w'.cell? ⟨gb179, 0, none⟩ = some (.int .i64 a0_0) ∧ w'.cell? ⟨gb179, 1, none⟩ = some (.int .i64 a0_1) ∧ w'.cell? ⟨gb180, 0, none⟩ = some (.int .i64 a0_2) ∧ w'.cell? ⟨gb180, 1, none⟩ = some (.int .i64 a0_3)) (ds := []) tf15_0 (by kernel_rfl) rfl rfl ⟨(blk_cell BK185.out 0).trans rfl, (blk_cell BK185.out 1).trans rfl, (blk_cell BK179.out 0).trans rfl, (blk_cell BK179.out 1).trans rfl, (blk_cell BK180.out 0).trans rfl, (blk_cell BK180.out 1).trans rfl⟩ (fun hHeld => ?_); refine with_tabW spillwaylaw03_SpanMembers.tab5 spillwaylaw03_SpanMembers.bits5 (fun HT_ HW_ => ?_)
     generalize w32.drew = w33 at BK178 BK179 BK180 BK185 HB hHeld ⊢
     refine pure_ (i := 0) (N := some 33) (v := ?_) (a' := ?_) tf15_4000 rfl rfl (any_of HT_.out (by kernel_rfl)) (fun _ _ _ h => h) (Or.inl ⟨by rfl, ?_⟩) ?_ ?_
     rotate_left
     ·intro w'
      go_simp
      with_reducible rfl
     rotate_left
     ·simp only [Act.put, sA, sZ, sS, i64_w, i32_w]
      rfl
     refine pure_ (i := 1) (N := some 34) (v := ?_) (a' := ?_) tf15_6000 rfl rfl (any_of HT_.out (by kernel_rfl)) (fun _ _ _ h => h) (Or.inl ⟨by rfl, ?_⟩) ?_ ?_
     rotate_left
     ·intro w'
      go_simp
      with_reducible rfl
     rotate_left
     ·simp only [Act.put, sA, sZ, sS, i64_w, i32_w]
      rfl
     refine pure_ (i := 3) (N := some 36) (v := ?_) (a' := ?_) tf15_6800 rfl rfl (any_of HT_.out (by kernel_rfl)) (fun _ _ _ h => h) (Or.inl ⟨by rfl, ?_⟩) ?_ ?_
     rotate_left
     ·intro w'
      go_simp
      with_reducible rfl
     rotate_left
     ·simp only [Act.put, sA, sZ, sS, i64_w, i32_w]
      rfl
     refine pure_ (i := 7) (N := some 40) (v := ?_) (a' := ?_) tf15_6880 rfl rfl (any_of HT_.out (by kernel_rfl)) (fun _ _ _ h => h) (Or.inl ⟨by rfl, ?_⟩) ?_ ?_
     rotate_left
     ·intro w'
      go_simp
      with_reducible rfl
     rotate_left
     ·simp only [Act.put, sA, sZ, sS, i64_w, i32_w]
      rfl
     refine take_ (i := 2) (N := some 35) (v := ?_) (a' := ?_) tf15_7880 rfl rfl (take_ofW HT_.out HW_.out (by kernel_rfl)) (fun _ _ _ h => h) (Or.inl ⟨by rfl, ?_⟩) hHeld ?_ ?_
     rotate_left
     ·rintro w' ⟨s0, s1, s2, s3, s4, s5⟩
      go_simp
      with_reducible rfl
     rotate_left
     ·simp only [Act.put, sA, sZ, sS, i64_w, i32_w]
      rfl
     refine take_ (i := 6) (N := some 39) (v := ?_) (a' := ?_) tf15_7980 rfl rfl (take_ofW HT_.out HW_.out (by kernel_rfl)) (fun _ _ _ h => h) (Or.inl ⟨by rfl, ?_⟩) hHeld ?_ ?_
     rotate_left
     ·rintro w' ⟨s0, s1, s2, s3, s4, s5⟩
      go_simp
      with_reducible rfl
     rotate_left
     ·simp only [Act.put, sA, sZ, sS, i64_w, i32_w]
      rfl
     refine one_ (i := 4) (N := some 37) tf15_7d80 rfl rfl (one_of HT_.out (by kernel_rfl)) (by decide) (fun K hK => ?_)
     refine goes_ Try.func20 (by kernel_rfl) rfl #[.agg #[.int .i64 t182, .int .i64 t183], .int .i64 a0_4] (by rfl) rfl rfl (by (try simp only [List.map_toArray, List.map_cons, List.map_nil]); first | done | rfl | (simp only [List.length_drop, List.length_take]; rfl)) ?_
     with_reducible refine (span_Has.calls t182 t183 a0_4 t186 _ A28.out).mono ?_
     rintro e w34 ⟨rfl, hb⟩
     refine ⟨_, rfl, ?_⟩
     have n0_ := Aside0.mk (blk_below (sp BK178.out) hb)
     have n1_ := Aside0.mk (blk_below (sp BK179.out) hb)
     have n2_ := Aside0.mk (blk_below (sp BK180.out) hb)
     have n3_ := Aside0.mk (blk_below (sp BK185.out) hb)
     have n4_ := Aside0.mk (below_step (by repeat (first | (with_reducible first | exact HB.out | apply bA | apply bD | apply bW | refine bS ?_ GE178.out | refine bS ?_ GE179.out | refine bS ?_ GE180.out | refine bS ?_ GE185.out) | exact HB.out)) hb)
     clear BK178
     clear BK179
     clear BK180
     clear BK185
     clear HB
     have BK178 := n0_
     have BK179 := n1_
     have BK180 := n2_
     have BK185 := n3_
     have HB := n4_
     clear n0_ n1_ n2_ n3_ n4_
     (try clear hb)
     (try clear hb2)
     (try clear hk)
     (try clear hi)
     refine hK.out _ _ ⟨(blk_cell BK185.out 0).trans rfl, (blk_cell BK185.out 1).trans rfl, (blk_cell BK179.out 0).trans rfl, (blk_cell BK179.out 1).trans rfl, (blk_cell BK180.out 0).trans rfl, (blk_cell BK180.out 1).trans rfl⟩ (fun hHeld => ?_)
     clear hK K
     refine norm_ (a' := ?_) ?_ ?_
     rotate_left
     ·show Act.put _ (some 37) _ = _
      simp only [Act.put, sA, sZ, sS, i64_w, i32_w]
      rfl
     refine pure_ (i := 5) (N := some 38) (v := ?_) (a' := ?_) tf15_7f80 rfl rfl (any_of HT_.out (by kernel_rfl)) (fun _ _ _ h => h) (Or.inl ⟨by rfl, ?_⟩) ?_ ?_
     rotate_left
     ·intro w'
      go_simp
      with_reducible rfl
     rotate_left
     ·simp only [Act.put, sA, sZ, sS, i64_w, i32_w]
      rfl
     refine one_ (i := 8) (N := some 41) tf15_7fc0 rfl rfl (one_of HT_.out (by kernel_rfl)) (by decide) (fun K hK => ?_)
     refine goes_ Try.func20 (by kernel_rfl) rfl #[.agg #[.int .i64 a0_0, .int .i64 a0_1], .int .i64 a0_4] (by rfl) rfl rfl (by (try simp only [List.map_toArray, List.map_cons, List.map_nil]); first | done | rfl | (simp only [List.length_drop, List.length_take]; rfl)) ?_
     with_reducible refine (span_Has.calls a0_0 a0_1 a0_4 true _ A29.out).mono ?_
     rintro e w35 ⟨rfl, hb⟩
     refine ⟨_, rfl, ?_⟩
     have n0_ := Aside0.mk (blk_below (sp BK178.out) hb)
     have n1_ := Aside0.mk (blk_below (sp BK179.out) hb)
     have n2_ := Aside0.mk (blk_below (sp BK180.out) hb)
     have n3_ := Aside0.mk (blk_below (sp BK185.out) hb)
     have n4_ := Aside0.mk (below_step (by repeat (first | (with_reducible first | exact HB.out | apply bA | apply bD | apply bW | refine bS ?_ GE178.out | refine bS ?_ GE179.out | refine bS ?_ GE180.out | refine bS ?_ GE185.out) | exact HB.out)) hb)
     clear BK178
     clear BK179
     clear BK180
     clear BK185
     clear HB
     have BK178 := n0_
     have BK179 := n1_
     have BK180 := n2_
     have BK185 := n3_
     have HB := n4_
     clear n0_ n1_ n2_ n3_ n4_
     (try clear hb)
     (try clear hb2)
     (try clear hk)
     (try clear hi)
     refine hK.out _ _ ⟨(blk_cell BK185.out 0).trans rfl, (blk_cell BK185.out 1).trans rfl, (blk_cell BK179.out 0).trans rfl, (blk_cell BK179.out 1).trans rfl, (blk_cell BK180.out 0).trans rfl, (blk_cell BK180.out 1).trans rfl⟩ (fun hHeld => ?_)
     clear hK K
     refine norm_ (a' := ?_) ?_ ?_
     rotate_left
     ·show Act.put _ (some 41) _ = _
      simp only [Act.put, sA, sZ, sS, i64_w, i32_w]
      rfl
     refine pure_ (i := 9) (N := some 42) (v := ?_) (a' := ?_) tf15_7fe0 rfl rfl (any_of HT_.out (by kernel_rfl)) (fun _ _ _ h => h) (Or.inl ⟨by rfl, ?_⟩) ?_ ?_
     rotate_left
     ·intro w'
      go_simp
      with_reducible rfl
     rotate_left
     ·simp only [Act.put, sA, sZ, sS, i64_w, i32_w]
      rfl
     refine pure_ (i := 11) (N := some 44) (v := ?_) (a' := ?_) tf15_7fe8 rfl rfl (any_of HT_.out (by kernel_rfl)) (fun _ _ _ h => h) (Or.inl ⟨by rfl, ?_⟩) ?_ ?_
     rotate_left
     ·intro w'
      go_simp
      with_reducible rfl
     rotate_left
     ·simp only [Act.put, sA, sZ, sS, i64_w, i32_w]
      rfl
     refine take_ (i := 10) (N := some 43) (v := ?_) (a' := ?_) tf15_7ff8 rfl rfl (take_ofW HT_.out HW_.out (by kernel_rfl)) (fun _ _ _ h => h) (Or.inl ⟨by rfl, ?_⟩) hHeld ?_ ?_
     rotate_left
     ·rintro w' ⟨s0, s1, s2, s3, s4, s5⟩
      go_simp
      with_reducible rfl
     rotate_left
     ·simp only [Act.put, sA, sZ, sS, i64_w, i32_w]
      rfl
     refine one_ (i := 12) (N := some 45) tf15_7ffc rfl rfl (one_of HT_.out (by kernel_rfl)) (by decide) (fun K hK => ?_)
     refine goes_ Try.func20 (by kernel_rfl) rfl #[.agg #[.int .i64 a0_2, .int .i64 a0_3], .int .i64 a0_4] (by rfl) rfl rfl (by (try simp only [List.map_toArray, List.map_cons, List.map_nil]); first | done | rfl | (simp only [List.length_drop, List.length_take]; rfl)) ?_
     with_reducible refine (span_Has.calls a0_2 a0_3 a0_4 t188 _ A31.out).mono ?_
     rintro e w36 ⟨rfl, hb⟩
     refine ⟨_, rfl, ?_⟩
     have n0_ := Aside0.mk (blk_below (sp BK178.out) hb)
     have n1_ := Aside0.mk (blk_below (sp BK179.out) hb)
     have n2_ := Aside0.mk (blk_below (sp BK180.out) hb)
     have n3_ := Aside0.mk (blk_below (sp BK185.out) hb)
     have n4_ := Aside0.mk (below_step (by repeat (first | (with_reducible first | exact HB.out | apply bA | apply bD | apply bW | refine bS ?_ GE178.out | refine bS ?_ GE179.out | refine bS ?_ GE180.out | refine bS ?_ GE185.out) | exact HB.out)) hb)
     clear BK178
     clear BK179
     clear BK180
     clear BK185
     clear HB
     have BK178 := n0_
     have BK179 := n1_
     have BK180 := n2_
     have BK185 := n3_
     have HB := n4_
     clear n0_ n1_ n2_ n3_ n4_
     (try clear hb)
     (try clear hb2)
     (try clear hk)
     (try clear hi)
     refine hK.out _ _ ⟨(blk_cell BK185.out 0).trans rfl, (blk_cell BK185.out 1).trans rfl, (blk_cell BK179.out 0).trans rfl, (blk_cell BK179.out 1).trans rfl, (blk_cell BK180.out 0).trans rfl, (blk_cell BK180.out 1).trans rfl⟩ (fun hHeld => ?_)
     clear hK K
     refine norm_ (a' := ?_) ?_ ?_
     rotate_left
     ·show Act.put _ (some 45) _ = _
      simp only [Act.put, sA, sZ, sS, i64_w, i32_w]
      rfl
     refine pure_ (i := 13) (N := some 46) (v := ?_) (a' := ?_) tf15_7ffe rfl rfl (any_of HT_.out (by kernel_rfl)) (fun _ _ _ h => h) (Or.inl ⟨by rfl, ?_⟩) ?_ ?_
     rotate_left
     ·intro w'
      go_simp
      with_reducible rfl
     rotate_left
     ·simp only [Act.put, sA, sZ, sS, i64_w, i32_w]
      rfl
     refine pure_ (i := 14) (N := some 47) (v := ?_) (a' := ?_) tf15_7fff rfl rfl (any_of HT_.out (by kernel_rfl)) (fun _ _ _ h => h) (Or.inl ⟨by rfl, ?_⟩) ?_ ?_
     rotate_left
     ·intro w'
      go_simp
      with_reducible rfl
     rotate_left
     ·simp only [Act.put, sA, sZ, sS, i64_w, i32_w]
      rfl
     refine done_ (done_of HT_.out (by kernel_rfl)) ?_
     try go_wp2
     go_meet
     case rel => exact ⟨_, ((t186 != t188)), (by first | rfl | (simp; done) | (simp [*]; done)), H', ⟨by first | omega | exact Nat.le_refl _⟩, ⟨(sp BK178.out)⟩, ⟨(sp BK179.out)⟩, ⟨(sp BK180.out)⟩, ⟨(sp BK185.out)⟩, ⟨by repeat (first | (with_reducible first | exact HB.out | apply bA | apply bD | apply bW | refine bS ?_ GE178.out | refine bS ?_ GE179.out | refine bS ?_ GE180.out | refine bS ?_ GE185.out) | exact HB.out)⟩⟩
    ·replace c30 := Bool.eq_false_iff.mpr c30
     subst c30
     have H1 : (spillwaylaw03_SpanMembers.j0 k a0_4 a0_5 a0_6 (t186 != false) a0_0 a0_1 a0_2 a0_3) = some r := by rw [if_neg (show ¬ (false = true) by decide)] at H; exact H
     clear H
     have H := H1
     clear H1
     have H' := Aside0.mk H
     clear H
     try go_wp2
     have n0_ : Aside0 (((w22.setCell ⟨gb185, 0, none⟩ (.int .i64 t182)).setCell ⟨gb185, 1, none⟩ (.int .i64 t183)).heap[gb178]? = some (.cells #[.int .i64 a0_0, .int .i64 a0_1, .int .i64 a0_2, .int .i64 a0_3, .int .i64 a0_4, .int .i64 a0_5, .int .i64 a0_6] 52 (0, 0))) := ⟨(sp (blk_far (sp (blk_far (sp BK178.out) NB178_185.out _)) NB178_185.out _))⟩
     have n1_ : Aside0 (((w22.setCell ⟨gb185, 0, none⟩ (.int .i64 t182)).setCell ⟨gb185, 1, none⟩ (.int .i64 t183)).heap[gb179]? = some (.cells #[.int .i64 a0_0, .int .i64 a0_1] 23 (0, 0))) := ⟨(sp (blk_far (sp (blk_far (sp BK179.out) NB179_185.out _)) NB179_185.out _))⟩
     have n2_ : Aside0 (((w22.setCell ⟨gb185, 0, none⟩ (.int .i64 t182)).setCell ⟨gb185, 1, none⟩ (.int .i64 t183)).heap[gb180]? = some (.cells #[.int .i64 a0_2, .int .i64 a0_3] 23 (0, 0))) := ⟨(sp (blk_far (sp (blk_far (sp BK180.out) NB180_185.out _)) NB180_185.out _))⟩
     have n3_ : Aside0 (((w22.setCell ⟨gb185, 0, none⟩ (.int .i64 t182)).setCell ⟨gb185, 1, none⟩ (.int .i64 t183)).heap[gb185]? = some (.cells #[.int .i64 t182, .int .i64 t183] 23 (0, 0))) := ⟨by (with_reducible repeat first | apply dN | apply dW | apply dL); refine blk_put (cs := #[.int .i64 t182, .int .i64 0]) ?_ 1 _ rfl; (with_reducible repeat first | apply dN | apply dW | apply dL); refine blk_put (cs := #[.int .i64 0, .int .i64 0]) ?_ 0 _ rfl; exact sp BK185.out⟩
     have n4_ : Aside0 (Below w.heap.size w ((w22.setCell ⟨gb185, 0, none⟩ (.int .i64 t182)).setCell ⟨gb185, 1, none⟩ (.int .i64 t183))) := ⟨by repeat (first | (with_reducible first | exact HB.out | apply bA | apply bD | apply bW | refine bS ?_ GE178.out | refine bS ?_ GE179.out | refine bS ?_ GE180.out | refine bS ?_ GE185.out) | exact HB.out)⟩
     (try clear BK178)
     (try clear BK179)
     (try clear BK180)
     (try clear BK185)
     (try clear HB)
     generalize ((w22.setCell ⟨gb185, 0, none⟩ (.int .i64 t182)).setCell ⟨gb185, 1, none⟩ (.int .i64 t183)) = w37 at n0_ n1_ n2_ n3_ n4_ ⊢
     have BK178 := n0_
     have BK179 := n1_
     have BK180 := n2_
     have BK185 := n3_
     have HB := n4_
     clear n0_ n1_ n2_ n3_ n4_
     have n0_ := Aside0.mk (blk_drew BK178.out)
     have n1_ := Aside0.mk (blk_drew BK179.out)
     have n2_ := Aside0.mk (blk_drew BK180.out)
     have n3_ := Aside0.mk (blk_drew BK185.out)
     have n4_ := Aside0.mk (below_drew1 HB.out)
     clear BK178
     clear BK179
     clear BK180
     clear BK185
     clear HB
     have BK178 := n0_
     have BK179 := n1_
     have BK180 := n2_
     have BK185 := n3_
     have HB := n4_
     clear n0_ n1_ n2_ n3_ n4_
     refine start_ (n := 15) (S := fun w' => w'.cell? ⟨gb185, 0, none⟩ = some (.int .i64 t182) ∧ w'.cell? ⟨gb185, 1, none⟩ = some (.int .i64 t183) ∧ w'.cell? ⟨gb179, 0, none⟩ = some (.int .i64 a0_0) ∧ w'.cell? ⟨gb179, 1, none⟩ = some (.int .i64 a0_1)) (ds := []) tf15_0 (by kernel_rfl) rfl rfl ⟨(blk_cell BK185.out 0).trans rfl, (blk_cell BK185.out 1).trans rfl, (blk_cell BK179.out 0).trans rfl, (blk_cell BK179.out 1).trans rfl⟩ (fun hHeld => ?_); refine with_tabW spillwaylaw03_SpanMembers.tab5 spillwaylaw03_SpanMembers.bits5 (fun HT_ HW_ => ?_)
     generalize w37.drew = w38 at BK178 BK179 BK180 BK185 HB hHeld ⊢
     refine pure_ (i := 0) (N := some 33) (v := ?_) (a' := ?_) tf15_4000 rfl rfl (any_of HT_.out (by kernel_rfl)) (fun _ _ _ h => h) (Or.inl ⟨by rfl, ?_⟩) ?_ ?_
     rotate_left
     ·intro w'
      go_simp
      with_reducible rfl
     rotate_left
     ·simp only [Act.put, sA, sZ, sS, i64_w, i32_w]
      rfl
     refine pure_ (i := 1) (N := some 34) (v := ?_) (a' := ?_) tf15_6000 rfl rfl (any_of HT_.out (by kernel_rfl)) (fun _ _ _ h => h) (Or.inl ⟨by rfl, ?_⟩) ?_ ?_
     rotate_left
     ·intro w'
      go_simp
      with_reducible rfl
     rotate_left
     ·simp only [Act.put, sA, sZ, sS, i64_w, i32_w]
      rfl
     refine pure_ (i := 3) (N := some 36) (v := ?_) (a' := ?_) tf15_6800 rfl rfl (any_of HT_.out (by kernel_rfl)) (fun _ _ _ h => h) (Or.inl ⟨by rfl, ?_⟩) ?_ ?_
     rotate_left
     ·intro w'
      go_simp
      with_reducible rfl
     rotate_left
     ·simp only [Act.put, sA, sZ, sS, i64_w, i32_w]
      rfl
     refine pure_ (i := 7) (N := some 40) (v := ?_) (a' := ?_) tf15_6880 rfl rfl (any_of HT_.out (by kernel_rfl)) (fun _ _ _ h => h) (Or.inl ⟨by rfl, ?_⟩) ?_ ?_
     rotate_left
     ·intro w'
      go_simp
      with_reducible rfl
     rotate_left
     ·simp only [Act.put, sA, sZ, sS, i64_w, i32_w]
      rfl
     refine take_ (i := 2) (N := some 35) (v := ?_) (a' := ?_) tf15_7880 rfl rfl (take_ofW HT_.out HW_.out (by kernel_rfl)) (fun _ _ _ h => h) (Or.inl ⟨by rfl, ?_⟩) hHeld ?_ ?_
     rotate_left
     ·rintro w' ⟨s0, s1, s2, s3⟩
      go_simp
      with_reducible rfl
     rotate_left
     ·simp only [Act.put, sA, sZ, sS, i64_w, i32_w]
      rfl
     refine take_ (i := 6) (N := some 39) (v := ?_) (a' := ?_) tf15_7980 rfl rfl (take_ofW HT_.out HW_.out (by kernel_rfl)) (fun _ _ _ h => h) (Or.inl ⟨by rfl, ?_⟩) hHeld ?_ ?_
     rotate_left
     ·rintro w' ⟨s0, s1, s2, s3⟩
      go_simp
      with_reducible rfl
     rotate_left
     ·simp only [Act.put, sA, sZ, sS, i64_w, i32_w]
      rfl
     refine one_ (i := 4) (N := some 37) tf15_7d80 rfl rfl (one_of HT_.out (by kernel_rfl)) (by decide) (fun K hK => ?_)
     refine goes_ Try.func20 (by kernel_rfl) rfl #[.agg #[.int .i64 t182, .int .i64 t183], .int .i64 a0_4] (by rfl) rfl rfl (by (try simp only [List.map_toArray, List.map_cons, List.map_nil]); first | done | rfl | (simp only [List.length_drop, List.length_take]; rfl)) ?_
     with_reducible refine (span_Has.calls t182 t183 a0_4 t186 _ A28.out).mono ?_
     rintro e w39 ⟨rfl, hb⟩
     refine ⟨_, rfl, ?_⟩
     have n0_ := Aside0.mk (blk_below (sp BK178.out) hb)
     have n1_ := Aside0.mk (blk_below (sp BK179.out) hb)
     have n2_ := Aside0.mk (blk_below (sp BK180.out) hb)
     have n3_ := Aside0.mk (blk_below (sp BK185.out) hb)
     have n4_ := Aside0.mk (below_step (by repeat (first | (with_reducible first | exact HB.out | apply bA | apply bD | apply bW | refine bS ?_ GE178.out | refine bS ?_ GE179.out | refine bS ?_ GE180.out | refine bS ?_ GE185.out) | exact HB.out)) hb)
     clear BK178
     clear BK179
     clear BK180
     clear BK185
     clear HB
     have BK178 := n0_
     have BK179 := n1_
     have BK180 := n2_
     have BK185 := n3_
     have HB := n4_
     clear n0_ n1_ n2_ n3_ n4_
     (try clear hb)
     (try clear hb2)
     (try clear hk)
     (try clear hi)
     refine hK.out _ _ ⟨(blk_cell BK185.out 0).trans rfl, (blk_cell BK185.out 1).trans rfl, (blk_cell BK179.out 0).trans rfl, (blk_cell BK179.out 1).trans rfl⟩ (fun hHeld => ?_)
     clear hK K
     refine norm_ (a' := ?_) ?_ ?_
     rotate_left
     ·show Act.put _ (some 37) _ = _
      simp only [Act.put, sA, sZ, sS, i64_w, i32_w]
      rfl
     refine pure_ (i := 5) (N := some 38) (v := ?_) (a' := ?_) tf15_7f80 rfl rfl (any_of HT_.out (by kernel_rfl)) (fun _ _ _ h => h) (Or.inl ⟨by rfl, ?_⟩) ?_ ?_
     rotate_left
     ·intro w'
      go_simp
      with_reducible rfl
     rotate_left
     ·simp only [Act.put, sA, sZ, sS, i64_w, i32_w]
      rfl
     refine one_ (i := 8) (N := some 41) tf15_7fc0 rfl rfl (one_of HT_.out (by kernel_rfl)) (by decide) (fun K hK => ?_)
     refine goes_ Try.func20 (by kernel_rfl) rfl #[.agg #[.int .i64 a0_0, .int .i64 a0_1], .int .i64 a0_4] (by rfl) rfl rfl (by (try simp only [List.map_toArray, List.map_cons, List.map_nil]); first | done | rfl | (simp only [List.length_drop, List.length_take]; rfl)) ?_
     with_reducible refine (span_Has.calls a0_0 a0_1 a0_4 false _ A29.out).mono ?_
     rintro e w40 ⟨rfl, hb⟩
     refine ⟨_, rfl, ?_⟩
     have n0_ := Aside0.mk (blk_below (sp BK178.out) hb)
     have n1_ := Aside0.mk (blk_below (sp BK179.out) hb)
     have n2_ := Aside0.mk (blk_below (sp BK180.out) hb)
     have n3_ := Aside0.mk (blk_below (sp BK185.out) hb)
     have n4_ := Aside0.mk (below_step (by repeat (first | (with_reducible first | exact HB.out | apply bA | apply bD | apply bW | refine bS ?_ GE178.out | refine bS ?_ GE179.out | refine bS ?_ GE180.out | refine bS ?_ GE185.out) | exact HB.out)) hb)
     clear BK178
     clear BK179
     clear BK180
     clear BK185
     clear HB
     have BK178 := n0_
     have BK179 := n1_
     have BK180 := n2_
     have BK185 := n3_
     have HB := n4_
     clear n0_ n1_ n2_ n3_ n4_
     (try clear hb)
     (try clear hb2)
     (try clear hk)
     (try clear hi)
     refine hK.out _ _ ⟨(blk_cell BK185.out 0).trans rfl, (blk_cell BK185.out 1).trans rfl, (blk_cell BK179.out 0).trans rfl, (blk_cell BK179.out 1).trans rfl⟩ (fun hHeld => ?_)
     clear hK K
     refine norm_ (a' := ?_) ?_ ?_
     rotate_left
     ·show Act.put _ (some 41) _ = _
      simp only [Act.put, sA, sZ, sS, i64_w, i32_w]
      rfl
     refine pure_ (i := 9) (N := some 42) (v := ?_) (a' := ?_) tf15_7fe0 rfl rfl (any_of HT_.out (by kernel_rfl)) (fun _ _ _ h => h) (Or.inl ⟨by rfl, ?_⟩) ?_ ?_
     rotate_left
     ·intro w'
      go_simp
      with_reducible rfl
     rotate_left
     ·simp only [Act.put, sA, sZ, sS, i64_w, i32_w]
      rfl
     refine pure_ (i := 10) (N := some 43) (v := undef) (a' := ?_) tf15_7ff0 rfl rfl (any_of HT_.out (by kernel_rfl)) (fun _ _ _ h => h) (Or.inr ⟨by rfl, rfl⟩) ?_ ?_
     rotate_left
     ·simp only [Act.put, sA, sZ, sS, i64_w, i32_w]
      rfl
     refine pure_ (i := 11) (N := some 44) (v := undef) (a' := ?_) tf15_7ff8 rfl rfl (any_of HT_.out (by kernel_rfl)) (fun _ _ _ h => h) (Or.inr ⟨by rfl, rfl⟩) ?_ ?_
     rotate_left
     ·simp only [Act.put, sA, sZ, sS, i64_w, i32_w]
      rfl
     refine pure_ (i := 12) (N := some 45) (v := undef) (a' := ?_) tf15_7ffc rfl rfl (any_of HT_.out (by kernel_rfl)) (fun _ _ _ h => h) (Or.inr ⟨by rfl, rfl⟩) ?_ ?_
     rotate_left
     ·simp only [Act.put, sA, sZ, sS, i64_w, i32_w]
      rfl
     refine pure_ (i := 13) (N := some 46) (v := ?_) (a' := ?_) tf15_7ffe rfl rfl (any_of HT_.out (by kernel_rfl)) (fun _ _ _ h => h) (Or.inl ⟨by rfl, ?_⟩) ?_ ?_
     rotate_left
     ·intro w'
      go_simp
      with_reducible rfl
     rotate_left
     ·simp only [Act.put, sA, sZ, sS, i64_w, i32_w]
      rfl
     refine pure_ (i := 14) (N := some 47) (v := ?_) (a' := ?_) tf15_7fff rfl rfl (any_of HT_.out (by kernel_rfl)) (fun _ _ _ h => h) (Or.inl ⟨by rfl, ?_⟩) ?_ ?_
     rotate_left
     ·intro w'
      go_simp
      with_reducible rfl
     rotate_left
     ·simp only [Act.put, sA, sZ, sS, i64_w, i32_w]
      rfl
     refine done_ (done_of HT_.out (by kernel_rfl)) ?_
     try go_wp2
     go_meet
     case rel => exact ⟨_, ((t186 != false)), (by first | rfl | (simp; done) | (simp [*]; done)), H', ⟨by first | omega | exact Nat.le_refl _⟩, ⟨(sp BK178.out)⟩, ⟨(sp BK179.out)⟩, ⟨(sp BK180.out)⟩, ⟨(sp BK185.out)⟩, ⟨by repeat (first | (with_reducible first | exact HB.out | apply bA | apply bD | apply bW | refine bS ?_ GE178.out | refine bS ?_ GE179.out | refine bS ?_ GE180.out | refine bS ?_ GE185.out) | exact HB.out)⟩⟩
   ·replace c27 := Bool.eq_false_iff.mpr c27
    subst c27
    have H1 : ((span_Has.f a0_0 a0_1 a0_4).bind fun t189 => (if t189 = true then ((span_Has.f a0_2 a0_3 a0_4).bind fun t190 => (spillwaylaw03_SpanMembers.j0 k a0_4 a0_5 a0_6 (false != t190) a0_0 a0_1 a0_2 a0_3)) else (spillwaylaw03_SpanMembers.j0 k a0_4 a0_5 a0_6 (false != false) a0_0 a0_1 a0_2 a0_3))) = some r := by rw [if_neg (show ¬ (false = true) by decide)] at H; exact H
    clear H
    have H := H1
    clear H1
    replace H := Option.bind_eq_some_iff.mp H
    obtain ⟨t189, A410, H⟩ := H
    replace H : (if t189 = true then ((span_Has.f a0_2 a0_3 a0_4).bind fun t190 => (spillwaylaw03_SpanMembers.j0 k a0_4 a0_5 a0_6 (false != t190) a0_0 a0_1 a0_2 a0_3)) else (spillwaylaw03_SpanMembers.j0 k a0_4 a0_5 a0_6 (false != false) a0_0 a0_1 a0_2 a0_3)) = some r := H
    have A41 := Aside0.mk A410
    clear A410
    by_cases c42 : t189 = true
    ·subst c42
     have H1 : ((span_Has.f a0_2 a0_3 a0_4).bind fun t190 => (spillwaylaw03_SpanMembers.j0 k a0_4 a0_5 a0_6 (false != t190) a0_0 a0_1 a0_2 a0_3)) = some r := by rw [if_pos rfl] at H; exact H
     clear H
     have H := H1
     clear H1
     replace H := Option.bind_eq_some_iff.mp H
     obtain ⟨t190, A430, H⟩ := H
     replace H : (spillwaylaw03_SpanMembers.j0 k a0_4 a0_5 a0_6 (false != t190) a0_0 a0_1 a0_2 a0_3) = some r := H
     have A43 := Aside0.mk A430
     clear A430
     have H' := Aside0.mk H
     clear H
     try go_wp2
     have n0_ : Aside0 (((w22.setCell ⟨gb185, 0, none⟩ (.int .i64 t182)).setCell ⟨gb185, 1, none⟩ (.int .i64 t183)).heap[gb178]? = some (.cells #[.int .i64 a0_0, .int .i64 a0_1, .int .i64 a0_2, .int .i64 a0_3, .int .i64 a0_4, .int .i64 a0_5, .int .i64 a0_6] 52 (0, 0))) := ⟨(sp (blk_far (sp (blk_far (sp BK178.out) NB178_185.out _)) NB178_185.out _))⟩
     have n1_ : Aside0 (((w22.setCell ⟨gb185, 0, none⟩ (.int .i64 t182)).setCell ⟨gb185, 1, none⟩ (.int .i64 t183)).heap[gb179]? = some (.cells #[.int .i64 a0_0, .int .i64 a0_1] 23 (0, 0))) := ⟨(sp (blk_far (sp (blk_far (sp BK179.out) NB179_185.out _)) NB179_185.out _))⟩
     have n2_ : Aside0 (((w22.setCell ⟨gb185, 0, none⟩ (.int .i64 t182)).setCell ⟨gb185, 1, none⟩ (.int .i64 t183)).heap[gb180]? = some (.cells #[.int .i64 a0_2, .int .i64 a0_3] 23 (0, 0))) := ⟨(sp (blk_far (sp (blk_far (sp BK180.out) NB180_185.out _)) NB180_185.out _))⟩
     have n3_ : Aside0 (((w22.setCell ⟨gb185, 0, none⟩ (.int .i64 t182)).setCell ⟨gb185, 1, none⟩ (.int .i64 t183)).heap[gb185]? = some (.cells #[.int .i64 t182, .int .i64 t183] 23 (0, 0))) := ⟨by (with_reducible repeat first | apply dN | apply dW | apply dL); refine blk_put (cs := #[.int .i64 t182, .int .i64 0]) ?_ 1 _ rfl; (with_reducible repeat first | apply dN | apply dW | apply dL); refine blk_put (cs := #[.int .i64 0, .int .i64 0]) ?_ 0 _ rfl; exact sp BK185.out⟩
     have n4_ : Aside0 (Below w.heap.size w ((w22.setCell ⟨gb185, 0, none⟩ (.int .i64 t182)).setCell ⟨gb185, 1, none⟩ (.int .i64 t183))) := ⟨by repeat (first | (with_reducible first | exact HB.out | apply bA | apply bD | apply bW | refine bS ?_ GE178.out | refine bS ?_ GE179.out | refine bS ?_ GE180.out | refine bS ?_ GE185.out) | exact HB.out)⟩
     (try clear BK178)
     (try clear BK179)
     (try clear BK180)
     (try clear BK185)
     (try clear HB)
     generalize ((w22.setCell ⟨gb185, 0, none⟩ (.int .i64 t182)).setCell ⟨gb185, 1, none⟩ (.int .i64 t183)) = w44 at n0_ n1_ n2_ n3_ n4_ ⊢
     have BK178 := n0_
     have BK179 := n1_
     have BK180 := n2_
     have BK185 := n3_
     have HB := n4_
     clear n0_ n1_ n2_ n3_ n4_
     have n0_ := Aside0.mk (blk_drew BK178.out)
     have n1_ := Aside0.mk (blk_drew BK179.out)
     have n2_ := Aside0.mk (blk_drew BK180.out)
     have n3_ := Aside0.mk (blk_drew BK185.out)
     have n4_ := Aside0.mk (below_drew1 HB.out)
     clear BK178
     clear BK179
     clear BK180
     clear BK185
     clear HB
     have BK178 := n0_
     have BK179 := n1_
     have BK180 := n2_
     have BK185 := n3_
     have HB := n4_
     clear n0_ n1_ n2_ n3_ n4_
     refine start_ (n := 15) (S := fun w' => w'.cell? ⟨gb179, 0, none⟩ = some (.int .i64 a0_0) ∧ w'.cell? ⟨gb179, 1, none⟩ = some (.int .i64 a0_1) ∧ w'.cell? ⟨gb180, 0, none⟩ = some (.int .i64 a0_2) ∧ w'.cell? ⟨gb180, 1, none⟩ = some (.int .i64 a0_3)) (ds := []) tf15_0 (by kernel_rfl) rfl rfl ⟨(blk_cell BK179.out 0).trans rfl, (blk_cell BK179.out 1).trans rfl, (blk_cell BK180.out 0).trans rfl, (blk_cell BK180.out 1).trans rfl⟩ (fun hHeld => ?_); refine with_tabW spillwaylaw03_SpanMembers.tab5 spillwaylaw03_SpanMembers.bits5 (fun HT_ HW_ => ?_)
     generalize w44.drew = w45 at BK178 BK179 BK180 BK185 HB hHeld ⊢
     refine pure_ (i := 0) (N := some 33) (v := ?_) (a' := ?_) tf15_4000 rfl rfl (any_of HT_.out (by kernel_rfl)) (fun _ _ _ h => h) (Or.inl ⟨by rfl, ?_⟩) ?_ ?_
     rotate_left
     ·intro w'
      go_simp
      with_reducible rfl
     rotate_left
     ·simp only [Act.put, sA, sZ, sS, i64_w, i32_w]
      rfl
     refine pure_ (i := 1) (N := some 34) (v := ?_) (a' := ?_) tf15_6000 rfl rfl (any_of HT_.out (by kernel_rfl)) (fun _ _ _ h => h) (Or.inl ⟨by rfl, ?_⟩) ?_ ?_
     rotate_left
     ·intro w'
      go_simp
      with_reducible rfl
     rotate_left
     ·simp only [Act.put, sA, sZ, sS, i64_w, i32_w]
      rfl
     refine pure_ (i := 2) (N := some 35) (v := undef) (a' := ?_) tf15_7000 rfl rfl (any_of HT_.out (by kernel_rfl)) (fun _ _ _ h => h) (Or.inr ⟨by rfl, rfl⟩) ?_ ?_
     rotate_left
     ·simp only [Act.put, sA, sZ, sS, i64_w, i32_w]
      rfl
     refine pure_ (i := 3) (N := some 36) (v := undef) (a' := ?_) tf15_7800 rfl rfl (any_of HT_.out (by kernel_rfl)) (fun _ _ _ h => h) (Or.inr ⟨by rfl, rfl⟩) ?_ ?_
     rotate_left
     ·simp only [Act.put, sA, sZ, sS, i64_w, i32_w]
      rfl
     refine pure_ (i := 4) (N := some 37) (v := undef) (a' := ?_) tf15_7c00 rfl rfl (any_of HT_.out (by kernel_rfl)) (fun _ _ _ h => h) (Or.inr ⟨by rfl, rfl⟩) ?_ ?_
     rotate_left
     ·simp only [Act.put, sA, sZ, sS, i64_w, i32_w]
      rfl
     refine pure_ (i := 5) (N := some 38) (v := ?_) (a' := ?_) tf15_7e00 rfl rfl (any_of HT_.out (by kernel_rfl)) (fun _ _ _ h => h) (Or.inl ⟨by rfl, ?_⟩) ?_ ?_
     rotate_left
     ·intro w'
      go_simp
      with_reducible rfl
     rotate_left
     ·simp only [Act.put, sA, sZ, sS, i64_w, i32_w]
      rfl
     refine pure_ (i := 7) (N := some 40) (v := ?_) (a' := ?_) tf15_7e80 rfl rfl (any_of HT_.out (by kernel_rfl)) (fun _ _ _ h => h) (Or.inl ⟨by rfl, ?_⟩) ?_ ?_
     rotate_left
     ·intro w'
      go_simp
      with_reducible rfl
     rotate_left
     ·simp only [Act.put, sA, sZ, sS, i64_w, i32_w]
      rfl
     refine take_ (i := 6) (N := some 39) (v := ?_) (a' := ?_) tf15_7f80 rfl rfl (take_ofW HT_.out HW_.out (by kernel_rfl)) (fun _ _ _ h => h) (Or.inl ⟨by rfl, ?_⟩) hHeld ?_ ?_
     rotate_left
     ·rintro w' ⟨s0, s1, s2, s3⟩
      go_simp
      with_reducible rfl
     rotate_left
     ·simp only [Act.put, sA, sZ, sS, i64_w, i32_w]
      rfl
     refine one_ (i := 8) (N := some 41) tf15_7fc0 rfl rfl (one_of HT_.out (by kernel_rfl)) (by decide) (fun K hK => ?_)
     refine goes_ Try.func20 (by kernel_rfl) rfl #[.agg #[.int .i64 a0_0, .int .i64 a0_1], .int .i64 a0_4] (by rfl) rfl rfl (by (try simp only [List.map_toArray, List.map_cons, List.map_nil]); first | done | rfl | (simp only [List.length_drop, List.length_take]; rfl)) ?_
     with_reducible refine (span_Has.calls a0_0 a0_1 a0_4 true _ A41.out).mono ?_
     rintro e w46 ⟨rfl, hb⟩
     refine ⟨_, rfl, ?_⟩
     have n0_ := Aside0.mk (blk_below (sp BK178.out) hb)
     have n1_ := Aside0.mk (blk_below (sp BK179.out) hb)
     have n2_ := Aside0.mk (blk_below (sp BK180.out) hb)
     have n3_ := Aside0.mk (blk_below (sp BK185.out) hb)
     have n4_ := Aside0.mk (below_step (by repeat (first | (with_reducible first | exact HB.out | apply bA | apply bD | apply bW | refine bS ?_ GE178.out | refine bS ?_ GE179.out | refine bS ?_ GE180.out | refine bS ?_ GE185.out) | exact HB.out)) hb)
     clear BK178
     clear BK179
     clear BK180
     clear BK185
     clear HB
     have BK178 := n0_
     have BK179 := n1_
     have BK180 := n2_
     have BK185 := n3_
     have HB := n4_
     clear n0_ n1_ n2_ n3_ n4_
     (try clear hb)
     (try clear hb2)
     (try clear hk)
     (try clear hi)
     refine hK.out _ _ ⟨(blk_cell BK179.out 0).trans rfl, (blk_cell BK179.out 1).trans rfl, (blk_cell BK180.out 0).trans rfl, (blk_cell BK180.out 1).trans rfl⟩ (fun hHeld => ?_)
     clear hK K
     refine norm_ (a' := ?_) ?_ ?_
     rotate_left
     ·show Act.put _ (some 41) _ = _
      simp only [Act.put, sA, sZ, sS, i64_w, i32_w]
      rfl
     refine pure_ (i := 9) (N := some 42) (v := ?_) (a' := ?_) tf15_7fe0 rfl rfl (any_of HT_.out (by kernel_rfl)) (fun _ _ _ h => h) (Or.inl ⟨by rfl, ?_⟩) ?_ ?_
     rotate_left
     ·intro w'
      go_simp
      with_reducible rfl
     rotate_left
     ·simp only [Act.put, sA, sZ, sS, i64_w, i32_w]
      rfl
     refine pure_ (i := 11) (N := some 44) (v := ?_) (a' := ?_) tf15_7fe8 rfl rfl (any_of HT_.out (by kernel_rfl)) (fun _ _ _ h => h) (Or.inl ⟨by rfl, ?_⟩) ?_ ?_
     rotate_left
     ·intro w'
      go_simp
      with_reducible rfl
     rotate_left
     ·simp only [Act.put, sA, sZ, sS, i64_w, i32_w]
      rfl
     refine take_ (i := 10) (N := some 43) (v := ?_) (a' := ?_) tf15_7ff8 rfl rfl (take_ofW HT_.out HW_.out (by kernel_rfl)) (fun _ _ _ h => h) (Or.inl ⟨by rfl, ?_⟩) hHeld ?_ ?_
     rotate_left
     ·rintro w' ⟨s0, s1, s2, s3⟩
      go_simp
      with_reducible rfl
     rotate_left
     ·simp only [Act.put, sA, sZ, sS, i64_w, i32_w]
      rfl
     refine one_ (i := 12) (N := some 45) tf15_7ffc rfl rfl (one_of HT_.out (by kernel_rfl)) (by decide) (fun K hK => ?_)
     refine goes_ Try.func20 (by kernel_rfl) rfl #[.agg #[.int .i64 a0_2, .int .i64 a0_3], .int .i64 a0_4] (by rfl) rfl rfl (by (try simp only [List.map_toArray, List.map_cons, List.map_nil]); first | done | rfl | (simp only [List.length_drop, List.length_take]; rfl)) ?_
     with_reducible refine (span_Has.calls a0_2 a0_3 a0_4 t190 _ A43.out).mono ?_
     rintro e w47 ⟨rfl, hb⟩
     refine ⟨_, rfl, ?_⟩
     have n0_ := Aside0.mk (blk_below (sp BK178.out) hb)
     have n1_ := Aside0.mk (blk_below (sp BK179.out) hb)
     have n2_ := Aside0.mk (blk_below (sp BK180.out) hb)
     have n3_ := Aside0.mk (blk_below (sp BK185.out) hb)
     have n4_ := Aside0.mk (below_step (by repeat (first | (with_reducible first | exact HB.out | apply bA | apply bD | apply bW | refine bS ?_ GE178.out | refine bS ?_ GE179.out | refine bS ?_ GE180.out | refine bS ?_ GE185.out) | exact HB.out)) hb)
     clear BK178
     clear BK179
     clear BK180
     clear BK185
     clear HB
     have BK178 := n0_
     have BK179 := n1_
     have BK180 := n2_
     have BK185 := n3_
     have HB := n4_
     clear n0_ n1_ n2_ n3_ n4_
     (try clear hb)
     (try clear hb2)
     (try clear hk)
     (try clear hi)
     refine hK.out _ _ ⟨(blk_cell BK179.out 0).trans rfl, (blk_cell BK179.out 1).trans rfl, (blk_cell BK180.out 0).trans rfl, (blk_cell BK180.out 1).trans rfl⟩ (fun hHeld => ?_)
     clear hK K
     refine norm_ (a' := ?_) ?_ ?_
     rotate_left
     ·show Act.put _ (some 45) _ = _
      simp only [Act.put, sA, sZ, sS, i64_w, i32_w]
      rfl
     refine pure_ (i := 13) (N := some 46) (v := ?_) (a' := ?_) tf15_7ffe rfl rfl (any_of HT_.out (by kernel_rfl)) (fun _ _ _ h => h) (Or.inl ⟨by rfl, ?_⟩) ?_ ?_
     rotate_left
     ·intro w'
      go_simp
      with_reducible rfl
     rotate_left
     ·simp only [Act.put, sA, sZ, sS, i64_w, i32_w]
      rfl
     refine pure_ (i := 14) (N := some 47) (v := ?_) (a' := ?_) tf15_7fff rfl rfl (any_of HT_.out (by kernel_rfl)) (fun _ _ _ h => h) (Or.inl ⟨by rfl, ?_⟩) ?_ ?_
     rotate_left
     ·intro w'
      go_simp
      with_reducible rfl
     rotate_left
     ·simp only [Act.put, sA, sZ, sS, i64_w, i32_w]
      rfl
     refine done_ (done_of HT_.out (by kernel_rfl)) ?_
     try go_wp2
     go_meet
     case rel => exact ⟨_, ((false != t190)), (by first | rfl | (simp; done) | (simp [*]; done)), H', ⟨by first | omega | exact Nat.le_refl _⟩, ⟨(sp BK178.out)⟩, ⟨(sp BK179.out)⟩, ⟨(sp BK180.out)⟩, ⟨(sp BK185.out)⟩, ⟨by repeat (first | (with_reducible first | exact HB.out | apply bA | apply bD | apply bW | refine bS ?_ GE178.out | refine bS ?_ GE179.out | refine bS ?_ GE180.out | refine bS ?_ GE185.out) | exact HB.out)⟩⟩
    ·replace c42 := Bool.eq_false_iff.mpr c42
     subst c42
     have H1 : (spillwaylaw03_SpanMembers.j0 k a0_4 a0_5 a0_6 (false != false) a0_0 a0_1 a0_2 a0_3) = some r := by rw [if_neg (show ¬ (false = true) by decide)] at H; exact H
     clear H
     have H := H1
     clear H1
     have H' := Aside0.mk H
     clear H
     try go_wp2
     have n0_ : Aside0 (((w22.setCell ⟨gb185, 0, none⟩ (.int .i64 t182)).setCell ⟨gb185, 1, none⟩ (.int .i64 t183)).heap[gb178]? = some (.cells #[.int .i64 a0_0, .int .i64 a0_1, .int .i64 a0_2, .int .i64 a0_3, .int .i64 a0_4, .int .i64 a0_5, .int .i64 a0_6] 52 (0, 0))) := ⟨(sp (blk_far (sp (blk_far (sp BK178.out) NB178_185.out _)) NB178_185.out _))⟩
     have n1_ : Aside0 (((w22.setCell ⟨gb185, 0, none⟩ (.int .i64 t182)).setCell ⟨gb185, 1, none⟩ (.int .i64 t183)).heap[gb179]? = some (.cells #[.int .i64 a0_0, .int .i64 a0_1] 23 (0, 0))) := ⟨(sp (blk_far (sp (blk_far (sp BK179.out) NB179_185.out _)) NB179_185.out _))⟩
     have n2_ : Aside0 (((w22.setCell ⟨gb185, 0, none⟩ (.int .i64 t182)).setCell ⟨gb185, 1, none⟩ (.int .i64 t183)).heap[gb180]? = some (.cells #[.int .i64 a0_2, .int .i64 a0_3] 23 (0, 0))) := ⟨(sp (blk_far (sp (blk_far (sp BK180.out) NB180_185.out _)) NB180_185.out _))⟩
     have n3_ : Aside0 (((w22.setCell ⟨gb185, 0, none⟩ (.int .i64 t182)).setCell ⟨gb185, 1, none⟩ (.int .i64 t183)).heap[gb185]? = some (.cells #[.int .i64 t182, .int .i64 t183] 23 (0, 0))) := ⟨by (with_reducible repeat first | apply dN | apply dW | apply dL); refine blk_put (cs := #[.int .i64 t182, .int .i64 0]) ?_ 1 _ rfl; (with_reducible repeat first | apply dN | apply dW | apply dL); refine blk_put (cs := #[.int .i64 0, .int .i64 0]) ?_ 0 _ rfl; exact sp BK185.out⟩
     have n4_ : Aside0 (Below w.heap.size w ((w22.setCell ⟨gb185, 0, none⟩ (.int .i64 t182)).setCell ⟨gb185, 1, none⟩ (.int .i64 t183))) := ⟨by repeat (first | (with_reducible first | exact HB.out | apply bA | apply bD | apply bW | refine bS ?_ GE178.out | refine bS ?_ GE179.out | refine bS ?_ GE180.out | refine bS ?_ GE185.out) | exact HB.out)⟩
     (try clear BK178)
     (try clear BK179)
     (try clear BK180)
     (try clear BK185)
     (try clear HB)
     generalize ((w22.setCell ⟨gb185, 0, none⟩ (.int .i64 t182)).setCell ⟨gb185, 1, none⟩ (.int .i64 t183)) = w48 at n0_ n1_ n2_ n3_ n4_ ⊢
     have BK178 := n0_
     have BK179 := n1_
     have BK180 := n2_
     have BK185 := n3_
     have HB := n4_
     clear n0_ n1_ n2_ n3_ n4_
     have n0_ := Aside0.mk (blk_drew BK178.out)
     have n1_ := Aside0.mk (blk_drew BK179.out)
     have n2_ := Aside0.mk (blk_drew BK180.out)
     have n3_ := Aside0.mk (blk_drew BK185.out)
     have n4_ := Aside0.mk (below_drew1 HB.out)
     clear BK178
     clear BK179
     clear BK180
     clear BK185
     clear HB
     have BK178 := n0_
     have BK179 := n1_
     have BK180 := n2_
     have BK185 := n3_
     have HB := n4_
     clear n0_ n1_ n2_ n3_ n4_
     refine start_ (n := 15) (S := fun w' => w'.cell? ⟨gb179, 0, none⟩ = some (.int .i64 a0_0) ∧ w'.cell? ⟨gb179, 1, none⟩ = some (.int .i64 a0_1)) (ds := []) tf15_0 (by kernel_rfl) rfl rfl ⟨(blk_cell BK179.out 0).trans rfl, (blk_cell BK179.out 1).trans rfl⟩ (fun hHeld => ?_); refine with_tabW spillwaylaw03_SpanMembers.tab5 spillwaylaw03_SpanMembers.bits5 (fun HT_ HW_ => ?_)
     generalize w48.drew = w49 at BK178 BK179 BK180 BK185 HB hHeld ⊢
     refine pure_ (i := 0) (N := some 33) (v := ?_) (a' := ?_) tf15_4000 rfl rfl (any_of HT_.out (by kernel_rfl)) (fun _ _ _ h => h) (Or.inl ⟨by rfl, ?_⟩) ?_ ?_
     rotate_left
     ·intro w'
      go_simp
      with_reducible rfl
     rotate_left
     ·simp only [Act.put, sA, sZ, sS, i64_w, i32_w]
      rfl
     refine pure_ (i := 1) (N := some 34) (v := ?_) (a' := ?_) tf15_6000 rfl rfl (any_of HT_.out (by kernel_rfl)) (fun _ _ _ h => h) (Or.inl ⟨by rfl, ?_⟩) ?_ ?_
     rotate_left
     ·intro w'
      go_simp
      with_reducible rfl
     rotate_left
     ·simp only [Act.put, sA, sZ, sS, i64_w, i32_w]
      rfl
     refine pure_ (i := 2) (N := some 35) (v := undef) (a' := ?_) tf15_7000 rfl rfl (any_of HT_.out (by kernel_rfl)) (fun _ _ _ h => h) (Or.inr ⟨by rfl, rfl⟩) ?_ ?_
     rotate_left
     ·simp only [Act.put, sA, sZ, sS, i64_w, i32_w]
      rfl
     refine pure_ (i := 3) (N := some 36) (v := undef) (a' := ?_) tf15_7800 rfl rfl (any_of HT_.out (by kernel_rfl)) (fun _ _ _ h => h) (Or.inr ⟨by rfl, rfl⟩) ?_ ?_
     rotate_left
     ·simp only [Act.put, sA, sZ, sS, i64_w, i32_w]
      rfl
     refine pure_ (i := 4) (N := some 37) (v := undef) (a' := ?_) tf15_7c00 rfl rfl (any_of HT_.out (by kernel_rfl)) (fun _ _ _ h => h) (Or.inr ⟨by rfl, rfl⟩) ?_ ?_
     rotate_left
     ·simp only [Act.put, sA, sZ, sS, i64_w, i32_w]
      rfl
     refine pure_ (i := 5) (N := some 38) (v := ?_) (a' := ?_) tf15_7e00 rfl rfl (any_of HT_.out (by kernel_rfl)) (fun _ _ _ h => h) (Or.inl ⟨by rfl, ?_⟩) ?_ ?_
     rotate_left
     ·intro w'
      go_simp
      with_reducible rfl
     rotate_left
     ·simp only [Act.put, sA, sZ, sS, i64_w, i32_w]
      rfl
     refine pure_ (i := 7) (N := some 40) (v := ?_) (a' := ?_) tf15_7e80 rfl rfl (any_of HT_.out (by kernel_rfl)) (fun _ _ _ h => h) (Or.inl ⟨by rfl, ?_⟩) ?_ ?_
     rotate_left
     ·intro w'
      go_simp
      with_reducible rfl
     rotate_left
     ·simp only [Act.put, sA, sZ, sS, i64_w, i32_w]
      rfl
     refine take_ (i := 6) (N := some 39) (v := ?_) (a' := ?_) tf15_7f80 rfl rfl (take_ofW HT_.out HW_.out (by kernel_rfl)) (fun _ _ _ h => h) (Or.inl ⟨by rfl, ?_⟩) hHeld ?_ ?_
     rotate_left
     ·rintro w' ⟨s0, s1⟩
      go_simp
      with_reducible rfl
     rotate_left
     ·simp only [Act.put, sA, sZ, sS, i64_w, i32_w]
      rfl
     refine one_ (i := 8) (N := some 41) tf15_7fc0 rfl rfl (one_of HT_.out (by kernel_rfl)) (by decide) (fun K hK => ?_)
     refine goes_ Try.func20 (by kernel_rfl) rfl #[.agg #[.int .i64 a0_0, .int .i64 a0_1], .int .i64 a0_4] (by rfl) rfl rfl (by (try simp only [List.map_toArray, List.map_cons, List.map_nil]); first | done | rfl | (simp only [List.length_drop, List.length_take]; rfl)) ?_
     with_reducible refine (span_Has.calls a0_0 a0_1 a0_4 false _ A41.out).mono ?_
     rintro e w50 ⟨rfl, hb⟩
     refine ⟨_, rfl, ?_⟩
     have n0_ := Aside0.mk (blk_below (sp BK178.out) hb)
     have n1_ := Aside0.mk (blk_below (sp BK179.out) hb)
     have n2_ := Aside0.mk (blk_below (sp BK180.out) hb)
     have n3_ := Aside0.mk (blk_below (sp BK185.out) hb)
     have n4_ := Aside0.mk (below_step (by repeat (first | (with_reducible first | exact HB.out | apply bA | apply bD | apply bW | refine bS ?_ GE178.out | refine bS ?_ GE179.out | refine bS ?_ GE180.out | refine bS ?_ GE185.out) | exact HB.out)) hb)
     clear BK178
     clear BK179
     clear BK180
     clear BK185
     clear HB
     have BK178 := n0_
     have BK179 := n1_
     have BK180 := n2_
     have BK185 := n3_
     have HB := n4_
     clear n0_ n1_ n2_ n3_ n4_
     (try clear hb)
     (try clear hb2)
     (try clear hk)
     (try clear hi)
     refine hK.out _ _ ⟨(blk_cell BK179.out 0).trans rfl, (blk_cell BK179.out 1).trans rfl⟩ (fun hHeld => ?_)
     clear hK K
     refine norm_ (a' := ?_) ?_ ?_
     rotate_left
     ·show Act.put _ (some 41) _ = _
      simp only [Act.put, sA, sZ, sS, i64_w, i32_w]
      rfl
     refine pure_ (i := 9) (N := some 42) (v := ?_) (a' := ?_) tf15_7fe0 rfl rfl (any_of HT_.out (by kernel_rfl)) (fun _ _ _ h => h) (Or.inl ⟨by rfl, ?_⟩) ?_ ?_
     rotate_left
     ·intro w'
      go_simp
      with_reducible rfl
     rotate_left
     ·simp only [Act.put, sA, sZ, sS, i64_w, i32_w]
      rfl
     refine pure_ (i := 10) (N := some 43) (v := undef) (a' := ?_) tf15_7ff0 rfl rfl (any_of HT_.out (by kernel_rfl)) (fun _ _ _ h => h) (Or.inr ⟨by rfl, rfl⟩) ?_ ?_
     rotate_left
     ·simp only [Act.put, sA, sZ, sS, i64_w, i32_w]
      rfl
     refine pure_ (i := 11) (N := some 44) (v := undef) (a' := ?_) tf15_7ff8 rfl rfl (any_of HT_.out (by kernel_rfl)) (fun _ _ _ h => h) (Or.inr ⟨by rfl, rfl⟩) ?_ ?_
     rotate_left
     ·simp only [Act.put, sA, sZ, sS, i64_w, i32_w]
      rfl
     refine pure_ (i := 12) (N := some 45) (v := undef) (a' := ?_) tf15_7ffc rfl rfl (any_of HT_.out (by kernel_rfl)) (fun _ _ _ h => h) (Or.inr ⟨by rfl, rfl⟩) ?_ ?_
     rotate_left
     ·simp only [Act.put, sA, sZ, sS, i64_w, i32_w]
      rfl
     refine pure_ (i := 13) (N := some 46) (v := ?_) (a' := ?_) tf15_7ffe rfl rfl (any_of HT_.out (by kernel_rfl)) (fun _ _ _ h => h) (Or.inl ⟨by rfl, ?_⟩) ?_ ?_
     rotate_left
     ·intro w'
      go_simp
      with_reducible rfl
     rotate_left
     ·simp only [Act.put, sA, sZ, sS, i64_w, i32_w]
      rfl
     refine pure_ (i := 14) (N := some 47) (v := ?_) (a' := ?_) tf15_7fff rfl rfl (any_of HT_.out (by kernel_rfl)) (fun _ _ _ h => h) (Or.inl ⟨by rfl, ?_⟩) ?_ ?_
     rotate_left
     ·intro w'
      go_simp
      with_reducible rfl
     rotate_left
     ·simp only [Act.put, sA, sZ, sS, i64_w, i32_w]
      rfl
     refine done_ (done_of HT_.out (by kernel_rfl)) ?_
     try go_wp2
     go_meet
     case rel => exact ⟨_, ((false != false)), (by first | rfl | (simp; done) | (simp [*]; done)), H', ⟨by first | omega | exact Nat.le_refl _⟩, ⟨(sp BK178.out)⟩, ⟨(sp BK179.out)⟩, ⟨(sp BK180.out)⟩, ⟨(sp BK185.out)⟩, ⟨by repeat (first | (with_reducible first | exact HB.out | apply bA | apply bD | apply bW | refine bS ?_ GE178.out | refine bS ?_ GE179.out | refine bS ?_ GE180.out | refine bS ?_ GE185.out) | exact HB.out)⟩⟩
  case rest =>
   clear HC5
   try clear c2
   try clear p2
   try clear c3
   try clear c4
   try clear c20
   try clear c27
   try clear c30
   try clear c42
   obtain ⟨kq, x47_4, rfl, HA, HJ4, BK178, BK179, BK180, BK185, HB⟩ := hcut
   cases kq with
   | zero => exact absurd HA.out (by simp [spillwaylaw03_SpanMembers.j0])
   | succ kj4 =>
    have H := HA.out
    clear HA
    simp only [spillwaylaw03_SpanMembers.j0] at H
    by_cases c51 : x47_4 = true
    ·subst c51
     have H1 : (some false) = some r := by rw [if_pos rfl] at H; exact H
     clear H
     have H := H1
     clear H1
     exact absurd ((Option.some.inj H).trans HRT.out) Bool.false_ne_true
    ·replace c51 := Bool.eq_false_iff.mpr c51
     subst c51
     have H1 : ((span_Has.f a0_0 a0_1 a0_4).bind fun t191 => (if t191 = true then ((span_Has.f a0_2 a0_3 a0_5).bind fun t192 => (spillwaylaw03_SpanMembers.j1 kj4 a0_4 a0_5 a0_6 (!t192) a0_0 a0_1 a0_2 a0_3)) else (spillwaylaw03_SpanMembers.j1 kj4 a0_4 a0_5 a0_6 true a0_0 a0_1 a0_2 a0_3))) = some r := by rw [if_neg (show ¬ (false = true) by decide)] at H; exact H
     clear H
     have H := H1
     clear H1
     have HC52 := Aside0.mk H
     clear H
     go_upto_region 7 with (fail)
     go_cut [57] (fun v57 wc => ∃ (kq : Nat) (x57_51 : Bool), v57 = .bool x57_51 ∧ Aside0 (spillwaylaw03_SpanMembers.j1 kq a0_4 a0_5 a0_6 x57_51 a0_0 a0_1 a0_2 a0_3 = some r) ∧ Aside0 (kq ≤ kj4) ∧ Aside0 (wc.heap[gb178]? = some (.cells #[.int .i64 a0_0, .int .i64 a0_1, .int .i64 a0_2, .int .i64 a0_3, .int .i64 a0_4, .int .i64 a0_5, .int .i64 a0_6] 52 (0, 0))) ∧ Aside0 (wc.heap[gb179]? = some (.cells #[.int .i64 a0_0, .int .i64 a0_1] 23 (0, 0))) ∧ Aside0 (wc.heap[gb180]? = some (.cells #[.int .i64 a0_2, .int .i64 a0_3] 23 (0, 0))) ∧ Aside0 (wc.heap[gb185]? = some (.cells #[.int .i64 t182, .int .i64 t183] 23 (0, 0))) ∧ Aside0 (Below w.heap.size w wc))
     case first =>
      have H := HC52.out
      clear HC52
      replace H := Option.bind_eq_some_iff.mp H
      obtain ⟨t191, A530, H⟩ := H
      replace H : (if t191 = true then ((span_Has.f a0_2 a0_3 a0_5).bind fun t192 => (spillwaylaw03_SpanMembers.j1 kj4 a0_4 a0_5 a0_6 (!t192) a0_0 a0_1 a0_2 a0_3)) else (spillwaylaw03_SpanMembers.j1 kj4 a0_4 a0_5 a0_6 true a0_0 a0_1 a0_2 a0_3)) = some r := H
      have A53 := Aside0.mk A530
      clear A530
      by_cases c54 : t191 = true
      ·subst c54
       have H1 : ((span_Has.f a0_2 a0_3 a0_5).bind fun t192 => (spillwaylaw03_SpanMembers.j1 kj4 a0_4 a0_5 a0_6 (!t192) a0_0 a0_1 a0_2 a0_3)) = some r := by rw [if_pos rfl] at H; exact H
       clear H
       have H := H1
       clear H1
       replace H := Option.bind_eq_some_iff.mp H
       obtain ⟨t192, A550, H⟩ := H
       replace H : (spillwaylaw03_SpanMembers.j1 kj4 a0_4 a0_5 a0_6 (!t192) a0_0 a0_1 a0_2 a0_3) = some r := H
       have A55 := Aside0.mk A550
       clear A550
       have H' := Aside0.mk H
       clear H
       have hnb56 := NB179_178.out
       have hnc56 := NB178_179.out
       have hnb57 := NB179_180.out
       have hnc57 := NB180_179.out
       have hnb58 := NB179_185.out
       have hnc58 := NB185_179.out
       have hcz59_0 : wc.cell? ⟨gb179, 0, none⟩ = some (.int .i64 a0_0) := (blk_cell BK179.out 0).trans rfl
       have hcz59_1 : wc.cell? ⟨gb179, 1, none⟩ = some (.int .i64 a0_1) := (blk_cell BK179.out 1).trans rfl
       have hfz59_0 := blk_frozen BK179.out 0
       have hfz59_1 := blk_frozen BK179.out 1
       go_wp2_with (first | ((with_reducible refine gate_callee (f := 20) rfl ?_); refine goesL_ (some 50) rfl rfl Try.func20 (by kernel_rfl) rfl #[.agg #[.int .i64 a0_0, .int .i64 a0_1], .int .i64 a0_4] rfl (by (try simp only [List.map_toArray, List.map_cons, List.map_nil]); first | done | rfl | (simp only [List.length_drop, List.length_take]; rfl)) ?_; (with_reducible refine (span_Has.calls a0_0 a0_1 a0_4 true _ A53.out).mono ?_); rintro e w60 ⟨rfl, hb⟩; refine ⟨_, rfl, ?_⟩; have n0_ := Aside0.mk (blk_below (sp BK178.out) hb); have n1_ := Aside0.mk (blk_below (sp BK179.out) hb); have n2_ := Aside0.mk (blk_below (sp BK180.out) hb); have n3_ := Aside0.mk (blk_below (sp BK185.out) hb); have n4_ := Aside0.mk (below_step (by repeat (first | (with_reducible first | exact HB.out | apply bA | apply bD | apply bW | refine bS ?_ GE178.out | refine bS ?_ GE179.out | refine bS ?_ GE180.out | refine bS ?_ GE185.out) | exact HB.out)) hb); clear BK178; clear BK179; clear BK180; clear BK185; clear HB; have BK178 := n0_; have BK179 := n1_; have BK180 := n2_; have BK185 := n3_; have HB := n4_; clear n0_ n1_ n2_ n3_ n4_; (try clear hb); (try clear hb2); (try clear hk); (try clear hi); have hnb61 := NB180_178.out; have hnc61 := NB178_180.out; have hnb62 := NB180_185.out; have hnc62 := NB185_180.out; have hcz63_0 : w60.cell? ⟨gb180, 0, none⟩ = some (.int .i64 a0_2) := (blk_cell BK180.out 0).trans rfl; have hcz63_1 : w60.cell? ⟨gb180, 1, none⟩ = some (.int .i64 a0_3) := (blk_cell BK180.out 1).trans rfl; have hfz63_0 := blk_frozen BK180.out 0; have hfz63_1 := blk_frozen BK180.out 1) | (go_at_call 20; (with_reducible refine (span_Has.calls a0_2 a0_3 a0_5 t192 _ A55.out).mono ?_); rintro e w64 ⟨rfl, hb⟩; have n0_ := Aside0.mk (blk_below (sp BK178.out) hb); have n1_ := Aside0.mk (blk_below (sp BK179.out) hb); have n2_ := Aside0.mk (blk_below (sp BK180.out) hb); have n3_ := Aside0.mk (blk_below (sp BK185.out) hb); have n4_ := Aside0.mk (below_step (by repeat (first | (with_reducible first | exact HB.out | apply bA | apply bD | apply bW | refine bS ?_ GE178.out | refine bS ?_ GE179.out | refine bS ?_ GE180.out | refine bS ?_ GE185.out) | exact HB.out)) hb); clear BK178; clear BK179; clear BK180; clear BK185; clear HB; have BK178 := n0_; have BK179 := n1_; have BK180 := n2_; have BK185 := n3_; have HB := n4_; clear n0_ n1_ n2_ n3_ n4_; (try clear hb); (try clear hb2); (try clear hk); (try clear hi)))
       go_meet
       case rel => exact ⟨_, (!t192), (by first | rfl | (simp; done) | (simp [*]; done)), H', ⟨by have := HJ4.out; first | omega | exact Nat.le_refl _⟩, ⟨(sp BK178.out)⟩, ⟨(sp BK179.out)⟩, ⟨(sp BK180.out)⟩, ⟨(sp BK185.out)⟩, ⟨by repeat (first | (with_reducible first | exact HB.out | apply bA | apply bD | apply bW | refine bS ?_ GE178.out | refine bS ?_ GE179.out | refine bS ?_ GE180.out | refine bS ?_ GE185.out) | exact HB.out)⟩⟩
      ·replace c54 := Bool.eq_false_iff.mpr c54
       subst c54
       have H1 : (spillwaylaw03_SpanMembers.j1 kj4 a0_4 a0_5 a0_6 true a0_0 a0_1 a0_2 a0_3) = some r := by rw [if_neg (show ¬ (false = true) by decide)] at H; exact H
       clear H
       have H := H1
       clear H1
       have H' := Aside0.mk H
       clear H
       have hnb65 := NB179_178.out
       have hnc65 := NB178_179.out
       have hnb66 := NB179_180.out
       have hnc66 := NB180_179.out
       have hnb67 := NB179_185.out
       have hnc67 := NB185_179.out
       have hcz68_0 : wc.cell? ⟨gb179, 0, none⟩ = some (.int .i64 a0_0) := (blk_cell BK179.out 0).trans rfl
       have hcz68_1 : wc.cell? ⟨gb179, 1, none⟩ = some (.int .i64 a0_1) := (blk_cell BK179.out 1).trans rfl
       have hfz68_0 := blk_frozen BK179.out 0
       have hfz68_1 := blk_frozen BK179.out 1
       go_wp2_with (first | ((with_reducible refine gate_callee (f := 20) rfl ?_); refine goesL_ (some 50) rfl rfl Try.func20 (by kernel_rfl) rfl #[.agg #[.int .i64 a0_0, .int .i64 a0_1], .int .i64 a0_4] rfl (by (try simp only [List.map_toArray, List.map_cons, List.map_nil]); first | done | rfl | (simp only [List.length_drop, List.length_take]; rfl)) ?_; (with_reducible refine (span_Has.calls a0_0 a0_1 a0_4 false _ A53.out).mono ?_); rintro e w69 ⟨rfl, hb⟩; refine ⟨_, rfl, ?_⟩; have n0_ := Aside0.mk (blk_below (sp BK178.out) hb); have n1_ := Aside0.mk (blk_below (sp BK179.out) hb); have n2_ := Aside0.mk (blk_below (sp BK180.out) hb); have n3_ := Aside0.mk (blk_below (sp BK185.out) hb); have n4_ := Aside0.mk (below_step (by repeat (first | (with_reducible first | exact HB.out | apply bA | apply bD | apply bW | refine bS ?_ GE178.out | refine bS ?_ GE179.out | refine bS ?_ GE180.out | refine bS ?_ GE185.out) | exact HB.out)) hb); clear BK178; clear BK179; clear BK180; clear BK185; clear HB; have BK178 := n0_; have BK179 := n1_; have BK180 := n2_; have BK185 := n3_; have HB := n4_; clear n0_ n1_ n2_ n3_ n4_; (try clear hb); (try clear hb2); (try clear hk); (try clear hi)))
       go_meet
       case rel => exact ⟨_, (true), (by first | rfl | (simp; done) | (simp [*]; done)), H', ⟨by have := HJ4.out; first | omega | exact Nat.le_refl _⟩, ⟨(sp BK178.out)⟩, ⟨(sp BK179.out)⟩, ⟨(sp BK180.out)⟩, ⟨(sp BK185.out)⟩, ⟨by repeat (first | (with_reducible first | exact HB.out | apply bA | apply bD | apply bW | refine bS ?_ GE178.out | refine bS ?_ GE179.out | refine bS ?_ GE180.out | refine bS ?_ GE185.out) | exact HB.out)⟩⟩
     case rest =>
      clear HC52
      try clear c2
      try clear p2
      try clear c3
      try clear c4
      try clear c5
      try clear c6
      try clear c20
      try clear c27
      try clear c30
      try clear c42
      try clear c51
      try clear c54
      try clear c56
      try clear c57
      try clear c58
      try clear c61
      try clear c62
      try clear c65
      try clear c66
      try clear c67
      try clear hcz59_0
      try clear hcz59_1
      try clear hcz63_0
      try clear hcz63_1
      try clear hcz68_0
      try clear hcz68_1
      try clear hfz59_0
      try clear hfz59_1
      try clear hfz63_0
      try clear hfz63_1
      try clear hfz68_0
      try clear hfz68_1
      try clear p2
      obtain ⟨kq, x57_51, rfl, HA, HJ51, BK178, BK179, BK180, BK185, HB⟩ := hcut
      cases kq with
      | zero => exact absurd HA.out (by simp [spillwaylaw03_SpanMembers.j1])
      | succ kj51 =>
       have H := HA.out
       clear HA
       simp only [spillwaylaw03_SpanMembers.j1] at H
       by_cases c70 : x57_51 = true
       ·subst c70
        have H1 : (some true) = some r := by rw [if_pos rfl] at H; exact H
        clear H
        have H := H1
        clear H1
        obtain rfl := Option.some.inj H
        go_wp2
        go_ret
        exact ⟨by first | rfl | (simp [errW_none, errW_some] <;> rfl) | (simp [*, errW_none, errW_some] <;> rfl), by repeat (first | (with_reducible first | exact HB.out | apply bA | apply bD | apply bW | refine bS ?_ GE178.out | refine bS ?_ GE179.out | refine bS ?_ GE180.out | refine bS ?_ GE185.out) | exact HB.out)⟩
       ·replace c70 := Bool.eq_false_iff.mpr c70
        subst c70
        have H1 : ((span_Hull.f a0_0 a0_1 a0_2 a0_3).bind fun bt193 => (if bt193.2.2 = 0 then ((span_Has.f bt193.1 bt193.2.1 a0_4).bind fun t197 => (if t197 = true then ((span_Has.f bt193.1 bt193.2.1 a0_5).bind fun t198 => (if t198 = true then ((span_Holds.f bt193.1 bt193.2.1 a0_0 a0_1).bind fun t199 => (if t199 = true then ((span_Holds.f bt193.1 bt193.2.1 a0_2 a0_3).bind fun t200 => (spillwaylaw03_SpanMembers.j2 kj51 a0_4 a0_5 a0_6 (!t200) a0_0 a0_1 a0_2 a0_3)) else (spillwaylaw03_SpanMembers.j2 kj51 a0_4 a0_5 a0_6 true a0_0 a0_1 a0_2 a0_3))) else (spillwaylaw03_SpanMembers.j2 kj51 a0_4 a0_5 a0_6 true a0_0 a0_1 a0_2 a0_3))) else (spillwaylaw03_SpanMembers.j2 kj51 a0_4 a0_5 a0_6 true a0_0 a0_1 a0_2 a0_3))) else (spillwaylaw03_SpanMembers.j2 kj51 a0_4 a0_5 a0_6 true a0_0 a0_1 a0_2 a0_3))) = some r := by rw [if_neg (show ¬ (false = true) by decide)] at H; exact H
        clear H
        have H := H1
        clear H1
        replace H := Option.bind_eq_some_iff.mp H
        obtain ⟨⟨t193, t194, t195⟩, A710, H⟩ := H
        replace H : (if t195 = 0 then ((span_Has.f t193 t194 a0_4).bind fun t197 => (if t197 = true then ((span_Has.f t193 t194 a0_5).bind fun t198 => (if t198 = true then ((span_Holds.f t193 t194 a0_0 a0_1).bind fun t199 => (if t199 = true then ((span_Holds.f t193 t194 a0_2 a0_3).bind fun t200 => (spillwaylaw03_SpanMembers.j2 kj51 a0_4 a0_5 a0_6 (!t200) a0_0 a0_1 a0_2 a0_3)) else (spillwaylaw03_SpanMembers.j2 kj51 a0_4 a0_5 a0_6 true a0_0 a0_1 a0_2 a0_3))) else (spillwaylaw03_SpanMembers.j2 kj51 a0_4 a0_5 a0_6 true a0_0 a0_1 a0_2 a0_3))) else (spillwaylaw03_SpanMembers.j2 kj51 a0_4 a0_5 a0_6 true a0_0 a0_1 a0_2 a0_3))) else (spillwaylaw03_SpanMembers.j2 kj51 a0_4 a0_5 a0_6 true a0_0 a0_1 a0_2 a0_3)) = some r := H
        have A71 := Aside0.mk A710
        clear A710
        have HC72 := Aside0.mk H
        clear H
        have hnb73 := NB179_178.out
        have hnc73 := NB178_179.out
        have hnb74 := NB179_180.out
        have hnc74 := NB180_179.out
        have hnb75 := NB179_185.out
        have hnc75 := NB185_179.out
        have hcz76_0 : wc.cell? ⟨gb179, 0, none⟩ = some (.int .i64 a0_0) := (blk_cell BK179.out 0).trans rfl
        have hcz76_1 : wc.cell? ⟨gb179, 1, none⟩ = some (.int .i64 a0_1) := (blk_cell BK179.out 1).trans rfl
        have hfz76_0 := blk_frozen BK179.out 0
        have hfz76_1 := blk_frozen BK179.out 1
        have hnb77 := NB180_178.out
        have hnc77 := NB178_180.out
        have hnb78 := NB180_185.out
        have hnc78 := NB185_180.out
        have hcz79_0 : wc.cell? ⟨gb180, 0, none⟩ = some (.int .i64 a0_2) := (blk_cell BK180.out 0).trans rfl
        have hcz79_1 : wc.cell? ⟨gb180, 1, none⟩ = some (.int .i64 a0_3) := (blk_cell BK180.out 1).trans rfl
        have hfz79_0 := blk_frozen BK180.out 0
        have hfz79_1 := blk_frozen BK180.out 1
        go_upto_region 10 with (first | ((with_reducible refine gate_callee (f := 24) rfl ?_); refine goesL_ (some 61) rfl rfl Try.func24 (by kernel_rfl) rfl #[.agg #[.int .i64 a0_0, .int .i64 a0_1], .agg #[.int .i64 a0_2, .int .i64 a0_3]] rfl (by (try simp only [List.map_toArray, List.map_cons, List.map_nil]); first | done | rfl | (simp only [List.length_drop, List.length_take]; rfl)) ?_; (with_reducible refine (span_Hull.calls a0_0 a0_1 a0_2 a0_3 t193 t194 t195 _ A71.out).mono ?_); rintro e w80 ⟨rfl, hb⟩; refine ⟨_, rfl, ?_⟩; have n0_ := Aside0.mk (blk_below (sp BK178.out) hb); have n1_ := Aside0.mk (blk_below (sp BK179.out) hb); have n2_ := Aside0.mk (blk_below (sp BK180.out) hb); have n3_ := Aside0.mk (blk_below (sp BK185.out) hb); have n4_ := Aside0.mk (below_step (by repeat (first | (with_reducible first | exact HB.out | apply bA | apply bD | apply bW | refine bS ?_ GE178.out | refine bS ?_ GE179.out | refine bS ?_ GE180.out | refine bS ?_ GE185.out) | exact HB.out)) hb); clear BK178; clear BK179; clear BK180; clear BK185; clear HB; have BK178 := n0_; have BK179 := n1_; have BK180 := n2_; have BK185 := n3_; have HB := n4_; clear n0_ n1_ n2_ n3_ n4_; (try clear hb); (try clear hb2); (try clear hk); (try clear hi)) | ((with_reducible refine gate_dst (N := 10) rfl ?_); refine box_event ?hg (N := 10) ?hd (cs := #[.int .i64 0, .int .i64 0]) (t := 23) ?hr ?_; (case hd => rfl); (case hg => rfl); (case hr => first | (go_simp; done) | (go_simp; rfl)); intro gb196 hg w81 hbox hb; have n0_ := Aside0.mk (blk_below (sp BK178.out) hb); have n1_ := Aside0.mk (blk_below (sp BK179.out) hb); have n2_ := Aside0.mk (blk_below (sp BK180.out) hb); have n3_ := Aside0.mk (blk_below (sp BK185.out) hb); have n4_ := Aside0.mk (below_step (by repeat (first | (with_reducible first | exact HB.out | apply bA | apply bD | apply bW | refine bS ?_ GE178.out | refine bS ?_ GE179.out | refine bS ?_ GE180.out | refine bS ?_ GE185.out) | exact HB.out)) hb); have n5_ := Aside0.mk (hbox); have n6_ := Aside0.mk ((by rw [hg]; exact (below_size (by repeat (first | (with_reducible first | exact HB.out | apply bA | apply bD | apply bW | refine bS ?_ GE178.out | refine bS ?_ GE179.out | refine bS ?_ GE180.out | refine bS ?_ GE185.out) | exact HB.out))) : w.heap.size ≤ gb196)); have n7_ := Aside0.mk ((by rw [hg]; exact (below_size (by repeat (first | (with_reducible first | exact HB.out | apply bA | apply bD | apply bW | refine bS ?_ GE178.out | refine bS ?_ GE179.out | refine bS ?_ GE180.out | refine bS ?_ GE185.out) | exact HB.out))) : w.heap.size ≤ gb196)); have n8_ := Aside0.mk ((by rw [hg]; exact Nat.ne_of_lt (blk_lt (g := gb178) (o := .cells #[.int .i64 a0_0, .int .i64 a0_1, .int .i64 a0_2, .int .i64 a0_3, .int .i64 a0_4, .int .i64 a0_5, .int .i64 a0_6] 52 (0, 0)) (sp BK178.out)) : gb178 ≠ gb196)); have n9_ := Aside0.mk ((by rw [hg]; exact Nat.ne_of_gt (blk_lt (g := gb178) (o := .cells #[.int .i64 a0_0, .int .i64 a0_1, .int .i64 a0_2, .int .i64 a0_3, .int .i64 a0_4, .int .i64 a0_5, .int .i64 a0_6] 52 (0, 0)) (sp BK178.out)) : gb196 ≠ gb178)); have n10_ := Aside0.mk ((by rw [hg]; exact Nat.ne_of_lt (blk_lt (g := gb179) (o := .cells #[.int .i64 a0_0, .int .i64 a0_1] 23 (0, 0)) (sp BK179.out)) : gb179 ≠ gb196)); have n11_ := Aside0.mk ((by rw [hg]; exact Nat.ne_of_gt (blk_lt (g := gb179) (o := .cells #[.int .i64 a0_0, .int .i64 a0_1] 23 (0, 0)) (sp BK179.out)) : gb196 ≠ gb179)); have n12_ := Aside0.mk ((by rw [hg]; exact Nat.ne_of_lt (blk_lt (g := gb180) (o := .cells #[.int .i64 a0_2, .int .i64 a0_3] 23 (0, 0)) (sp BK180.out)) : gb180 ≠ gb196)); have n13_ := Aside0.mk ((by rw [hg]; exact Nat.ne_of_gt (blk_lt (g := gb180) (o := .cells #[.int .i64 a0_2, .int .i64 a0_3] 23 (0, 0)) (sp BK180.out)) : gb196 ≠ gb180)); have n14_ := Aside0.mk ((by rw [hg]; exact Nat.ne_of_lt (blk_lt (g := gb185) (o := .cells #[.int .i64 t182, .int .i64 t183] 23 (0, 0)) (sp BK185.out)) : gb185 ≠ gb196)); have n15_ := Aside0.mk ((by rw [hg]; exact Nat.ne_of_gt (blk_lt (g := gb185) (o := .cells #[.int .i64 t182, .int .i64 t183] 23 (0, 0)) (sp BK185.out)) : gb196 ≠ gb185)); clear BK178; clear BK179; clear BK180; clear BK185; clear HB; have BK178 := n0_; have BK179 := n1_; have BK180 := n2_; have BK185 := n3_; have HB := n4_; have BK196 := n5_; have GW196 := n6_; have GE196 := n7_; have NB178_196 := n8_; have NB196_178 := n9_; have NB179_196 := n10_; have NB196_179 := n11_; have NB180_196 := n12_; have NB196_180 := n13_; have NB185_196 := n14_; have NB196_185 := n15_; clear n0_ n1_ n2_ n3_ n4_ n5_ n6_ n7_ n8_ n9_ n10_ n11_ n12_ n13_ n14_ n15_; clear hb hbox hg; have hnb82 := NB196_178.out; have hnc82 := NB178_196.out; have hnb83 := NB196_179.out; have hnc83 := NB179_196.out; have hnb84 := NB196_180.out; have hnc84 := NB180_196.out; have hnb85 := NB196_185.out; have hnc85 := NB185_196.out; have hcz86_0 : w81.cell? ⟨gb196, 0, none⟩ = some (.int .i64 0) := (blk_cell BK196.out 0).trans rfl; have hcz86_1 : w81.cell? ⟨gb196, 1, none⟩ = some (.int .i64 0) := (blk_cell BK196.out 1).trans rfl; have hfz86_0 := blk_frozen BK196.out 0; have hfz86_1 := blk_frozen BK196.out 1))
        (try simp only [Act.put, List.setIfInBounds_toArray, List.set_cons_zero, List.set_cons_succ])
        go_cut [89] (fun v89 wc => ∃ (kq : Nat) (x89_71 : Bool), v89 = .bool x89_71 ∧ Aside0 (spillwaylaw03_SpanMembers.j2 kq a0_4 a0_5 a0_6 x89_71 a0_0 a0_1 a0_2 a0_3 = some r) ∧ Aside0 (kq ≤ kj51) ∧ Aside0 (wc.heap[gb178]? = some (.cells #[.int .i64 a0_0, .int .i64 a0_1, .int .i64 a0_2, .int .i64 a0_3, .int .i64 a0_4, .int .i64 a0_5, .int .i64 a0_6] 52 (0, 0))) ∧ Aside0 (wc.heap[gb179]? = some (.cells #[.int .i64 a0_0, .int .i64 a0_1] 23 (0, 0))) ∧ Aside0 (wc.heap[gb180]? = some (.cells #[.int .i64 a0_2, .int .i64 a0_3] 23 (0, 0))) ∧ Aside0 (wc.heap[gb185]? = some (.cells #[.int .i64 t182, .int .i64 t183] 23 (0, 0))) ∧ Aside0 (wc.heap[gb196]? = some (.cells #[.int .i64 t193, .int .i64 t194] 23 (0, 0))) ∧ Aside0 (Below w.heap.size w wc))
        case first =>
         have H := HC72.out
         clear HC72
         by_cases c87 : t195 = 0
         ·rw [if_pos c87] at H
          have c87b0 : (t195 == 0) = true := beq_iff_eq.mpr c87
          have c87b1 : (t195 != 0) = false := bne_eq_false_iff_eq.mpr c87
          clear c87
          (first | rw [c87b0] | (simp only [i64_w, i32_w]; rw [c87b0]) | skip)
          replace H := Option.bind_eq_some_iff.mp H
          obtain ⟨t197, A880, H⟩ := H
          replace H : (if t197 = true then ((span_Has.f t193 t194 a0_5).bind fun t198 => (if t198 = true then ((span_Holds.f t193 t194 a0_0 a0_1).bind fun t199 => (if t199 = true then ((span_Holds.f t193 t194 a0_2 a0_3).bind fun t200 => (spillwaylaw03_SpanMembers.j2 kj51 a0_4 a0_5 a0_6 (!t200) a0_0 a0_1 a0_2 a0_3)) else (spillwaylaw03_SpanMembers.j2 kj51 a0_4 a0_5 a0_6 true a0_0 a0_1 a0_2 a0_3))) else (spillwaylaw03_SpanMembers.j2 kj51 a0_4 a0_5 a0_6 true a0_0 a0_1 a0_2 a0_3))) else (spillwaylaw03_SpanMembers.j2 kj51 a0_4 a0_5 a0_6 true a0_0 a0_1 a0_2 a0_3)) = some r := H
          have A88 := Aside0.mk A880
          clear A880
          by_cases c89 : t197 = true
          ·subst c89
           have H1 : ((span_Has.f t193 t194 a0_5).bind fun t198 => (if t198 = true then ((span_Holds.f t193 t194 a0_0 a0_1).bind fun t199 => (if t199 = true then ((span_Holds.f t193 t194 a0_2 a0_3).bind fun t200 => (spillwaylaw03_SpanMembers.j2 kj51 a0_4 a0_5 a0_6 (!t200) a0_0 a0_1 a0_2 a0_3)) else (spillwaylaw03_SpanMembers.j2 kj51 a0_4 a0_5 a0_6 true a0_0 a0_1 a0_2 a0_3))) else (spillwaylaw03_SpanMembers.j2 kj51 a0_4 a0_5 a0_6 true a0_0 a0_1 a0_2 a0_3))) = some r := by rw [if_pos rfl] at H; exact H
           clear H
           have H := H1
           clear H1
           replace H := Option.bind_eq_some_iff.mp H
           obtain ⟨t198, A900, H⟩ := H
           replace H : (if t198 = true then ((span_Holds.f t193 t194 a0_0 a0_1).bind fun t199 => (if t199 = true then ((span_Holds.f t193 t194 a0_2 a0_3).bind fun t200 => (spillwaylaw03_SpanMembers.j2 kj51 a0_4 a0_5 a0_6 (!t200) a0_0 a0_1 a0_2 a0_3)) else (spillwaylaw03_SpanMembers.j2 kj51 a0_4 a0_5 a0_6 true a0_0 a0_1 a0_2 a0_3))) else (spillwaylaw03_SpanMembers.j2 kj51 a0_4 a0_5 a0_6 true a0_0 a0_1 a0_2 a0_3)) = some r := H
           have A90 := Aside0.mk A900
           clear A900
           by_cases c91 : t198 = true
           ·subst c91
            have H1 : ((span_Holds.f t193 t194 a0_0 a0_1).bind fun t199 => (if t199 = true then ((span_Holds.f t193 t194 a0_2 a0_3).bind fun t200 => (spillwaylaw03_SpanMembers.j2 kj51 a0_4 a0_5 a0_6 (!t200) a0_0 a0_1 a0_2 a0_3)) else (spillwaylaw03_SpanMembers.j2 kj51 a0_4 a0_5 a0_6 true a0_0 a0_1 a0_2 a0_3))) = some r := by rw [if_pos rfl] at H; exact H
            clear H
            have H := H1
            clear H1
            replace H := Option.bind_eq_some_iff.mp H
            obtain ⟨t199, A920, H⟩ := H
            replace H : (if t199 = true then ((span_Holds.f t193 t194 a0_2 a0_3).bind fun t200 => (spillwaylaw03_SpanMembers.j2 kj51 a0_4 a0_5 a0_6 (!t200) a0_0 a0_1 a0_2 a0_3)) else (spillwaylaw03_SpanMembers.j2 kj51 a0_4 a0_5 a0_6 true a0_0 a0_1 a0_2 a0_3)) = some r := H
            have A92 := Aside0.mk A920
            clear A920
            by_cases c93 : t199 = true
            ·subst c93
             have H1 : ((span_Holds.f t193 t194 a0_2 a0_3).bind fun t200 => (spillwaylaw03_SpanMembers.j2 kj51 a0_4 a0_5 a0_6 (!t200) a0_0 a0_1 a0_2 a0_3)) = some r := by rw [if_pos rfl] at H; exact H
             clear H
             have H := H1
             clear H1
             replace H := Option.bind_eq_some_iff.mp H
             obtain ⟨t200, A940, H⟩ := H
             replace H : (spillwaylaw03_SpanMembers.j2 kj51 a0_4 a0_5 a0_6 (!t200) a0_0 a0_1 a0_2 a0_3) = some r := H
             have A94 := Aside0.mk A940
             clear A940
             have H' := Aside0.mk H
             clear H
             have hnb95 := NB196_178.out
             have hnc95 := NB178_196.out
             have hnb96 := NB196_179.out
             have hnc96 := NB179_196.out
             have hnb97 := NB196_180.out
             have hnc97 := NB180_196.out
             have hnb98 := NB196_185.out
             have hnc98 := NB185_196.out
             have hcz99_0 : w81.cell? ⟨gb196, 0, none⟩ = some (.int .i64 0) := (blk_cell BK196.out 0).trans rfl
             have hcz99_1 : w81.cell? ⟨gb196, 1, none⟩ = some (.int .i64 0) := (blk_cell BK196.out 1).trans rfl
             have hfz99_0 := blk_frozen BK196.out 0
             have hfz99_1 := blk_frozen BK196.out 1
             go_wp2_with (first | (go_at_call 20; (with_reducible refine (span_Has.calls t193 t194 a0_4 true _ A88.out).mono ?_); rintro e w100 ⟨rfl, hb⟩; have n0_ := Aside0.mk (blk_below (g := gb178) (o := .cells #[.int .i64 a0_0, .int .i64 a0_1, .int .i64 a0_2, .int .i64 a0_3, .int .i64 a0_4, .int .i64 a0_5, .int .i64 a0_6] 52 (0, 0)) (sp (blk_far (sp (blk_far (sp BK178.out) NB178_196.out _)) NB178_196.out _)) hb); have n1_ := Aside0.mk (blk_below (g := gb179) (o := .cells #[.int .i64 a0_0, .int .i64 a0_1] 23 (0, 0)) (sp (blk_far (sp (blk_far (sp BK179.out) NB179_196.out _)) NB179_196.out _)) hb); have n2_ := Aside0.mk (blk_below (g := gb180) (o := .cells #[.int .i64 a0_2, .int .i64 a0_3] 23 (0, 0)) (sp (blk_far (sp (blk_far (sp BK180.out) NB180_196.out _)) NB180_196.out _)) hb); have n3_ := Aside0.mk (blk_below (g := gb185) (o := .cells #[.int .i64 t182, .int .i64 t183] 23 (0, 0)) (sp (blk_far (sp (blk_far (sp BK185.out) NB185_196.out _)) NB185_196.out _)) hb); have n4_ := Aside0.mk (blk_below (g := gb196) (o := .cells #[.int .i64 t193, .int .i64 t194] 23 (0, 0)) (by (with_reducible repeat first | apply dN | apply dW | apply dL); refine blk_put (cs := #[.int .i64 t193, .int .i64 0]) ?_ 1 _ rfl; (with_reducible repeat first | apply dN | apply dW | apply dL); refine blk_put (cs := #[.int .i64 0, .int .i64 0]) ?_ 0 _ rfl; exact sp BK196.out) hb); have n5_ := Aside0.mk (below_step (by repeat (first | (with_reducible first | exact HB.out | apply bA | apply bD | apply bW | refine bS ?_ GE178.out | refine bS ?_ GE179.out | refine bS ?_ GE180.out | refine bS ?_ GE185.out | refine bS ?_ GE196.out) | exact HB.out)) hb); clear BK178; clear BK179; clear BK180; clear BK185; clear BK196; clear HB; have BK178 := n0_; have BK179 := n1_; have BK180 := n2_; have BK185 := n3_; have BK196 := n4_; have HB := n5_; clear n0_ n1_ n2_ n3_ n4_ n5_; (try clear hb); (try clear hb2); (try clear hk); (try clear hi); have hcz101_0 : w100.cell? ⟨gb196, 0, none⟩ = some (.int .i64 t193) := (blk_cell BK196.out 0).trans rfl; have hcz101_1 : w100.cell? ⟨gb196, 1, none⟩ = some (.int .i64 t194) := (blk_cell BK196.out 1).trans rfl; have hfz101_0 := blk_frozen BK196.out 0; have hfz101_1 := blk_frozen BK196.out 1) | (go_at_call 20; (with_reducible refine (span_Has.calls t193 t194 a0_5 true _ A90.out).mono ?_); rintro e w102 ⟨rfl, hb⟩; have n0_ := Aside0.mk (blk_below (sp BK178.out) hb); have n1_ := Aside0.mk (blk_below (sp BK179.out) hb); have n2_ := Aside0.mk (blk_below (sp BK180.out) hb); have n3_ := Aside0.mk (blk_below (sp BK185.out) hb); have n4_ := Aside0.mk (blk_below (sp BK196.out) hb); have n5_ := Aside0.mk (below_step (by repeat (first | (with_reducible first | exact HB.out | apply bA | apply bD | apply bW | refine bS ?_ GE178.out | refine bS ?_ GE179.out | refine bS ?_ GE180.out | refine bS ?_ GE185.out | refine bS ?_ GE196.out) | exact HB.out)) hb); clear BK178; clear BK179; clear BK180; clear BK185; clear BK196; clear HB; have BK178 := n0_; have BK179 := n1_; have BK180 := n2_; have BK185 := n3_; have BK196 := n4_; have HB := n5_; clear n0_ n1_ n2_ n3_ n4_ n5_; (try clear hb); (try clear hb2); (try clear hk); (try clear hi); have hcz103_0 : w102.cell? ⟨gb196, 0, none⟩ = some (.int .i64 t193) := (blk_cell BK196.out 0).trans rfl; have hcz103_1 : w102.cell? ⟨gb196, 1, none⟩ = some (.int .i64 t194) := (blk_cell BK196.out 1).trans rfl; have hfz103_0 := blk_frozen BK196.out 0; have hfz103_1 := blk_frozen BK196.out 1; have hnb104 := NB179_178.out; have hnc104 := NB178_179.out; have hnb105 := NB179_180.out; have hnc105 := NB180_179.out; have hnb106 := NB179_185.out; have hnc106 := NB185_179.out; have hcz107_0 : w102.cell? ⟨gb179, 0, none⟩ = some (.int .i64 a0_0) := (blk_cell BK179.out 0).trans rfl; have hcz107_1 : w102.cell? ⟨gb179, 1, none⟩ = some (.int .i64 a0_1) := (blk_cell BK179.out 1).trans rfl; have hfz107_0 := blk_frozen BK179.out 0; have hfz107_1 := blk_frozen BK179.out 1) | (go_at_call 22; (with_reducible refine (span_Holds.calls t193 t194 a0_0 a0_1 true _ A92.out).mono ?_); rintro e w108 ⟨rfl, hb⟩; have n0_ := Aside0.mk (blk_below (sp BK178.out) hb); have n1_ := Aside0.mk (blk_below (sp BK179.out) hb); have n2_ := Aside0.mk (blk_below (sp BK180.out) hb); have n3_ := Aside0.mk (blk_below (sp BK185.out) hb); have n4_ := Aside0.mk (blk_below (sp BK196.out) hb); have n5_ := Aside0.mk (below_step (by repeat (first | (with_reducible first | exact HB.out | apply bA | apply bD | apply bW | refine bS ?_ GE178.out | refine bS ?_ GE179.out | refine bS ?_ GE180.out | refine bS ?_ GE185.out | refine bS ?_ GE196.out) | exact HB.out)) hb); clear BK178; clear BK179; clear BK180; clear BK185; clear BK196; clear HB; have BK178 := n0_; have BK179 := n1_; have BK180 := n2_; have BK185 := n3_; have BK196 := n4_; have HB := n5_; clear n0_ n1_ n2_ n3_ n4_ n5_; (try clear hb); (try clear hb2); (try clear hk); (try clear hi); have hcz109_0 : w108.cell? ⟨gb196, 0, none⟩ = some (.int .i64 t193) := (blk_cell BK196.out 0).trans rfl; have hcz109_1 : w108.cell? ⟨gb196, 1, none⟩ = some (.int .i64 t194) := (blk_cell BK196.out 1).trans rfl; have hfz109_0 := blk_frozen BK196.out 0; have hfz109_1 := blk_frozen BK196.out 1; have hnb110 := NB180_178.out; have hnc110 := NB178_180.out; have hnb111 := NB180_185.out; have hnc111 := NB185_180.out; have hcz112_0 : w108.cell? ⟨gb180, 0, none⟩ = some (.int .i64 a0_2) := (blk_cell BK180.out 0).trans rfl; have hcz112_1 : w108.cell? ⟨gb180, 1, none⟩ = some (.int .i64 a0_3) := (blk_cell BK180.out 1).trans rfl; have hfz112_0 := blk_frozen BK180.out 0; have hfz112_1 := blk_frozen BK180.out 1) | (go_at_call 22; (with_reducible refine (span_Holds.calls t193 t194 a0_2 a0_3 t200 _ A94.out).mono ?_); rintro e w113 ⟨rfl, hb⟩; have n0_ := Aside0.mk (blk_below (sp BK178.out) hb); have n1_ := Aside0.mk (blk_below (sp BK179.out) hb); have n2_ := Aside0.mk (blk_below (sp BK180.out) hb); have n3_ := Aside0.mk (blk_below (sp BK185.out) hb); have n4_ := Aside0.mk (blk_below (sp BK196.out) hb); have n5_ := Aside0.mk (below_step (by repeat (first | (with_reducible first | exact HB.out | apply bA | apply bD | apply bW | refine bS ?_ GE178.out | refine bS ?_ GE179.out | refine bS ?_ GE180.out | refine bS ?_ GE185.out | refine bS ?_ GE196.out) | exact HB.out)) hb); clear BK178; clear BK179; clear BK180; clear BK185; clear BK196; clear HB; have BK178 := n0_; have BK179 := n1_; have BK180 := n2_; have BK185 := n3_; have BK196 := n4_; have HB := n5_; clear n0_ n1_ n2_ n3_ n4_ n5_; (try clear hb); (try clear hb2); (try clear hk); (try clear hi)))
             go_meet
             case rel => exact ⟨_, (!t200), (by first | rfl | (simp; done) | (simp [*]; done)), H', ⟨by have := HJ4.out; have := HJ51.out; first | omega | exact Nat.le_refl _⟩, ⟨(sp BK178.out)⟩, ⟨(sp BK179.out)⟩, ⟨(sp BK180.out)⟩, ⟨(sp BK185.out)⟩, ⟨(sp BK196.out)⟩, ⟨by repeat (first | (with_reducible first | exact HB.out | apply bA | apply bD | apply bW | refine bS ?_ GE178.out | refine bS ?_ GE179.out | refine bS ?_ GE180.out | refine bS ?_ GE185.out | refine bS ?_ GE196.out) | exact HB.out)⟩⟩
            ·replace c93 := Bool.eq_false_iff.mpr c93
             subst c93
             have H1 : (spillwaylaw03_SpanMembers.j2 kj51 a0_4 a0_5 a0_6 true a0_0 a0_1 a0_2 a0_3) = some r := by rw [if_neg (show ¬ (false = true) by decide)] at H; exact H
             clear H
             have H := H1
             clear H1
             have H' := Aside0.mk H
             clear H
             have hnb114 := NB196_178.out
             have hnc114 := NB178_196.out
             have hnb115 := NB196_179.out
             have hnc115 := NB179_196.out
             have hnb116 := NB196_180.out
             have hnc116 := NB180_196.out
             have hnb117 := NB196_185.out
             have hnc117 := NB185_196.out
             have hcz118_0 : w81.cell? ⟨gb196, 0, none⟩ = some (.int .i64 0) := (blk_cell BK196.out 0).trans rfl
             have hcz118_1 : w81.cell? ⟨gb196, 1, none⟩ = some (.int .i64 0) := (blk_cell BK196.out 1).trans rfl
             have hfz118_0 := blk_frozen BK196.out 0
             have hfz118_1 := blk_frozen BK196.out 1
             go_wp2_with (first | (go_at_call 20; (with_reducible refine (span_Has.calls t193 t194 a0_4 true _ A88.out).mono ?_); rintro e w119 ⟨rfl, hb⟩; have n0_ := Aside0.mk (blk_below (g := gb178) (o := .cells #[.int .i64 a0_0, .int .i64 a0_1, .int .i64 a0_2, .int .i64 a0_3, .int .i64 a0_4, .int .i64 a0_5, .int .i64 a0_6] 52 (0, 0)) (sp (blk_far (sp (blk_far (sp BK178.out) NB178_196.out _)) NB178_196.out _)) hb); have n1_ := Aside0.mk (blk_below (g := gb179) (o := .cells #[.int .i64 a0_0, .int .i64 a0_1] 23 (0, 0)) (sp (blk_far (sp (blk_far (sp BK179.out) NB179_196.out _)) NB179_196.out _)) hb); have n2_ := Aside0.mk (blk_below (g := gb180) (o := .cells #[.int .i64 a0_2, .int .i64 a0_3] 23 (0, 0)) (sp (blk_far (sp (blk_far (sp BK180.out) NB180_196.out _)) NB180_196.out _)) hb); have n3_ := Aside0.mk (blk_below (g := gb185) (o := .cells #[.int .i64 t182, .int .i64 t183] 23 (0, 0)) (sp (blk_far (sp (blk_far (sp BK185.out) NB185_196.out _)) NB185_196.out _)) hb); have n4_ := Aside0.mk (blk_below (g := gb196) (o := .cells #[.int .i64 t193, .int .i64 t194] 23 (0, 0)) (by (with_reducible repeat first | apply dN | apply dW | apply dL); refine blk_put (cs := #[.int .i64 t193, .int .i64 0]) ?_ 1 _ rfl; (with_reducible repeat first | apply dN | apply dW | apply dL); refine blk_put (cs := #[.int .i64 0, .int .i64 0]) ?_ 0 _ rfl; exact sp BK196.out) hb); have n5_ := Aside0.mk (below_step (by repeat (first | (with_reducible first | exact HB.out | apply bA | apply bD | apply bW | refine bS ?_ GE178.out | refine bS ?_ GE179.out | refine bS ?_ GE180.out | refine bS ?_ GE185.out | refine bS ?_ GE196.out) | exact HB.out)) hb); clear BK178; clear BK179; clear BK180; clear BK185; clear BK196; clear HB; have BK178 := n0_; have BK179 := n1_; have BK180 := n2_; have BK185 := n3_; have BK196 := n4_; have HB := n5_; clear n0_ n1_ n2_ n3_ n4_ n5_; (try clear hb); (try clear hb2); (try clear hk); (try clear hi); have hcz120_0 : w119.cell? ⟨gb196, 0, none⟩ = some (.int .i64 t193) := (blk_cell BK196.out 0).trans rfl; have hcz120_1 : w119.cell? ⟨gb196, 1, none⟩ = some (.int .i64 t194) := (blk_cell BK196.out 1).trans rfl; have hfz120_0 := blk_frozen BK196.out 0; have hfz120_1 := blk_frozen BK196.out 1) | (go_at_call 20; (with_reducible refine (span_Has.calls t193 t194 a0_5 true _ A90.out).mono ?_); rintro e w121 ⟨rfl, hb⟩; have n0_ := Aside0.mk (blk_below (sp BK178.out) hb); have n1_ := Aside0.mk (blk_below (sp BK179.out) hb); have n2_ := Aside0.mk (blk_below (sp BK180.out) hb); have n3_ := Aside0.mk (blk_below (sp BK185.out) hb); have n4_ := Aside0.mk (blk_below (sp BK196.out) hb); have n5_ := Aside0.mk (below_step (by repeat (first | (with_reducible first | exact HB.out | apply bA | apply bD | apply bW | refine bS ?_ GE178.out | refine bS ?_ GE179.out | refine bS ?_ GE180.out | refine bS ?_ GE185.out | refine bS ?_ GE196.out) | exact HB.out)) hb); clear BK178; clear BK179; clear BK180; clear BK185; clear BK196; clear HB; have BK178 := n0_; have BK179 := n1_; have BK180 := n2_; have BK185 := n3_; have BK196 := n4_; have HB := n5_; clear n0_ n1_ n2_ n3_ n4_ n5_; (try clear hb); (try clear hb2); (try clear hk); (try clear hi); have hcz122_0 : w121.cell? ⟨gb196, 0, none⟩ = some (.int .i64 t193) := (blk_cell BK196.out 0).trans rfl; have hcz122_1 : w121.cell? ⟨gb196, 1, none⟩ = some (.int .i64 t194) := (blk_cell BK196.out 1).trans rfl; have hfz122_0 := blk_frozen BK196.out 0; have hfz122_1 := blk_frozen BK196.out 1; have hnb123 := NB179_178.out; have hnc123 := NB178_179.out; have hnb124 := NB179_180.out; have hnc124 := NB180_179.out; have hnb125 := NB179_185.out; have hnc125 := NB185_179.out; have hcz126_0 : w121.cell? ⟨gb179, 0, none⟩ = some (.int .i64 a0_0) := (blk_cell BK179.out 0).trans rfl; have hcz126_1 : w121.cell? ⟨gb179, 1, none⟩ = some (.int .i64 a0_1) := (blk_cell BK179.out 1).trans rfl; have hfz126_0 := blk_frozen BK179.out 0; have hfz126_1 := blk_frozen BK179.out 1) | (go_at_call 22; (with_reducible refine (span_Holds.calls t193 t194 a0_0 a0_1 false _ A92.out).mono ?_); rintro e w127 ⟨rfl, hb⟩; have n0_ := Aside0.mk (blk_below (sp BK178.out) hb); have n1_ := Aside0.mk (blk_below (sp BK179.out) hb); have n2_ := Aside0.mk (blk_below (sp BK180.out) hb); have n3_ := Aside0.mk (blk_below (sp BK185.out) hb); have n4_ := Aside0.mk (blk_below (sp BK196.out) hb); have n5_ := Aside0.mk (below_step (by repeat (first | (with_reducible first | exact HB.out | apply bA | apply bD | apply bW | refine bS ?_ GE178.out | refine bS ?_ GE179.out | refine bS ?_ GE180.out | refine bS ?_ GE185.out | refine bS ?_ GE196.out) | exact HB.out)) hb); clear BK178; clear BK179; clear BK180; clear BK185; clear BK196; clear HB; have BK178 := n0_; have BK179 := n1_; have BK180 := n2_; have BK185 := n3_; have BK196 := n4_; have HB := n5_; clear n0_ n1_ n2_ n3_ n4_ n5_; (try clear hb); (try clear hb2); (try clear hk); (try clear hi)))
             go_meet
             case rel => exact ⟨_, (true), (by first | rfl | (simp; done) | (simp [*]; done)), H', ⟨by have := HJ4.out; have := HJ51.out; first | omega | exact Nat.le_refl _⟩, ⟨(sp BK178.out)⟩, ⟨(sp BK179.out)⟩, ⟨(sp BK180.out)⟩, ⟨(sp BK185.out)⟩, ⟨(sp BK196.out)⟩, ⟨by repeat (first | (with_reducible first | exact HB.out | apply bA | apply bD | apply bW | refine bS ?_ GE178.out | refine bS ?_ GE179.out | refine bS ?_ GE180.out | refine bS ?_ GE185.out | refine bS ?_ GE196.out) | exact HB.out)⟩⟩
           ·replace c91 := Bool.eq_false_iff.mpr c91
            subst c91
            have H1 : (spillwaylaw03_SpanMembers.j2 kj51 a0_4 a0_5 a0_6 true a0_0 a0_1 a0_2 a0_3) = some r := by rw [if_neg (show ¬ (false = true) by decide)] at H; exact H
            clear H
            have H := H1
            clear H1
            have H' := Aside0.mk H
            clear H
            have hnb128 := NB196_178.out
            have hnc128 := NB178_196.out
            have hnb129 := NB196_179.out
            have hnc129 := NB179_196.out
            have hnb130 := NB196_180.out
            have hnc130 := NB180_196.out
            have hnb131 := NB196_185.out
            have hnc131 := NB185_196.out
            have hcz132_0 : w81.cell? ⟨gb196, 0, none⟩ = some (.int .i64 0) := (blk_cell BK196.out 0).trans rfl
            have hcz132_1 : w81.cell? ⟨gb196, 1, none⟩ = some (.int .i64 0) := (blk_cell BK196.out 1).trans rfl
            have hfz132_0 := blk_frozen BK196.out 0
            have hfz132_1 := blk_frozen BK196.out 1
            go_wp2_with (first | (go_at_call 20; (with_reducible refine (span_Has.calls t193 t194 a0_4 true _ A88.out).mono ?_); rintro e w133 ⟨rfl, hb⟩; have n0_ := Aside0.mk (blk_below (g := gb178) (o := .cells #[.int .i64 a0_0, .int .i64 a0_1, .int .i64 a0_2, .int .i64 a0_3, .int .i64 a0_4, .int .i64 a0_5, .int .i64 a0_6] 52 (0, 0)) (sp (blk_far (sp (blk_far (sp BK178.out) NB178_196.out _)) NB178_196.out _)) hb); have n1_ := Aside0.mk (blk_below (g := gb179) (o := .cells #[.int .i64 a0_0, .int .i64 a0_1] 23 (0, 0)) (sp (blk_far (sp (blk_far (sp BK179.out) NB179_196.out _)) NB179_196.out _)) hb); have n2_ := Aside0.mk (blk_below (g := gb180) (o := .cells #[.int .i64 a0_2, .int .i64 a0_3] 23 (0, 0)) (sp (blk_far (sp (blk_far (sp BK180.out) NB180_196.out _)) NB180_196.out _)) hb); have n3_ := Aside0.mk (blk_below (g := gb185) (o := .cells #[.int .i64 t182, .int .i64 t183] 23 (0, 0)) (sp (blk_far (sp (blk_far (sp BK185.out) NB185_196.out _)) NB185_196.out _)) hb); have n4_ := Aside0.mk (blk_below (g := gb196) (o := .cells #[.int .i64 t193, .int .i64 t194] 23 (0, 0)) (by (with_reducible repeat first | apply dN | apply dW | apply dL); refine blk_put (cs := #[.int .i64 t193, .int .i64 0]) ?_ 1 _ rfl; (with_reducible repeat first | apply dN | apply dW | apply dL); refine blk_put (cs := #[.int .i64 0, .int .i64 0]) ?_ 0 _ rfl; exact sp BK196.out) hb); have n5_ := Aside0.mk (below_step (by repeat (first | (with_reducible first | exact HB.out | apply bA | apply bD | apply bW | refine bS ?_ GE178.out | refine bS ?_ GE179.out | refine bS ?_ GE180.out | refine bS ?_ GE185.out | refine bS ?_ GE196.out) | exact HB.out)) hb); clear BK178; clear BK179; clear BK180; clear BK185; clear BK196; clear HB; have BK178 := n0_; have BK179 := n1_; have BK180 := n2_; have BK185 := n3_; have BK196 := n4_; have HB := n5_; clear n0_ n1_ n2_ n3_ n4_ n5_; (try clear hb); (try clear hb2); (try clear hk); (try clear hi); have hcz134_0 : w133.cell? ⟨gb196, 0, none⟩ = some (.int .i64 t193) := (blk_cell BK196.out 0).trans rfl; have hcz134_1 : w133.cell? ⟨gb196, 1, none⟩ = some (.int .i64 t194) := (blk_cell BK196.out 1).trans rfl; have hfz134_0 := blk_frozen BK196.out 0; have hfz134_1 := blk_frozen BK196.out 1) | (go_at_call 20; (with_reducible refine (span_Has.calls t193 t194 a0_5 false _ A90.out).mono ?_); rintro e w135 ⟨rfl, hb⟩; have n0_ := Aside0.mk (blk_below (sp BK178.out) hb); have n1_ := Aside0.mk (blk_below (sp BK179.out) hb); have n2_ := Aside0.mk (blk_below (sp BK180.out) hb); have n3_ := Aside0.mk (blk_below (sp BK185.out) hb); have n4_ := Aside0.mk (blk_below (sp BK196.out) hb); have n5_ := Aside0.mk (below_step (by repeat (first | (with_reducible first | exact HB.out | apply bA | apply bD | apply bW | refine bS ?_ GE178.out | refine bS ?_ GE179.out | refine bS ?_ GE180.out | refine bS ?_ GE185.out | refine bS ?_ GE196.out) | exact HB.out)) hb); clear BK178; clear BK179; clear BK180; clear BK185; clear BK196; clear HB; have BK178 := n0_; have BK179 := n1_; have BK180 := n2_; have BK185 := n3_; have BK196 := n4_; have HB := n5_; clear n0_ n1_ n2_ n3_ n4_ n5_; (try clear hb); (try clear hb2); (try clear hk); (try clear hi)))
            go_meet
            case rel => exact ⟨_, (true), (by first | rfl | (simp; done) | (simp [*]; done)), H', ⟨by have := HJ4.out; have := HJ51.out; first | omega | exact Nat.le_refl _⟩, ⟨(sp BK178.out)⟩, ⟨(sp BK179.out)⟩, ⟨(sp BK180.out)⟩, ⟨(sp BK185.out)⟩, ⟨(sp BK196.out)⟩, ⟨by repeat (first | (with_reducible first | exact HB.out | apply bA | apply bD | apply bW | refine bS ?_ GE178.out | refine bS ?_ GE179.out | refine bS ?_ GE180.out | refine bS ?_ GE185.out | refine bS ?_ GE196.out) | exact HB.out)⟩⟩
          ·replace c89 := Bool.eq_false_iff.mpr c89
           subst c89
           have H1 : (spillwaylaw03_SpanMembers.j2 kj51 a0_4 a0_5 a0_6 true a0_0 a0_1 a0_2 a0_3) = some r := by rw [if_neg (show ¬ (false = true) by decide)] at H; exact H
           clear H
           have H := H1
           clear H1
           have H' := Aside0.mk H
           clear H
           have hnb136 := NB196_178.out
           have hnc136 := NB178_196.out
           have hnb137 := NB196_179.out
           have hnc137 := NB179_196.out
           have hnb138 := NB196_180.out
           have hnc138 := NB180_196.out
           have hnb139 := NB196_185.out
           have hnc139 := NB185_196.out
           have hcz140_0 : w81.cell? ⟨gb196, 0, none⟩ = some (.int .i64 0) := (blk_cell BK196.out 0).trans rfl
           have hcz140_1 : w81.cell? ⟨gb196, 1, none⟩ = some (.int .i64 0) := (blk_cell BK196.out 1).trans rfl
           have hfz140_0 := blk_frozen BK196.out 0
           have hfz140_1 := blk_frozen BK196.out 1
           go_wp2_with (first | (go_at_call 20; (with_reducible refine (span_Has.calls t193 t194 a0_4 false _ A88.out).mono ?_); rintro e w141 ⟨rfl, hb⟩; have n0_ := Aside0.mk (blk_below (g := gb178) (o := .cells #[.int .i64 a0_0, .int .i64 a0_1, .int .i64 a0_2, .int .i64 a0_3, .int .i64 a0_4, .int .i64 a0_5, .int .i64 a0_6] 52 (0, 0)) (sp (blk_far (sp (blk_far (sp BK178.out) NB178_196.out _)) NB178_196.out _)) hb); have n1_ := Aside0.mk (blk_below (g := gb179) (o := .cells #[.int .i64 a0_0, .int .i64 a0_1] 23 (0, 0)) (sp (blk_far (sp (blk_far (sp BK179.out) NB179_196.out _)) NB179_196.out _)) hb); have n2_ := Aside0.mk (blk_below (g := gb180) (o := .cells #[.int .i64 a0_2, .int .i64 a0_3] 23 (0, 0)) (sp (blk_far (sp (blk_far (sp BK180.out) NB180_196.out _)) NB180_196.out _)) hb); have n3_ := Aside0.mk (blk_below (g := gb185) (o := .cells #[.int .i64 t182, .int .i64 t183] 23 (0, 0)) (sp (blk_far (sp (blk_far (sp BK185.out) NB185_196.out _)) NB185_196.out _)) hb); have n4_ := Aside0.mk (blk_below (g := gb196) (o := .cells #[.int .i64 t193, .int .i64 t194] 23 (0, 0)) (by (with_reducible repeat first | apply dN | apply dW | apply dL); refine blk_put (cs := #[.int .i64 t193, .int .i64 0]) ?_ 1 _ rfl; (with_reducible repeat first | apply dN | apply dW | apply dL); refine blk_put (cs := #[.int .i64 0, .int .i64 0]) ?_ 0 _ rfl; exact sp BK196.out) hb); have n5_ := Aside0.mk (below_step (by repeat (first | (with_reducible first | exact HB.out | apply bA | apply bD | apply bW | refine bS ?_ GE178.out | refine bS ?_ GE179.out | refine bS ?_ GE180.out | refine bS ?_ GE185.out | refine bS ?_ GE196.out) | exact HB.out)) hb); clear BK178; clear BK179; clear BK180; clear BK185; clear BK196; clear HB; have BK178 := n0_; have BK179 := n1_; have BK180 := n2_; have BK185 := n3_; have BK196 := n4_; have HB := n5_; clear n0_ n1_ n2_ n3_ n4_ n5_; (try clear hb); (try clear hb2); (try clear hk); (try clear hi)))
           go_meet
           case rel => exact ⟨_, (true), (by first | rfl | (simp; done) | (simp [*]; done)), H', ⟨by have := HJ4.out; have := HJ51.out; first | omega | exact Nat.le_refl _⟩, ⟨(sp BK178.out)⟩, ⟨(sp BK179.out)⟩, ⟨(sp BK180.out)⟩, ⟨(sp BK185.out)⟩, ⟨(sp BK196.out)⟩, ⟨by repeat (first | (with_reducible first | exact HB.out | apply bA | apply bD | apply bW | refine bS ?_ GE178.out | refine bS ?_ GE179.out | refine bS ?_ GE180.out | refine bS ?_ GE185.out | refine bS ?_ GE196.out) | exact HB.out)⟩⟩
         ·rw [if_neg c87] at H
          have c87b0 : (t195 == 0) = false := beq_eq_false_iff_ne.mpr c87
          have c87b1 : (t195 != 0) = true := bne_iff_ne.mpr c87
          (first | rw [c87b0] | (simp only [i64_w, i32_w]; rw [c87b0]) | skip)
          have H' := Aside0.mk H
          clear H
          go_wp2
          go_meet
          case rel => exact ⟨_, (true), (by first | rfl | (simp; done) | (simp [*]; done)), H', ⟨by have := HJ4.out; have := HJ51.out; first | omega | exact Nat.le_refl _⟩, ⟨(sp (blk_far (sp (blk_far (sp BK178.out) NB178_196.out _)) NB178_196.out _))⟩, ⟨(sp (blk_far (sp (blk_far (sp BK179.out) NB179_196.out _)) NB179_196.out _))⟩, ⟨(sp (blk_far (sp (blk_far (sp BK180.out) NB180_196.out _)) NB180_196.out _))⟩, ⟨(sp (blk_far (sp (blk_far (sp BK185.out) NB185_196.out _)) NB185_196.out _))⟩, ⟨by (with_reducible repeat first | apply dN | apply dW | apply dL); refine blk_put (cs := #[.int .i64 t193, .int .i64 0]) ?_ 1 _ rfl; (with_reducible repeat first | apply dN | apply dW | apply dL); refine blk_put (cs := #[.int .i64 0, .int .i64 0]) ?_ 0 _ rfl; exact sp BK196.out⟩, ⟨by repeat (first | (with_reducible first | exact HB.out | apply bA | apply bD | apply bW | refine bS ?_ GE178.out | refine bS ?_ GE179.out | refine bS ?_ GE180.out | refine bS ?_ GE185.out | refine bS ?_ GE196.out) | exact HB.out)⟩⟩
        case rest =>
         clear HC72
         try clear c1
         try clear c2
         try clear p2
         try clear c3
         try clear c4
         try clear c5
         try clear c6
         try clear c7
         try clear c8
         try clear c9
         try clear c10
         try clear c11
         try clear c12
         try clear c13
         try clear c20
         try clear c24
         try clear c27
         try clear c30
         try clear c42
         try clear c51
         try clear c54
         try clear c56
         try clear c57
         try clear c58
         try clear c61
         try clear c62
         try clear c65
         try clear c66
         try clear c67
         try clear c70
         try clear c73
         try clear c74
         try clear c75
         try clear c77
         try clear c78
         try clear c82
         try clear c83
         try clear c84
         try clear c85
         try clear c87
         try clear c87b0
         try clear c87b1
         try clear c89
         try clear c91
         try clear c93
         try clear c95
         try clear c96
         try clear c97
         try clear c98
         try clear c104
         try clear c105
         try clear c106
         try clear c110
         try clear c111
         try clear c114
         try clear c115
         try clear c116
         try clear c117
         try clear c123
         try clear c124
         try clear c125
         try clear c128
         try clear c129
         try clear c130
         try clear c131
         try clear c136
         try clear c137
         try clear c138
         try clear c139
         try clear hcz101_0
         try clear hcz101_1
         try clear hcz103_0
         try clear hcz103_1
         try clear hcz107_0
         try clear hcz107_1
         try clear hcz109_0
         try clear hcz109_1
         try clear hcz112_0
         try clear hcz112_1
         try clear hcz118_0
         try clear hcz118_1
         try clear hcz120_0
         try clear hcz120_1
         try clear hcz122_0
         try clear hcz122_1
         try clear hcz126_0
         try clear hcz126_1
         try clear hcz132_0
         try clear hcz132_1
         try clear hcz134_0
         try clear hcz134_1
         try clear hcz140_0
         try clear hcz140_1
         try clear hcz59_0
         try clear hcz59_1
         try clear hcz63_0
         try clear hcz63_1
         try clear hcz68_0
         try clear hcz68_1
         try clear hcz76_0
         try clear hcz76_1
         try clear hcz79_0
         try clear hcz79_1
         try clear hcz86_0
         try clear hcz86_1
         try clear hcz99_0
         try clear hcz99_1
         try clear hfz101_0
         try clear hfz101_1
         try clear hfz103_0
         try clear hfz103_1
         try clear hfz107_0
         try clear hfz107_1
         try clear hfz109_0
         try clear hfz109_1
         try clear hfz112_0
         try clear hfz112_1
         try clear hfz118_0
         try clear hfz118_1
         try clear hfz120_0
         try clear hfz120_1
         try clear hfz122_0
         try clear hfz122_1
         try clear hfz126_0
         try clear hfz126_1
         try clear hfz132_0
         try clear hfz132_1
         try clear hfz134_0
         try clear hfz134_1
         try clear hfz140_0
         try clear hfz140_1
         try clear hfz59_0
         try clear hfz59_1
         try clear hfz63_0
         try clear hfz63_1
         try clear hfz68_0
         try clear hfz68_1
         try clear hfz76_0
         try clear hfz76_1
         try clear hfz79_0
         try clear hfz79_1
         try clear hfz86_0
         try clear hfz86_1
         try clear hfz99_0
         try clear hfz99_1
         try clear p2
         obtain ⟨kq, x89_71, rfl, HA, HJ71, BK178, BK179, BK180, BK185, BK196, HB⟩ := hcut
         cases kq with
         | zero => exact absurd HA.out (by simp [spillwaylaw03_SpanMembers.j2])
         | succ kj71 =>
          have H := HA.out
          clear HA
          simp only [spillwaylaw03_SpanMembers.j2] at H
          by_cases c142 : x89_71 = true
          ·subst c142
           have H1 : (some false) = some r := by rw [if_pos rfl] at H; exact H
           clear H
           have H := H1
           clear H1
           exact absurd ((Option.some.inj H).trans HRT.out) Bool.false_ne_true
          ·replace c142 := Bool.eq_false_iff.mpr c142
           subst c142
           have H1 : ((span_Add.f kj71 a0_0 a0_1 a0_2 a0_3).bind fun bt201 => ((num_Add.f a0_4 a0_5).bind fun bt205 => (if bt201.2.2 = 0 then (if bt205.2 = 0 then ((span_Has.f bt201.1 bt201.2.1 bt205.1).bind fun t207 => (spillwaylaw03_SpanMembers.j3 kj71 a0_4 a0_5 a0_6 (!t207) a0_0 a0_1 a0_2 a0_3)) else (spillwaylaw03_SpanMembers.j3 kj71 a0_4 a0_5 a0_6 true a0_0 a0_1 a0_2 a0_3)) else (spillwaylaw03_SpanMembers.j3 kj71 a0_4 a0_5 a0_6 false a0_0 a0_1 a0_2 a0_3)))) = some r := by rw [if_neg (show ¬ (false = true) by decide)] at H; exact H
           clear H
           have H := H1
           clear H1
           replace H := Option.bind_eq_some_iff.mp H
           obtain ⟨⟨t201, t202, t203⟩, A1430, H⟩ := H
           replace H : ((num_Add.f a0_4 a0_5).bind fun bt205 => (if t203 = 0 then (if bt205.2 = 0 then ((span_Has.f t201 t202 bt205.1).bind fun t207 => (spillwaylaw03_SpanMembers.j3 kj71 a0_4 a0_5 a0_6 (!t207) a0_0 a0_1 a0_2 a0_3)) else (spillwaylaw03_SpanMembers.j3 kj71 a0_4 a0_5 a0_6 true a0_0 a0_1 a0_2 a0_3)) else (spillwaylaw03_SpanMembers.j3 kj71 a0_4 a0_5 a0_6 false a0_0 a0_1 a0_2 a0_3))) = some r := H
           have A143 := Aside0.mk A1430
           clear A1430
           replace H := Option.bind_eq_some_iff.mp H
           obtain ⟨⟨t205, t206⟩, A1440, H⟩ := H
           replace H : (if t203 = 0 then (if t206 = 0 then ((span_Has.f t201 t202 t205).bind fun t207 => (spillwaylaw03_SpanMembers.j3 kj71 a0_4 a0_5 a0_6 (!t207) a0_0 a0_1 a0_2 a0_3)) else (spillwaylaw03_SpanMembers.j3 kj71 a0_4 a0_5 a0_6 true a0_0 a0_1 a0_2 a0_3)) else (spillwaylaw03_SpanMembers.j3 kj71 a0_4 a0_5 a0_6 false a0_0 a0_1 a0_2 a0_3)) = some r := H
           have A144 := Aside0.mk A1440
           clear A1440
           have HC145 := Aside0.mk H
           clear H
           have hnb146 := NB179_178.out
           have hnc146 := NB178_179.out
           have hnb147 := NB179_180.out
           have hnc147 := NB180_179.out
           have hnb148 := NB179_185.out
           have hnc148 := NB185_179.out
           have hnb149 := NB179_196.out
           have hnc149 := NB196_179.out
           have hcz150_0 : wc.cell? ⟨gb179, 0, none⟩ = some (.int .i64 a0_0) := (blk_cell BK179.out 0).trans rfl
           have hcz150_1 : wc.cell? ⟨gb179, 1, none⟩ = some (.int .i64 a0_1) := (blk_cell BK179.out 1).trans rfl
           have hfz150_0 := blk_frozen BK179.out 0
           have hfz150_1 := blk_frozen BK179.out 1
           have hnb151 := NB180_178.out
           have hnc151 := NB178_180.out
           have hnb152 := NB180_185.out
           have hnc152 := NB185_180.out
           have hnb153 := NB180_196.out
           have hnc153 := NB196_180.out
           have hcz154_0 : wc.cell? ⟨gb180, 0, none⟩ = some (.int .i64 a0_2) := (blk_cell BK180.out 0).trans rfl
           have hcz154_1 : wc.cell? ⟨gb180, 1, none⟩ = some (.int .i64 a0_3) := (blk_cell BK180.out 1).trans rfl
           have hfz154_0 := blk_frozen BK180.out 0
           have hfz154_1 := blk_frozen BK180.out 1
           go_upto_region 14 with (first | ((with_reducible refine gate_callee (f := 28) rfl ?_); refine goesL_ (some 93) rfl rfl Try.func28 (by kernel_rfl) rfl #[.agg #[.int .i64 a0_0, .int .i64 a0_1], .agg #[.int .i64 a0_2, .int .i64 a0_3]] rfl (by (try simp only [List.map_toArray, List.map_cons, List.map_nil]); first | done | rfl | (simp only [List.length_drop, List.length_take]; rfl)) ?_; (with_reducible refine (span_Add.calls kj71 a0_0 a0_1 a0_2 a0_3 t201 t202 t203 _ A143.out).mono ?_); rintro e w155 ⟨rfl, hb⟩; refine ⟨_, rfl, ?_⟩; have n0_ := Aside0.mk (blk_below (sp BK178.out) hb); have n1_ := Aside0.mk (blk_below (sp BK179.out) hb); have n2_ := Aside0.mk (blk_below (sp BK180.out) hb); have n3_ := Aside0.mk (blk_below (sp BK185.out) hb); have n4_ := Aside0.mk (blk_below (sp BK196.out) hb); have n5_ := Aside0.mk (below_step (by repeat (first | (with_reducible first | exact HB.out | apply bA | apply bD | apply bW | refine bS ?_ GE178.out | refine bS ?_ GE179.out | refine bS ?_ GE180.out | refine bS ?_ GE185.out | refine bS ?_ GE196.out) | exact HB.out)) hb); clear BK178; clear BK179; clear BK180; clear BK185; clear BK196; clear HB; have BK178 := n0_; have BK179 := n1_; have BK180 := n2_; have BK185 := n3_; have BK196 := n4_; have HB := n5_; clear n0_ n1_ n2_ n3_ n4_ n5_; (try clear hb); (try clear hb2); (try clear hk); (try clear hi)) | ((with_reducible refine gate_dst (N := 12) rfl ?_); refine box_event ?hg (N := 12) ?hd (cs := #[.int .i64 0, .int .i64 0]) (t := 23) ?hr ?_; (case hd => rfl); (case hg => rfl); (case hr => first | (go_simp; done) | (go_simp; rfl)); intro gb204 hg w156 hbox hb; have n0_ := Aside0.mk (blk_below (sp BK178.out) hb); have n1_ := Aside0.mk (blk_below (sp BK179.out) hb); have n2_ := Aside0.mk (blk_below (sp BK180.out) hb); have n3_ := Aside0.mk (blk_below (sp BK185.out) hb); have n4_ := Aside0.mk (blk_below (sp BK196.out) hb); have n5_ := Aside0.mk (below_step (by repeat (first | (with_reducible first | exact HB.out | apply bA | apply bD | apply bW | refine bS ?_ GE178.out | refine bS ?_ GE179.out | refine bS ?_ GE180.out | refine bS ?_ GE185.out | refine bS ?_ GE196.out) | exact HB.out)) hb); have n6_ := Aside0.mk (hbox); have n7_ := Aside0.mk ((by rw [hg]; exact (below_size (by repeat (first | (with_reducible first | exact HB.out | apply bA | apply bD | apply bW | refine bS ?_ GE178.out | refine bS ?_ GE179.out | refine bS ?_ GE180.out | refine bS ?_ GE185.out | refine bS ?_ GE196.out) | exact HB.out))) : w.heap.size ≤ gb204)); have n8_ := Aside0.mk ((by rw [hg]; exact (below_size (by repeat (first | (with_reducible first | exact HB.out | apply bA | apply bD | apply bW | refine bS ?_ GE178.out | refine bS ?_ GE179.out | refine bS ?_ GE180.out | refine bS ?_ GE185.out | refine bS ?_ GE196.out) | exact HB.out))) : w.heap.size ≤ gb204)); have n9_ := Aside0.mk ((by rw [hg]; exact Nat.ne_of_lt (blk_lt (g := gb178) (o := .cells #[.int .i64 a0_0, .int .i64 a0_1, .int .i64 a0_2, .int .i64 a0_3, .int .i64 a0_4, .int .i64 a0_5, .int .i64 a0_6] 52 (0, 0)) (sp BK178.out)) : gb178 ≠ gb204)); have n10_ := Aside0.mk ((by rw [hg]; exact Nat.ne_of_gt (blk_lt (g := gb178) (o := .cells #[.int .i64 a0_0, .int .i64 a0_1, .int .i64 a0_2, .int .i64 a0_3, .int .i64 a0_4, .int .i64 a0_5, .int .i64 a0_6] 52 (0, 0)) (sp BK178.out)) : gb204 ≠ gb178)); have n11_ := Aside0.mk ((by rw [hg]; exact Nat.ne_of_lt (blk_lt (g := gb179) (o := .cells #[.int .i64 a0_0, .int .i64 a0_1] 23 (0, 0)) (sp BK179.out)) : gb179 ≠ gb204)); have n12_ := Aside0.mk ((by rw [hg]; exact Nat.ne_of_gt (blk_lt (g := gb179) (o := .cells #[.int .i64 a0_0, .int .i64 a0_1] 23 (0, 0)) (sp BK179.out)) : gb204 ≠ gb179)); have n13_ := Aside0.mk ((by rw [hg]; exact Nat.ne_of_lt (blk_lt (g := gb180) (o := .cells #[.int .i64 a0_2, .int .i64 a0_3] 23 (0, 0)) (sp BK180.out)) : gb180 ≠ gb204)); have n14_ := Aside0.mk ((by rw [hg]; exact Nat.ne_of_gt (blk_lt (g := gb180) (o := .cells #[.int .i64 a0_2, .int .i64 a0_3] 23 (0, 0)) (sp BK180.out)) : gb204 ≠ gb180)); have n15_ := Aside0.mk ((by rw [hg]; exact Nat.ne_of_lt (blk_lt (g := gb185) (o := .cells #[.int .i64 t182, .int .i64 t183] 23 (0, 0)) (sp BK185.out)) : gb185 ≠ gb204)); have n16_ := Aside0.mk ((by rw [hg]; exact Nat.ne_of_gt (blk_lt (g := gb185) (o := .cells #[.int .i64 t182, .int .i64 t183] 23 (0, 0)) (sp BK185.out)) : gb204 ≠ gb185)); have n17_ := Aside0.mk ((by rw [hg]; exact Nat.ne_of_lt (blk_lt (g := gb196) (o := .cells #[.int .i64 t193, .int .i64 t194] 23 (0, 0)) (sp BK196.out)) : gb196 ≠ gb204)); have n18_ := Aside0.mk ((by rw [hg]; exact Nat.ne_of_gt (blk_lt (g := gb196) (o := .cells #[.int .i64 t193, .int .i64 t194] 23 (0, 0)) (sp BK196.out)) : gb204 ≠ gb196)); clear BK178; clear BK179; clear BK180; clear BK185; clear BK196; clear HB; have BK178 := n0_; have BK179 := n1_; have BK180 := n2_; have BK185 := n3_; have BK196 := n4_; have HB := n5_; have BK204 := n6_; have GW204 := n7_; have GE204 := n8_; have NB178_204 := n9_; have NB204_178 := n10_; have NB179_204 := n11_; have NB204_179 := n12_; have NB180_204 := n13_; have NB204_180 := n14_; have NB185_204 := n15_; have NB204_185 := n16_; have NB196_204 := n17_; have NB204_196 := n18_; clear n0_ n1_ n2_ n3_ n4_ n5_ n6_ n7_ n8_ n9_ n10_ n11_ n12_ n13_ n14_ n15_ n16_ n17_ n18_; clear hb hbox hg; have hnb157 := NB204_178.out; have hnc157 := NB178_204.out; have hnb158 := NB204_179.out; have hnc158 := NB179_204.out; have hnb159 := NB204_180.out; have hnc159 := NB180_204.out; have hnb160 := NB204_185.out; have hnc160 := NB185_204.out; have hnb161 := NB204_196.out; have hnc161 := NB196_204.out; have hcz162_0 : w156.cell? ⟨gb204, 0, none⟩ = some (.int .i64 0) := (blk_cell BK204.out 0).trans rfl; have hcz162_1 : w156.cell? ⟨gb204, 1, none⟩ = some (.int .i64 0) := (blk_cell BK204.out 1).trans rfl; have hfz162_0 := blk_frozen BK204.out 0; have hfz162_1 := blk_frozen BK204.out 1) | ((with_reducible refine gate_callee (f := 34) rfl ?_); refine goesL_ (some 99) rfl rfl Try.func34 (by kernel_rfl) rfl #[.int .i64 a0_4, .int .i64 a0_5] rfl (by (try simp only [List.map_toArray, List.map_cons, List.map_nil]); first | done | rfl | (simp only [List.length_drop, List.length_take]; rfl)) ?_; (with_reducible refine (num_Add.calls a0_4 a0_5 t205 t206 _ A144.out).mono ?_); rintro e w' ⟨rfl, ⟨nd, rfl⟩⟩; refine ⟨_, rfl, ?_⟩))
           (try simp only [Act.put, List.setIfInBounds_toArray, List.set_cons_zero, List.set_cons_succ])
           go_cut [113] (fun v113 wc => ∃ (kq : Nat) (x113_144 : Bool), v113 = .bool x113_144 ∧ Aside0 (spillwaylaw03_SpanMembers.j3 kq a0_4 a0_5 a0_6 x113_144 a0_0 a0_1 a0_2 a0_3 = some r) ∧ Aside0 (kq ≤ kj71) ∧ Aside0 (wc.heap[gb178]? = some (.cells #[.int .i64 a0_0, .int .i64 a0_1, .int .i64 a0_2, .int .i64 a0_3, .int .i64 a0_4, .int .i64 a0_5, .int .i64 a0_6] 52 (0, 0))) ∧ Aside0 (wc.heap[gb179]? = some (.cells #[.int .i64 a0_0, .int .i64 a0_1] 23 (0, 0))) ∧ Aside0 (wc.heap[gb180]? = some (.cells #[.int .i64 a0_2, .int .i64 a0_3] 23 (0, 0))) ∧ Aside0 (wc.heap[gb185]? = some (.cells #[.int .i64 t182, .int .i64 t183] 23 (0, 0))) ∧ Aside0 (wc.heap[gb196]? = some (.cells #[.int .i64 t193, .int .i64 t194] 23 (0, 0))) ∧ Aside0 (wc.heap[gb204]? = some (.cells #[.int .i64 t201, .int .i64 t202] 23 (0, 0))) ∧ Aside0 (Below w.heap.size w wc))
           case first =>
            have H := HC145.out
            clear HC145
            by_cases c163 : t203 = 0
            ·rw [if_pos c163] at H
             have c163b0 : (t203 == 0) = true := beq_iff_eq.mpr c163
             have c163b1 : (t203 != 0) = false := bne_eq_false_iff_eq.mpr c163
             clear c163
             (first | rw [c163b0] | (simp only [i64_w, i32_w]; rw [c163b0]) | skip)
             by_cases c164 : t206 = 0
             ·rw [if_pos c164] at H
              have c164b0 : (t206 == 0) = true := beq_iff_eq.mpr c164
              have c164b1 : (t206 != 0) = false := bne_eq_false_iff_eq.mpr c164
              clear c164
              replace H := Option.bind_eq_some_iff.mp H
              obtain ⟨t207, A1650, H⟩ := H
              replace H : (spillwaylaw03_SpanMembers.j3 kj71 a0_4 a0_5 a0_6 (!t207) a0_0 a0_1 a0_2 a0_3) = some r := H
              have A165 := Aside0.mk A1650
              clear A1650
              have H' := Aside0.mk H
              clear H
              have hnb166 := NB204_178.out
              have hnc166 := NB178_204.out
              have hnb167 := NB204_179.out
              have hnc167 := NB179_204.out
              have hnb168 := NB204_180.out
              have hnc168 := NB180_204.out
              have hnb169 := NB204_185.out
              have hnc169 := NB185_204.out
              have hnb170 := NB204_196.out
              have hnc170 := NB196_204.out
              have hcz171_0 : w156.cell? ⟨gb204, 0, none⟩ = some (.int .i64 0) := (blk_cell BK204.out 0).trans rfl
              have hcz171_1 : w156.cell? ⟨gb204, 1, none⟩ = some (.int .i64 0) := (blk_cell BK204.out 1).trans rfl
              have hfz171_0 := blk_frozen BK204.out 0
              have hfz171_1 := blk_frozen BK204.out 1
              go_wp2_with (first | (go_at_call 20; (with_reducible refine (span_Has.calls t201 t202 t205 t207 _ A165.out).mono ?_); rintro e w172 ⟨rfl, hb⟩; have n0_ := Aside0.mk (blk_below (g := gb178) (o := .cells #[.int .i64 a0_0, .int .i64 a0_1, .int .i64 a0_2, .int .i64 a0_3, .int .i64 a0_4, .int .i64 a0_5, .int .i64 a0_6] 52 (0, 0)) (sp (blk_far (sp (blk_far (sp BK178.out) NB178_204.out _)) NB178_204.out _)) hb); have n1_ := Aside0.mk (blk_below (g := gb179) (o := .cells #[.int .i64 a0_0, .int .i64 a0_1] 23 (0, 0)) (sp (blk_far (sp (blk_far (sp BK179.out) NB179_204.out _)) NB179_204.out _)) hb); have n2_ := Aside0.mk (blk_below (g := gb180) (o := .cells #[.int .i64 a0_2, .int .i64 a0_3] 23 (0, 0)) (sp (blk_far (sp (blk_far (sp BK180.out) NB180_204.out _)) NB180_204.out _)) hb); have n3_ := Aside0.mk (blk_below (g := gb185) (o := .cells #[.int .i64 t182, .int .i64 t183] 23 (0, 0)) (sp (blk_far (sp (blk_far (sp BK185.out) NB185_204.out _)) NB185_204.out _)) hb); have n4_ := Aside0.mk (blk_below (g := gb196) (o := .cells #[.int .i64 t193, .int .i64 t194] 23 (0, 0)) (sp (blk_far (sp (blk_far (sp BK196.out) NB196_204.out _)) NB196_204.out _)) hb); have n5_ := Aside0.mk (blk_below (g := gb204) (o := .cells #[.int .i64 t201, .int .i64 t202] 23 (0, 0)) (by (with_reducible repeat first | apply dN | apply dW | apply dL); refine blk_put (cs := #[.int .i64 t201, .int .i64 0]) ?_ 1 _ rfl; (with_reducible repeat first | apply dN | apply dW | apply dL); refine blk_put (cs := #[.int .i64 0, .int .i64 0]) ?_ 0 _ rfl; exact sp BK204.out) hb); have n6_ := Aside0.mk (below_step (by repeat (first | (with_reducible first | exact HB.out | apply bA | apply bD | apply bW | refine bS ?_ GE178.out | refine bS ?_ GE179.out | refine bS ?_ GE180.out | refine bS ?_ GE185.out | refine bS ?_ GE196.out | refine bS ?_ GE204.out) | exact HB.out)) hb); clear BK178; clear BK179; clear BK180; clear BK185; clear BK196; clear BK204; clear HB; have BK178 := n0_; have BK179 := n1_; have BK180 := n2_; have BK185 := n3_; have BK196 := n4_; have BK204 := n5_; have HB := n6_; clear n0_ n1_ n2_ n3_ n4_ n5_ n6_; (try clear hb); (try clear hb2); (try clear hk); (try clear hi)))
              go_meet
              case rel => exact ⟨_, (!t207), (by first | rfl | (simp; done) | (simp [*]; done)), H', ⟨by have := HJ4.out; have := HJ51.out; have := HJ71.out; first | omega | exact Nat.le_refl _⟩, ⟨(sp BK178.out)⟩, ⟨(sp BK179.out)⟩, ⟨(sp BK180.out)⟩, ⟨(sp BK185.out)⟩, ⟨(sp BK196.out)⟩, ⟨(sp BK204.out)⟩, ⟨by repeat (first | (with_reducible first | exact HB.out | apply bA | apply bD | apply bW | refine bS ?_ GE178.out | refine bS ?_ GE179.out | refine bS ?_ GE180.out | refine bS ?_ GE185.out | refine bS ?_ GE196.out | refine bS ?_ GE204.out) | exact HB.out)⟩⟩
             ·rw [if_neg c164] at H
              have c164b0 : (t206 == 0) = false := beq_eq_false_iff_ne.mpr c164
              have c164b1 : (t206 != 0) = true := bne_iff_ne.mpr c164
              have H' := Aside0.mk H
              clear H
              go_wp2
              go_meet
              case rel => exact ⟨_, (true), (by first | rfl | (simp; done) | (simp [*]; done)), H', ⟨by have := HJ4.out; have := HJ51.out; have := HJ71.out; first | omega | exact Nat.le_refl _⟩, ⟨(sp (blk_far (sp (blk_far (sp BK178.out) NB178_204.out _)) NB178_204.out _))⟩, ⟨(sp (blk_far (sp (blk_far (sp BK179.out) NB179_204.out _)) NB179_204.out _))⟩, ⟨(sp (blk_far (sp (blk_far (sp BK180.out) NB180_204.out _)) NB180_204.out _))⟩, ⟨(sp (blk_far (sp (blk_far (sp BK185.out) NB185_204.out _)) NB185_204.out _))⟩, ⟨(sp (blk_far (sp (blk_far (sp BK196.out) NB196_204.out _)) NB196_204.out _))⟩, ⟨by (with_reducible repeat first | apply dN | apply dW | apply dL); refine blk_put (cs := #[.int .i64 t201, .int .i64 0]) ?_ 1 _ rfl; (with_reducible repeat first | apply dN | apply dW | apply dL); refine blk_put (cs := #[.int .i64 0, .int .i64 0]) ?_ 0 _ rfl; exact sp BK204.out⟩, ⟨by repeat (first | (with_reducible first | exact HB.out | apply bA | apply bD | apply bW | refine bS ?_ GE178.out | refine bS ?_ GE179.out | refine bS ?_ GE180.out | refine bS ?_ GE185.out | refine bS ?_ GE196.out | refine bS ?_ GE204.out) | exact HB.out)⟩⟩
            ·rw [if_neg c163] at H
             have c163b0 : (t203 == 0) = false := beq_eq_false_iff_ne.mpr c163
             have c163b1 : (t203 != 0) = true := bne_iff_ne.mpr c163
             (first | rw [c163b0] | (simp only [i64_w, i32_w]; rw [c163b0]) | skip)
             have H' := Aside0.mk H
             clear H
             go_wp2
             go_meet
             case rel => exact ⟨_, (false), (by first | rfl | (simp; done) | (simp [*]; done)), H', ⟨by have := HJ4.out; have := HJ51.out; have := HJ71.out; first | omega | exact Nat.le_refl _⟩, ⟨(sp (blk_far (sp (blk_far (sp BK178.out) NB178_204.out _)) NB178_204.out _))⟩, ⟨(sp (blk_far (sp (blk_far (sp BK179.out) NB179_204.out _)) NB179_204.out _))⟩, ⟨(sp (blk_far (sp (blk_far (sp BK180.out) NB180_204.out _)) NB180_204.out _))⟩, ⟨(sp (blk_far (sp (blk_far (sp BK185.out) NB185_204.out _)) NB185_204.out _))⟩, ⟨(sp (blk_far (sp (blk_far (sp BK196.out) NB196_204.out _)) NB196_204.out _))⟩, ⟨by (with_reducible repeat first | apply dN | apply dW | apply dL); refine blk_put (cs := #[.int .i64 t201, .int .i64 0]) ?_ 1 _ rfl; (with_reducible repeat first | apply dN | apply dW | apply dL); refine blk_put (cs := #[.int .i64 0, .int .i64 0]) ?_ 0 _ rfl; exact sp BK204.out⟩, ⟨by repeat (first | (with_reducible first | exact HB.out | apply bA | apply bD | apply bW | refine bS ?_ GE178.out | refine bS ?_ GE179.out | refine bS ?_ GE180.out | refine bS ?_ GE185.out | refine bS ?_ GE196.out | refine bS ?_ GE204.out) | exact HB.out)⟩⟩
           case rest =>
            clear HC145
            try clear c1
            try clear c2
            try clear p2
            try clear c3
            try clear c4
            try clear c5
            try clear c6
            try clear c7
            try clear c8
            try clear c9
            try clear c10
            try clear c11
            try clear c12
            try clear c13
            try clear c14
            try clear c15
            try clear c16
            try clear c17
            try clear c20
            try clear c24
            try clear c27
            try clear c28
            try clear c30
            try clear c34
            try clear c42
            try clear c51
            try clear c54
            try clear c56
            try clear c57
            try clear c58
            try clear c61
            try clear c62
            try clear c65
            try clear c66
            try clear c67
            try clear c70
            try clear c73
            try clear c74
            try clear c75
            try clear c77
            try clear c78
            try clear c82
            try clear c83
            try clear c84
            try clear c85
            try clear c87
            try clear c87b0
            try clear c87b1
            try clear c89
            try clear c91
            try clear c93
            try clear c95
            try clear c96
            try clear c97
            try clear c98
            try clear c104
            try clear c105
            try clear c106
            try clear c110
            try clear c111
            try clear c114
            try clear c115
            try clear c116
            try clear c117
            try clear c123
            try clear c124
            try clear c125
            try clear c128
            try clear c129
            try clear c130
            try clear c131
            try clear c136
            try clear c137
            try clear c138
            try clear c139
            try clear c142
            try clear c146
            try clear c147
            try clear c148
            try clear c149
            try clear c151
            try clear c152
            try clear c153
            try clear c157
            try clear c158
            try clear c159
            try clear c160
            try clear c161
            try clear c163
            try clear c163b0
            try clear c163b1
            try clear c164
            try clear c164b0
            try clear c164b1
            try clear c166
            try clear c167
            try clear c168
            try clear c169
            try clear c170
            try clear hcz101_0
            try clear hcz101_1
            try clear hcz103_0
            try clear hcz103_1
            try clear hcz107_0
            try clear hcz107_1
            try clear hcz109_0
            try clear hcz109_1
            try clear hcz112_0
            try clear hcz112_1
            try clear hcz118_0
            try clear hcz118_1
            try clear hcz120_0
            try clear hcz120_1
            try clear hcz122_0
            try clear hcz122_1
            try clear hcz126_0
            try clear hcz126_1
            try clear hcz132_0
            try clear hcz132_1
            try clear hcz134_0
            try clear hcz134_1
            try clear hcz140_0
            try clear hcz140_1
            try clear hcz150_0
            try clear hcz150_1
            try clear hcz154_0
            try clear hcz154_1
            try clear hcz162_0
            try clear hcz162_1
            try clear hcz171_0
            try clear hcz171_1
            try clear hcz59_0
            try clear hcz59_1
            try clear hcz63_0
            try clear hcz63_1
            try clear hcz68_0
            try clear hcz68_1
            try clear hcz76_0
            try clear hcz76_1
            try clear hcz79_0
            try clear hcz79_1
            try clear hcz86_0
            try clear hcz86_1
            try clear hcz99_0
            try clear hcz99_1
            try clear hfz101_0
            try clear hfz101_1
            try clear hfz103_0
            try clear hfz103_1
            try clear hfz107_0
            try clear hfz107_1
            try clear hfz109_0
            try clear hfz109_1
            try clear hfz112_0
            try clear hfz112_1
            try clear hfz118_0
            try clear hfz118_1
            try clear hfz120_0
            try clear hfz120_1
            try clear hfz122_0
            try clear hfz122_1
            try clear hfz126_0
            try clear hfz126_1
            try clear hfz132_0
            try clear hfz132_1
            try clear hfz134_0
            try clear hfz134_1
            try clear hfz140_0
            try clear hfz140_1
            try clear hfz150_0
            try clear hfz150_1
            try clear hfz154_0
            try clear hfz154_1
            try clear hfz162_0
            try clear hfz162_1
            try clear hfz171_0
            try clear hfz171_1
            try clear hfz59_0
            try clear hfz59_1
            try clear hfz63_0
            try clear hfz63_1
            try clear hfz68_0
            try clear hfz68_1
            try clear hfz76_0
            try clear hfz76_1
            try clear hfz79_0
            try clear hfz79_1
            try clear hfz86_0
            try clear hfz86_1
            try clear hfz99_0
            try clear hfz99_1
            try clear p2
            obtain ⟨kq, x113_144, rfl, HA, HJ144, BK178, BK179, BK180, BK185, BK196, BK204, HB⟩ := hcut
            cases kq with
            | zero => exact absurd HA.out (by simp [spillwaylaw03_SpanMembers.j3])
            | succ kj144 =>
             have H := HA.out
             clear HA
             simp only [spillwaylaw03_SpanMembers.j3] at H
             by_cases c173 : x113_144 = true
             ·subst c173
              have H1 : (some false) = some r := by rw [if_pos rfl] at H; exact H
              clear H
              have H := H1
              clear H1
              exact absurd ((Option.some.inj H).trans HRT.out) Bool.false_ne_true
             ·replace c173 := Bool.eq_false_iff.mpr c173
              subst c173
              have H1 : ((span_Sub.f kj144 a0_0 a0_1 a0_2 a0_3).bind fun bt208 => ((num_Sub.f a0_4 a0_5).bind fun bt211 => (if bt208.2.2 = 0 then (if bt211.2 = 0 then ((span_Has.f bt208.1 bt208.2.1 bt211.1).bind fun t213 => (spillwaylaw03_SpanMembers.j4 kj144 a0_4 a0_6 (!t213) a0_0 a0_1)) else (spillwaylaw03_SpanMembers.j4 kj144 a0_4 a0_6 true a0_0 a0_1)) else (spillwaylaw03_SpanMembers.j4 kj144 a0_4 a0_6 false a0_0 a0_1)))) = some r := by rw [if_neg (show ¬ (false = true) by decide)] at H; exact H
              clear H
              have H := H1
              clear H1
              replace H := Option.bind_eq_some_iff.mp H
              obtain ⟨⟨t208, t209, t210⟩, A1740, H⟩ := H
              replace H : ((num_Sub.f a0_4 a0_5).bind fun bt211 => (if t210 = 0 then (if bt211.2 = 0 then ((span_Has.f t208 t209 bt211.1).bind fun t213 => (spillwaylaw03_SpanMembers.j4 kj144 a0_4 a0_6 (!t213) a0_0 a0_1)) else (spillwaylaw03_SpanMembers.j4 kj144 a0_4 a0_6 true a0_0 a0_1)) else (spillwaylaw03_SpanMembers.j4 kj144 a0_4 a0_6 false a0_0 a0_1))) = some r := H
              have A174 := Aside0.mk A1740
              clear A1740
              replace H := Option.bind_eq_some_iff.mp H
              obtain ⟨⟨t211, t212⟩, A1750, H⟩ := H
              replace H : (if t210 = 0 then (if t212 = 0 then ((span_Has.f t208 t209 t211).bind fun t213 => (spillwaylaw03_SpanMembers.j4 kj144 a0_4 a0_6 (!t213) a0_0 a0_1)) else (spillwaylaw03_SpanMembers.j4 kj144 a0_4 a0_6 true a0_0 a0_1)) else (spillwaylaw03_SpanMembers.j4 kj144 a0_4 a0_6 false a0_0 a0_1)) = some r := H
              have A175 := Aside0.mk A1750
              clear A1750
              have HC176 := Aside0.mk H
              clear H
              have hnb177 := NB179_178.out
              have hnc177 := NB178_179.out
              have hnb178 := NB179_180.out
              have hnc178 := NB180_179.out
              have hnb179 := NB179_185.out
              have hnc179 := NB185_179.out
              have hnb180 := NB179_196.out
              have hnc180 := NB196_179.out
              have hnb181 := NB179_204.out
              have hnc181 := NB204_179.out
              have hcz182_0 : wc.cell? ⟨gb179, 0, none⟩ = some (.int .i64 a0_0) := (blk_cell BK179.out 0).trans rfl
              have hcz182_1 : wc.cell? ⟨gb179, 1, none⟩ = some (.int .i64 a0_1) := (blk_cell BK179.out 1).trans rfl
              have hfz182_0 := blk_frozen BK179.out 0
              have hfz182_1 := blk_frozen BK179.out 1
              have hnb183 := NB180_178.out
              have hnc183 := NB178_180.out
              have hnb184 := NB180_185.out
              have hnc184 := NB185_180.out
              have hnb185 := NB180_196.out
              have hnc185 := NB196_180.out
              have hnb186 := NB180_204.out
              have hnc186 := NB204_180.out
              have hcz187_0 : wc.cell? ⟨gb180, 0, none⟩ = some (.int .i64 a0_2) := (blk_cell BK180.out 0).trans rfl
              have hcz187_1 : wc.cell? ⟨gb180, 1, none⟩ = some (.int .i64 a0_3) := (blk_cell BK180.out 1).trans rfl
              have hfz187_0 := blk_frozen BK180.out 0
              have hfz187_1 := blk_frozen BK180.out 1
              go_upto_region 18 with (first | ((with_reducible refine gate_callee (f := 30) rfl ?_); refine goesL_ (some 117) rfl rfl Try.func30 (by kernel_rfl) rfl #[.agg #[.int .i64 a0_0, .int .i64 a0_1], .agg #[.int .i64 a0_2, .int .i64 a0_3]] rfl (by (try simp only [List.map_toArray, List.map_cons, List.map_nil]); first | done | rfl | (simp only [List.length_drop, List.length_take]; rfl)) ?_; (with_reducible refine (span_Sub.calls kj144 a0_0 a0_1 a0_2 a0_3 t208 t209 t210 _ A174.out).mono ?_); rintro e w188 ⟨rfl, hb⟩; refine ⟨_, rfl, ?_⟩; have n0_ := Aside0.mk (blk_below (sp BK178.out) hb); have n1_ := Aside0.mk (blk_below (sp BK179.out) hb); have n2_ := Aside0.mk (blk_below (sp BK180.out) hb); have n3_ := Aside0.mk (blk_below (sp BK185.out) hb); have n4_ := Aside0.mk (blk_below (sp BK196.out) hb); have n5_ := Aside0.mk (blk_below (sp BK204.out) hb); have n6_ := Aside0.mk (below_step (by repeat (first | (with_reducible first | exact HB.out | apply bA | apply bD | apply bW | refine bS ?_ GE178.out | refine bS ?_ GE179.out | refine bS ?_ GE180.out | refine bS ?_ GE185.out | refine bS ?_ GE196.out | refine bS ?_ GE204.out) | exact HB.out)) hb); clear BK178; clear BK179; clear BK180; clear BK185; clear BK196; clear BK204; clear HB; have BK178 := n0_; have BK179 := n1_; have BK180 := n2_; have BK185 := n3_; have BK196 := n4_; have BK204 := n5_; have HB := n6_; clear n0_ n1_ n2_ n3_ n4_ n5_ n6_; (try clear hb); (try clear hb2); (try clear hk); (try clear hi); have hnb189 := NB204_178.out; have hnc189 := NB178_204.out; have hnb190 := NB204_185.out; have hnc190 := NB185_204.out; have hnb191 := NB204_196.out; have hnc191 := NB196_204.out; have hcz192_0 : w188.cell? ⟨gb204, 0, none⟩ = some (.int .i64 t201) := (blk_cell BK204.out 0).trans rfl; have hcz192_1 : w188.cell? ⟨gb204, 1, none⟩ = some (.int .i64 t202) := (blk_cell BK204.out 1).trans rfl; have hfz192_0 := blk_frozen BK204.out 0; have hfz192_1 := blk_frozen BK204.out 1) | ((with_reducible refine gate_callee (f := 39) rfl ?_); refine goesL_ (some 123) rfl rfl Try.func39 (by kernel_rfl) rfl #[.int .i64 a0_4, .int .i64 a0_5] rfl (by (try simp only [List.map_toArray, List.map_cons, List.map_nil]); first | done | rfl | (simp only [List.length_drop, List.length_take]; rfl)) ?_; (with_reducible refine (num_Sub.calls a0_4 a0_5 t211 t212 _ A175.out).mono ?_); rintro e w' ⟨rfl, ⟨nd, rfl⟩⟩; refine ⟨_, rfl, ?_⟩))
              (try simp only [Act.put, List.setIfInBounds_toArray, List.set_cons_zero, List.set_cons_succ])
              go_cut [137] (fun v137 wc => ∃ (kq : Nat) (x137_175 : Bool), v137 = .bool x137_175 ∧ Aside0 (spillwaylaw03_SpanMembers.j4 kq a0_4 a0_6 x137_175 a0_0 a0_1 = some r) ∧ Aside0 (kq ≤ kj144) ∧ Aside0 (wc.heap[gb178]? = some (.cells #[.int .i64 a0_0, .int .i64 a0_1, .int .i64 a0_2, .int .i64 a0_3, .int .i64 a0_4, .int .i64 a0_5, .int .i64 a0_6] 52 (0, 0))) ∧ Aside0 (wc.heap[gb179]? = some (.cells #[.int .i64 a0_0, .int .i64 a0_1] 23 (0, 0))) ∧ Aside0 (wc.heap[gb180]? = some (.cells #[.int .i64 a0_2, .int .i64 a0_3] 23 (0, 0))) ∧ Aside0 (wc.heap[gb185]? = some (.cells #[.int .i64 t182, .int .i64 t183] 23 (0, 0))) ∧ Aside0 (wc.heap[gb196]? = some (.cells #[.int .i64 t193, .int .i64 t194] 23 (0, 0))) ∧ Aside0 (wc.heap[gb204]? = some (.cells #[.int .i64 t208, .int .i64 t209] 23 (0, 0))) ∧ Aside0 (Below w.heap.size w wc))
              case first =>
               have H := HC176.out
               clear HC176
               by_cases c193 : t210 = 0
               ·rw [if_pos c193] at H
                have c193b0 : (t210 == 0) = true := beq_iff_eq.mpr c193
                have c193b1 : (t210 != 0) = false := bne_eq_false_iff_eq.mpr c193
                clear c193
                (first | rw [c193b0] | (simp only [i64_w, i32_w]; rw [c193b0]) | skip)
                by_cases c194 : t212 = 0
                ·rw [if_pos c194] at H
                 have c194b0 : (t212 == 0) = true := beq_iff_eq.mpr c194
                 have c194b1 : (t212 != 0) = false := bne_eq_false_iff_eq.mpr c194
                 clear c194
                 replace H := Option.bind_eq_some_iff.mp H
                 obtain ⟨t213, A1950, H⟩ := H
                 replace H : (spillwaylaw03_SpanMembers.j4 kj144 a0_4 a0_6 (!t213) a0_0 a0_1) = some r := H
                 have A195 := Aside0.mk A1950
                 clear A1950
                 have H' := Aside0.mk H
                 clear H
                 have hnb196 := NB204_178.out
                 have hnc196 := NB178_204.out
                 have hnb197 := NB204_179.out
                 have hnc197 := NB179_204.out
                 have hnb198 := NB204_180.out
                 have hnc198 := NB180_204.out
                 have hnb199 := NB204_185.out
                 have hnc199 := NB185_204.out
                 have hnb200 := NB204_196.out
                 have hnc200 := NB196_204.out
                 have hcz201_0 : w188.cell? ⟨gb204, 0, none⟩ = some (.int .i64 t201) := (blk_cell BK204.out 0).trans rfl
                 have hcz201_1 : w188.cell? ⟨gb204, 1, none⟩ = some (.int .i64 t202) := (blk_cell BK204.out 1).trans rfl
                 have hfz201_0 := blk_frozen BK204.out 0
                 have hfz201_1 := blk_frozen BK204.out 1
                 go_wp2_with (first | (go_at_call 20; (with_reducible refine (span_Has.calls t208 t209 t211 t213 _ A195.out).mono ?_); rintro e w202 ⟨rfl, hb⟩; have n0_ := Aside0.mk (blk_below (g := gb178) (o := .cells #[.int .i64 a0_0, .int .i64 a0_1, .int .i64 a0_2, .int .i64 a0_3, .int .i64 a0_4, .int .i64 a0_5, .int .i64 a0_6] 52 (0, 0)) (sp (blk_far (sp (blk_far (sp BK178.out) NB178_204.out _)) NB178_204.out _)) hb); have n1_ := Aside0.mk (blk_below (g := gb179) (o := .cells #[.int .i64 a0_0, .int .i64 a0_1] 23 (0, 0)) (sp (blk_far (sp (blk_far (sp BK179.out) NB179_204.out _)) NB179_204.out _)) hb); have n2_ := Aside0.mk (blk_below (g := gb180) (o := .cells #[.int .i64 a0_2, .int .i64 a0_3] 23 (0, 0)) (sp (blk_far (sp (blk_far (sp BK180.out) NB180_204.out _)) NB180_204.out _)) hb); have n3_ := Aside0.mk (blk_below (g := gb185) (o := .cells #[.int .i64 t182, .int .i64 t183] 23 (0, 0)) (sp (blk_far (sp (blk_far (sp BK185.out) NB185_204.out _)) NB185_204.out _)) hb); have n4_ := Aside0.mk (blk_below (g := gb196) (o := .cells #[.int .i64 t193, .int .i64 t194] 23 (0, 0)) (sp (blk_far (sp (blk_far (sp BK196.out) NB196_204.out _)) NB196_204.out _)) hb); have n5_ := Aside0.mk (blk_below (g := gb204) (o := .cells #[.int .i64 t208, .int .i64 t209] 23 (0, 0)) (by (with_reducible repeat first | apply dN | apply dW | apply dL); refine blk_put (cs := #[.int .i64 t208, .int .i64 t202]) ?_ 1 _ rfl; (with_reducible repeat first | apply dN | apply dW | apply dL); refine blk_put (cs := #[.int .i64 t201, .int .i64 t202]) ?_ 0 _ rfl; exact sp BK204.out) hb); have n6_ := Aside0.mk (below_step (by repeat (first | (with_reducible first | exact HB.out | apply bA | apply bD | apply bW | refine bS ?_ GE178.out | refine bS ?_ GE179.out | refine bS ?_ GE180.out | refine bS ?_ GE185.out | refine bS ?_ GE196.out | refine bS ?_ GE204.out) | exact HB.out)) hb); clear BK178; clear BK179; clear BK180; clear BK185; clear BK196; clear BK204; clear HB; have BK178 := n0_; have BK179 := n1_; have BK180 := n2_; have BK185 := n3_; have BK196 := n4_; have BK204 := n5_; have HB := n6_; clear n0_ n1_ n2_ n3_ n4_ n5_ n6_; (try clear hb); (try clear hb2); (try clear hk); (try clear hi)))
                 go_meet
                 case rel => exact ⟨_, (!t213), (by first | rfl | (simp; done) | (simp [*]; done)), H', ⟨by have := HJ4.out; have := HJ51.out; have := HJ71.out; have := HJ144.out; first | omega | exact Nat.le_refl _⟩, ⟨(sp BK178.out)⟩, ⟨(sp BK179.out)⟩, ⟨(sp BK180.out)⟩, ⟨(sp BK185.out)⟩, ⟨(sp BK196.out)⟩, ⟨(sp BK204.out)⟩, ⟨by repeat (first | (with_reducible first | exact HB.out | apply bA | apply bD | apply bW | refine bS ?_ GE178.out | refine bS ?_ GE179.out | refine bS ?_ GE180.out | refine bS ?_ GE185.out | refine bS ?_ GE196.out | refine bS ?_ GE204.out) | exact HB.out)⟩⟩
                ·rw [if_neg c194] at H
                 have c194b0 : (t212 == 0) = false := beq_eq_false_iff_ne.mpr c194
                 have c194b1 : (t212 != 0) = true := bne_iff_ne.mpr c194
                 have H' := Aside0.mk H
                 clear H
                 go_wp2
                 go_meet
                 case rel => exact ⟨_, (true), (by first | rfl | (simp; done) | (simp [*]; done)), H', ⟨by have := HJ4.out; have := HJ51.out; have := HJ71.out; have := HJ144.out; first | omega | exact Nat.le_refl _⟩, ⟨(sp (blk_far (sp (blk_far (sp BK178.out) NB178_204.out _)) NB178_204.out _))⟩, ⟨(sp (blk_far (sp (blk_far (sp BK179.out) NB179_204.out _)) NB179_204.out _))⟩, ⟨(sp (blk_far (sp (blk_far (sp BK180.out) NB180_204.out _)) NB180_204.out _))⟩, ⟨(sp (blk_far (sp (blk_far (sp BK185.out) NB185_204.out _)) NB185_204.out _))⟩, ⟨(sp (blk_far (sp (blk_far (sp BK196.out) NB196_204.out _)) NB196_204.out _))⟩, ⟨by (with_reducible repeat first | apply dN | apply dW | apply dL); refine blk_put (cs := #[.int .i64 t208, .int .i64 t202]) ?_ 1 _ rfl; (with_reducible repeat first | apply dN | apply dW | apply dL); refine blk_put (cs := #[.int .i64 t201, .int .i64 t202]) ?_ 0 _ rfl; exact sp BK204.out⟩, ⟨by repeat (first | (with_reducible first | exact HB.out | apply bA | apply bD | apply bW | refine bS ?_ GE178.out | refine bS ?_ GE179.out | refine bS ?_ GE180.out | refine bS ?_ GE185.out | refine bS ?_ GE196.out | refine bS ?_ GE204.out) | exact HB.out)⟩⟩
               ·rw [if_neg c193] at H
                have c193b0 : (t210 == 0) = false := beq_eq_false_iff_ne.mpr c193
                have c193b1 : (t210 != 0) = true := bne_iff_ne.mpr c193
                (first | rw [c193b0] | (simp only [i64_w, i32_w]; rw [c193b0]) | skip)
                have H' := Aside0.mk H
                clear H
                go_wp2
                go_meet
                case rel => exact ⟨_, (false), (by first | rfl | (simp; done) | (simp [*]; done)), H', ⟨by have := HJ4.out; have := HJ51.out; have := HJ71.out; have := HJ144.out; first | omega | exact Nat.le_refl _⟩, ⟨(sp (blk_far (sp (blk_far (sp BK178.out) NB178_204.out _)) NB178_204.out _))⟩, ⟨(sp (blk_far (sp (blk_far (sp BK179.out) NB179_204.out _)) NB179_204.out _))⟩, ⟨(sp (blk_far (sp (blk_far (sp BK180.out) NB180_204.out _)) NB180_204.out _))⟩, ⟨(sp (blk_far (sp (blk_far (sp BK185.out) NB185_204.out _)) NB185_204.out _))⟩, ⟨(sp (blk_far (sp (blk_far (sp BK196.out) NB196_204.out _)) NB196_204.out _))⟩, ⟨by (with_reducible repeat first | apply dN | apply dW | apply dL); refine blk_put (cs := #[.int .i64 t208, .int .i64 t202]) ?_ 1 _ rfl; (with_reducible repeat first | apply dN | apply dW | apply dL); refine blk_put (cs := #[.int .i64 t201, .int .i64 t202]) ?_ 0 _ rfl; exact sp BK204.out⟩, ⟨by repeat (first | (with_reducible first | exact HB.out | apply bA | apply bD | apply bW | refine bS ?_ GE178.out | refine bS ?_ GE179.out | refine bS ?_ GE180.out | refine bS ?_ GE185.out | refine bS ?_ GE196.out | refine bS ?_ GE204.out) | exact HB.out)⟩⟩
              case rest =>
               clear HC176
               try clear c1
               try clear c2
               try clear p2
               try clear c3
               try clear c4
               try clear c5
               try clear c6
               try clear c7
               try clear c8
               try clear c9
               try clear c10
               try clear c11
               try clear c12
               try clear c13
               try clear c14
               try clear c15
               try clear c16
               try clear c17
               try clear c18
               try clear c19
               try clear c20
               try clear c24
               try clear c27
               try clear c28
               try clear c30
               try clear c34
               try clear c39
               try clear c42
               try clear c51
               try clear c54
               try clear c56
               try clear c57
               try clear c58
               try clear c61
               try clear c62
               try clear c65
               try clear c66
               try clear c67
               try clear c70
               try clear c73
               try clear c74
               try clear c75
               try clear c77
               try clear c78
               try clear c82
               try clear c83
               try clear c84
               try clear c85
               try clear c87
               try clear c87b0
               try clear c87b1
               try clear c89
               try clear c91
               try clear c93
               try clear c95
               try clear c96
               try clear c97
               try clear c98
               try clear c104
               try clear c105
               try clear c106
               try clear c110
               try clear c111
               try clear c114
               try clear c115
               try clear c116
               try clear c117
               try clear c123
               try clear c124
               try clear c125
               try clear c128
               try clear c129
               try clear c130
               try clear c131
               try clear c136
               try clear c137
               try clear c138
               try clear c139
               try clear c142
               try clear c146
               try clear c147
               try clear c148
               try clear c149
               try clear c151
               try clear c152
               try clear c153
               try clear c157
               try clear c158
               try clear c159
               try clear c160
               try clear c161
               try clear c163
               try clear c163b0
               try clear c163b1
               try clear c164
               try clear c164b0
               try clear c164b1
               try clear c166
               try clear c167
               try clear c168
               try clear c169
               try clear c170
               try clear c173
               try clear c177
               try clear c178
               try clear c179
               try clear c180
               try clear c181
               try clear c183
               try clear c184
               try clear c185
               try clear c186
               try clear c189
               try clear c190
               try clear c191
               try clear c193
               try clear c193b0
               try clear c193b1
               try clear c194
               try clear c194b0
               try clear c194b1
               try clear c196
               try clear c197
               try clear c198
               try clear c199
               try clear c200
               try clear hcz101_0
               try clear hcz101_1
               try clear hcz103_0
               try clear hcz103_1
               try clear hcz107_0
               try clear hcz107_1
               try clear hcz109_0
               try clear hcz109_1
               try clear hcz112_0
               try clear hcz112_1
               try clear hcz118_0
               try clear hcz118_1
               try clear hcz120_0
               try clear hcz120_1
               try clear hcz122_0
               try clear hcz122_1
               try clear hcz126_0
               try clear hcz126_1
               try clear hcz132_0
               try clear hcz132_1
               try clear hcz134_0
               try clear hcz134_1
               try clear hcz140_0
               try clear hcz140_1
               try clear hcz150_0
               try clear hcz150_1
               try clear hcz154_0
               try clear hcz154_1
               try clear hcz162_0
               try clear hcz162_1
               try clear hcz171_0
               try clear hcz171_1
               try clear hcz182_0
               try clear hcz182_1
               try clear hcz187_0
               try clear hcz187_1
               try clear hcz192_0
               try clear hcz192_1
               try clear hcz201_0
               try clear hcz201_1
               try clear hcz59_0
               try clear hcz59_1
               try clear hcz63_0
               try clear hcz63_1
               try clear hcz68_0
               try clear hcz68_1
               try clear hcz76_0
               try clear hcz76_1
               try clear hcz79_0
               try clear hcz79_1
               try clear hcz86_0
               try clear hcz86_1
               try clear hcz99_0
               try clear hcz99_1
               try clear hfz101_0
               try clear hfz101_1
               try clear hfz103_0
               try clear hfz103_1
               try clear hfz107_0
               try clear hfz107_1
               try clear hfz109_0
               try clear hfz109_1
               try clear hfz112_0
               try clear hfz112_1
               try clear hfz118_0
               try clear hfz118_1
               try clear hfz120_0
               try clear hfz120_1
               try clear hfz122_0
               try clear hfz122_1
               try clear hfz126_0
               try clear hfz126_1
               try clear hfz132_0
               try clear hfz132_1
               try clear hfz134_0
               try clear hfz134_1
               try clear hfz140_0
               try clear hfz140_1
               try clear hfz150_0
               try clear hfz150_1
               try clear hfz154_0
               try clear hfz154_1
               try clear hfz162_0
               try clear hfz162_1
               try clear hfz171_0
               try clear hfz171_1
               try clear hfz182_0
               try clear hfz182_1
               try clear hfz187_0
               try clear hfz187_1
               try clear hfz192_0
               try clear hfz192_1
               try clear hfz201_0
               try clear hfz201_1
               try clear hfz59_0
               try clear hfz59_1
               try clear hfz63_0
               try clear hfz63_1
               try clear hfz68_0
               try clear hfz68_1
               try clear hfz76_0
               try clear hfz76_1
               try clear hfz79_0
               try clear hfz79_1
               try clear hfz86_0
               try clear hfz86_1
               try clear hfz99_0
               try clear hfz99_1
               try clear p2
               obtain ⟨kq, x137_175, rfl, HA, HJ175, BK178, BK179, BK180, BK185, BK196, BK204, HB⟩ := hcut
               cases kq with
               | zero => exact absurd HA.out (by simp [spillwaylaw03_SpanMembers.j4])
               | succ kj175 =>
                have H := HA.out
                clear HA
                simp only [spillwaylaw03_SpanMembers.j4] at H
                by_cases c203 : x137_175 = true
                ·subst c203
                 have H1 : (some false) = some r := by rw [if_pos rfl] at H; exact H
                 clear H
                 have H := H1
                 clear H1
                 exact absurd ((Option.some.inj H).trans HRT.out) Bool.false_ne_true
                ·replace c203 := Bool.eq_false_iff.mpr c203
                 subst c203
                 have H1 : ((span_Times.f kj175 a0_0 a0_1 a0_6).bind fun bt214 => ((num_Mul.f kj175 a0_4 a0_6).bind fun bt217 => (if bt214.2.2 = 0 then (if bt217.2 = 0 then ((span_Has.f bt214.1 bt214.2.1 bt217.1).bind fun t219 => (some t219)) else (some false)) else (some true)))) = some r := by rw [if_neg (show ¬ (false = true) by decide)] at H; exact H
                 clear H
                 have H := H1
                 clear H1
                 replace H := Option.bind_eq_some_iff.mp H
                 obtain ⟨⟨t214, t215, t216⟩, A2040, H⟩ := H
                 replace H : ((num_Mul.f kj175 a0_4 a0_6).bind fun bt217 => (if t216 = 0 then (if bt217.2 = 0 then ((span_Has.f t214 t215 bt217.1).bind fun t219 => (some t219)) else (some false)) else (some true))) = some r := H
                 have A204 := Aside0.mk A2040
                 clear A2040
                 replace H := Option.bind_eq_some_iff.mp H
                 obtain ⟨⟨t217, t218⟩, A2050, H⟩ := H
                 replace H : (if t216 = 0 then (if t218 = 0 then ((span_Has.f t214 t215 t217).bind fun t219 => (some t219)) else (some false)) else (some true)) = some r := H
                 have A205 := Aside0.mk A2050
                 clear A2050
                 by_cases c206 : t216 = 0
                 ·rw [if_pos c206] at H
                  have c206b0 : (t216 == 0) = true := beq_iff_eq.mpr c206
                  have c206b1 : (t216 != 0) = false := bne_eq_false_iff_eq.mpr c206
                  clear c206
                  by_cases c207 : t218 = 0
                  ·rw [if_pos c207] at H
                   have c207b0 : (t218 == 0) = true := beq_iff_eq.mpr c207
                   have c207b1 : (t218 != 0) = false := bne_eq_false_iff_eq.mpr c207
                   clear c207
                   replace H := Option.bind_eq_some_iff.mp H
                   obtain ⟨t219, A2080, H⟩ := H
                   replace H : (some t219) = some r := H
                   have A208 := Aside0.mk A2080
                   clear A2080
                   obtain rfl := Option.some.inj H
                   have hnb209 := NB179_178.out
                   have hnc209 := NB178_179.out
                   have hnb210 := NB179_180.out
                   have hnc210 := NB180_179.out
                   have hnb211 := NB179_185.out
                   have hnc211 := NB185_179.out
                   have hnb212 := NB179_196.out
                   have hnc212 := NB196_179.out
                   have hnb213 := NB179_204.out
                   have hnc213 := NB204_179.out
                   have hcz214_0 : wc.cell? ⟨gb179, 0, none⟩ = some (.int .i64 a0_0) := (blk_cell BK179.out 0).trans rfl
                   have hcz214_1 : wc.cell? ⟨gb179, 1, none⟩ = some (.int .i64 a0_1) := (blk_cell BK179.out 1).trans rfl
                   have hfz214_0 := blk_frozen BK179.out 0
                   have hfz214_1 := blk_frozen BK179.out 1
                   go_wp2_with (first | ((with_reducible refine gate_callee (f := 32) rfl ?_); refine goesL_ (some 141) rfl rfl Try.func32 (by kernel_rfl) rfl #[.agg #[.int .i64 a0_0, .int .i64 a0_1], .int .i64 a0_6] rfl (by (try simp only [List.map_toArray, List.map_cons, List.map_nil]); first | done | rfl | (simp only [List.length_drop, List.length_take]; rfl)) ?_; (with_reducible refine (span_Times.calls kj175 a0_0 a0_1 a0_6 t214 t215 t216 _ A204.out).mono ?_); rintro e w215 ⟨rfl, hb⟩; refine ⟨_, rfl, ?_⟩; have n0_ := Aside0.mk (blk_below (sp BK178.out) hb); have n1_ := Aside0.mk (blk_below (sp BK179.out) hb); have n2_ := Aside0.mk (blk_below (sp BK180.out) hb); have n3_ := Aside0.mk (blk_below (sp BK185.out) hb); have n4_ := Aside0.mk (blk_below (sp BK196.out) hb); have n5_ := Aside0.mk (blk_below (sp BK204.out) hb); have n6_ := Aside0.mk (below_step (by repeat (first | (with_reducible first | exact HB.out | apply bA | apply bD | apply bW | refine bS ?_ GE178.out | refine bS ?_ GE179.out | refine bS ?_ GE180.out | refine bS ?_ GE185.out | refine bS ?_ GE196.out | refine bS ?_ GE204.out) | exact HB.out)) hb); clear BK178; clear BK179; clear BK180; clear BK185; clear BK196; clear BK204; clear HB; have BK178 := n0_; have BK179 := n1_; have BK180 := n2_; have BK185 := n3_; have BK196 := n4_; have BK204 := n5_; have HB := n6_; clear n0_ n1_ n2_ n3_ n4_ n5_ n6_; (try clear hb); (try clear hb2); (try clear hk); (try clear hi); have hnb216 := NB204_178.out; have hnc216 := NB178_204.out; have hnb217 := NB204_180.out; have hnc217 := NB180_204.out; have hnb218 := NB204_185.out; have hnc218 := NB185_204.out; have hnb219 := NB204_196.out; have hnc219 := NB196_204.out; have hcz220_0 : w215.cell? ⟨gb204, 0, none⟩ = some (.int .i64 t208) := (blk_cell BK204.out 0).trans rfl; have hcz220_1 : w215.cell? ⟨gb204, 1, none⟩ = some (.int .i64 t209) := (blk_cell BK204.out 1).trans rfl; have hfz220_0 := blk_frozen BK204.out 0; have hfz220_1 := blk_frozen BK204.out 1) | ((with_reducible refine gate_callee (f := 40) rfl ?_); refine goesL_ (some 147) rfl rfl Try.func40 (by kernel_rfl) rfl #[.int .i64 a0_4, .int .i64 a0_6] rfl (by (try simp only [List.map_toArray, List.map_cons, List.map_nil]); first | done | rfl | (simp only [List.length_drop, List.length_take]; rfl)) ?_; (with_reducible refine (num_Mul.calls kj175 a0_4 a0_6 t217 t218 _ A205.out).mono ?_); rintro e w' ⟨rfl, ⟨nd, rfl⟩⟩; refine ⟨_, rfl, ?_⟩) | (go_at_call 20; (with_reducible refine (span_Has.calls t214 t215 t217 t219 _ A208.out).mono ?_); rintro e w221 ⟨rfl, hb⟩; have n0_ := Aside0.mk (blk_below (g := gb178) (o := .cells #[.int .i64 a0_0, .int .i64 a0_1, .int .i64 a0_2, .int .i64 a0_3, .int .i64 a0_4, .int .i64 a0_5, .int .i64 a0_6] 52 (0, 0)) (sp (blk_far (sp (blk_far (sp BK178.out) NB178_204.out _)) NB178_204.out _)) hb); have n1_ := Aside0.mk (blk_below (g := gb179) (o := .cells #[.int .i64 a0_0, .int .i64 a0_1] 23 (0, 0)) (sp (blk_far (sp (blk_far (sp BK179.out) NB179_204.out _)) NB179_204.out _)) hb); have n2_ := Aside0.mk (blk_below (g := gb180) (o := .cells #[.int .i64 a0_2, .int .i64 a0_3] 23 (0, 0)) (sp (blk_far (sp (blk_far (sp BK180.out) NB180_204.out _)) NB180_204.out _)) hb); have n3_ := Aside0.mk (blk_below (g := gb185) (o := .cells #[.int .i64 t182, .int .i64 t183] 23 (0, 0)) (sp (blk_far (sp (blk_far (sp BK185.out) NB185_204.out _)) NB185_204.out _)) hb); have n4_ := Aside0.mk (blk_below (g := gb196) (o := .cells #[.int .i64 t193, .int .i64 t194] 23 (0, 0)) (sp (blk_far (sp (blk_far (sp BK196.out) NB196_204.out _)) NB196_204.out _)) hb); have n5_ := Aside0.mk (blk_below (g := gb204) (o := .cells #[.int .i64 t214, .int .i64 t215] 23 (0, 0)) (by (with_reducible repeat first | apply dN | apply dW | apply dL); refine blk_put (cs := #[.int .i64 t214, .int .i64 t209]) ?_ 1 _ rfl; (with_reducible repeat first | apply dN | apply dW | apply dL); refine blk_put (cs := #[.int .i64 t208, .int .i64 t209]) ?_ 0 _ rfl; exact sp BK204.out) hb); have n6_ := Aside0.mk (below_step (by repeat (first | (with_reducible first | exact HB.out | apply bA | apply bD | apply bW | refine bS ?_ GE178.out | refine bS ?_ GE179.out | refine bS ?_ GE180.out | refine bS ?_ GE185.out | refine bS ?_ GE196.out | refine bS ?_ GE204.out) | exact HB.out)) hb); clear BK178; clear BK179; clear BK180; clear BK185; clear BK196; clear BK204; clear HB; have BK178 := n0_; have BK179 := n1_; have BK180 := n2_; have BK185 := n3_; have BK196 := n4_; have BK204 := n5_; have HB := n6_; clear n0_ n1_ n2_ n3_ n4_ n5_ n6_; (try clear hb); (try clear hb2); (try clear hk); (try clear hi)))
                   go_ret
                   exact ⟨by first | rfl | (simp [errW_none, errW_some] <;> rfl) | (simp [*, errW_none, errW_some] <;> rfl), by repeat (first | (with_reducible first | exact HB.out | apply bA | apply bD | apply bW | refine bS ?_ GE178.out | refine bS ?_ GE179.out | refine bS ?_ GE180.out | refine bS ?_ GE185.out | refine bS ?_ GE196.out | refine bS ?_ GE204.out) | exact HB.out)⟩
                  ·rw [if_neg c207] at H
                   have c207b0 : (t218 == 0) = false := beq_eq_false_iff_ne.mpr c207
                   have c207b1 : (t218 != 0) = true := bne_iff_ne.mpr c207
                   exact absurd ((Option.some.inj H).trans HRT.out) Bool.false_ne_true
                 ·rw [if_neg c206] at H
                  have c206b0 : (t216 == 0) = false := beq_eq_false_iff_ne.mpr c206
                  have c206b1 : (t216 != 0) = true := bne_iff_ne.mpr c206
                  obtain rfl := Option.some.inj H
                  have hnb222 := NB179_178.out
                  have hnc222 := NB178_179.out
                  have hnb223 := NB179_180.out
                  have hnc223 := NB180_179.out
                  have hnb224 := NB179_185.out
                  have hnc224 := NB185_179.out
                  have hnb225 := NB179_196.out
                  have hnc225 := NB196_179.out
                  have hnb226 := NB179_204.out
                  have hnc226 := NB204_179.out
                  have hcz227_0 : wc.cell? ⟨gb179, 0, none⟩ = some (.int .i64 a0_0) := (blk_cell BK179.out 0).trans rfl
                  have hcz227_1 : wc.cell? ⟨gb179, 1, none⟩ = some (.int .i64 a0_1) := (blk_cell BK179.out 1).trans rfl
                  have hfz227_0 := blk_frozen BK179.out 0
                  have hfz227_1 := blk_frozen BK179.out 1
                  go_wp2_with (first | ((with_reducible refine gate_callee (f := 32) rfl ?_); refine goesL_ (some 141) rfl rfl Try.func32 (by kernel_rfl) rfl #[.agg #[.int .i64 a0_0, .int .i64 a0_1], .int .i64 a0_6] rfl (by (try simp only [List.map_toArray, List.map_cons, List.map_nil]); first | done | rfl | (simp only [List.length_drop, List.length_take]; rfl)) ?_; (with_reducible refine (span_Times.calls kj175 a0_0 a0_1 a0_6 t214 t215 t216 _ A204.out).mono ?_); rintro e w228 ⟨rfl, hb⟩; refine ⟨_, rfl, ?_⟩; have n0_ := Aside0.mk (blk_below (sp BK178.out) hb); have n1_ := Aside0.mk (blk_below (sp BK179.out) hb); have n2_ := Aside0.mk (blk_below (sp BK180.out) hb); have n3_ := Aside0.mk (blk_below (sp BK185.out) hb); have n4_ := Aside0.mk (blk_below (sp BK196.out) hb); have n5_ := Aside0.mk (blk_below (sp BK204.out) hb); have n6_ := Aside0.mk (below_step (by repeat (first | (with_reducible first | exact HB.out | apply bA | apply bD | apply bW | refine bS ?_ GE178.out | refine bS ?_ GE179.out | refine bS ?_ GE180.out | refine bS ?_ GE185.out | refine bS ?_ GE196.out | refine bS ?_ GE204.out) | exact HB.out)) hb); clear BK178; clear BK179; clear BK180; clear BK185; clear BK196; clear BK204; clear HB; have BK178 := n0_; have BK179 := n1_; have BK180 := n2_; have BK185 := n3_; have BK196 := n4_; have BK204 := n5_; have HB := n6_; clear n0_ n1_ n2_ n3_ n4_ n5_ n6_; (try clear hb); (try clear hb2); (try clear hk); (try clear hi); have hnb229 := NB204_178.out; have hnc229 := NB178_204.out; have hnb230 := NB204_180.out; have hnc230 := NB180_204.out; have hnb231 := NB204_185.out; have hnc231 := NB185_204.out; have hnb232 := NB204_196.out; have hnc232 := NB196_204.out; have hcz233_0 : w228.cell? ⟨gb204, 0, none⟩ = some (.int .i64 t208) := (blk_cell BK204.out 0).trans rfl; have hcz233_1 : w228.cell? ⟨gb204, 1, none⟩ = some (.int .i64 t209) := (blk_cell BK204.out 1).trans rfl; have hfz233_0 := blk_frozen BK204.out 0; have hfz233_1 := blk_frozen BK204.out 1) | ((with_reducible refine gate_callee (f := 40) rfl ?_); refine goesL_ (some 147) rfl rfl Try.func40 (by kernel_rfl) rfl #[.int .i64 a0_4, .int .i64 a0_6] rfl (by (try simp only [List.map_toArray, List.map_cons, List.map_nil]); first | done | rfl | (simp only [List.length_drop, List.length_take]; rfl)) ?_; (with_reducible refine (num_Mul.calls kj175 a0_4 a0_6 t217 t218 _ A205.out).mono ?_); rintro e w' ⟨rfl, ⟨nd, rfl⟩⟩; refine ⟨_, rfl, ?_⟩))
                  go_ret
                  exact ⟨by first | rfl | (simp [errW_none, errW_some] <;> rfl) | (simp [*, errW_none, errW_some] <;> rfl), by repeat (first | (with_reducible first | exact HB.out | apply bA | apply bD | apply bW | refine bS ?_ GE178.out | refine bS ?_ GE179.out | refine bS ?_ GE180.out | refine bS ?_ GE185.out | refine bS ?_ GE196.out | refine bS ?_ GE204.out) | exact HB.out)⟩
 ·replace c3 := Bool.eq_false_iff.mpr c3
  subst c3
  have H1 : (some false) = some r := by rw [if_neg (show ¬ (false = true) by decide)] at H; exact H
  clear H
  have H := H1
  clear H1
  exact absurd ((Option.some.inj H).trans HRT.out) Bool.false_ne_true

end Go.Proofs.Ythjfmgdldjbkgaa.CSembers
