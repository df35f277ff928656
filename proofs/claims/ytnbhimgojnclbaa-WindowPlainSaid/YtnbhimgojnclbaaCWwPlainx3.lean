-- PRINTED by print.py (a twelfth state) out of the translation. Not trusted: Lean checks it.
import Derived.Test.YtnbhimgojnclbaaCWwPlainx0
import Derived.Test.YtnbhimgojnclbaaCWwPlainx1
import Derived.Test.YtnbhimgojnclbaaCWwPlainx2
namespace Go.Proofs.Ytnbhimgojnclbaa.CWwPlain
open Go.RowKit Go.Proofs.YtnbhimgojnclbaaW.PrintWords Go.Proofs.YtnbhimgojnclbaaW.PrintLast Go.Proofs.YtnbhimgojnclbaaW.PrintMore
attribute [local go_sem] max2_int min2_int max_two min_two max_three min_three max_four min_four   -- for this text's walks alone
set_option linter.unusedVariables false
set_option linter.unusedSimpArgs false

/-! ### spillwaylaw06_WindowPlain: function 7 -/
mutual
def spillwaylaw06_WindowPlain.j0 : Nat → Int → List Int → Bool → Int → Int → Int → Int → Int → Int → Int → Int → Int → Int → Int → Option (Bool)
  | 0, _, _, _, _, _, _, _, _, _, _, _, _, _, _ => none
  | k + 1, x2, x7, x28, x127000, x127001, x127002, x128000, x128001, x128002, x128003, x128004, x128005, x128006, x128007 => if x28 = true then (some false) else (spillwaylaw06_WindowPlain.l0 k x2 x7 0 0 x127000 x127001 x127002 x128000 x128001 x128002 x128003 x128004 x128005 x128006 x128007)
def spillwaylaw06_WindowPlain.l0 : Nat → Int → List Int → Int → Int → Int → Int → Int → Int → Int → Int → Int → Int → Int → Int → Int → Option (Bool)
  | 0, _, _, _, _, _, _, _, _, _, _, _, _, _, _, _ => none
  | k + 1, x2, x7, x9, x10, x127000, x127001, x127002, x128000, x128001, x128002, x128003, x128004, x128005, x128006, x128007 => if (wrap64 (x10 + 1)) < (x7.length : Int) then (if 0 ≤ (wrap64 (x10 + 1)) then (if (rd x7 (wrap64 (x10 + 1))) < 0 then (spillwaylaw06_WindowPlain.l0 k x2 x7 x9 (wrap64 (x10 + 2)) x127000 x127001 x127002 x128000 x128001 x128002 x128003 x128004 x128005 x128006 x128007) else (if x127001 < 1 then (spillwaylaw06_WindowPlain.j2 k x2 x7 (wrap64 (x9 + 1)) x10 (rd x7 (wrap64 (x10 + 1))) true x127000 x127001 x127002 x128000 x128001 x128002 x128003 x128004 x128005 x128006 x128007) else (spillwaylaw06_WindowPlain.j2 k x2 x7 (wrap64 (x9 + 1)) x10 (rd x7 (wrap64 (x10 + 1))) (decide ((rd x7 (wrap64 (x10 + 1))) ≥ (wrap64 (x127000 * x127001)))) x127000 x127001 x127002 x128000 x128001 x128002 x128003 x128004 x128005 x128006 x128007))) else (none)) else (if (x7.length : Int) > 0 then (if (x7.length : Int) = (wrap64 ((wrap64 (2 * x128000)) * x128001)) then ((window_Padded.f x127000 x127001 x127002 x128000 x128001 x128002 x128003 x128004 x128005 x128006 x128007 x2).bind fun bt133 => (if ((bt133.2 == 0) == (decide ((x7.length : Int) > 0))) = true then (if bt133.2 = 0 then (if bt133.1 ≥ 0 then (if bt133.1 < (wrap64 (x128000 * x128001)) then (if x9 > 0 then (some true) else (some (decide ((x7.length : Int) > 40)))) else (some false)) else (some false)) else (some true)) else (some false))) else (some false)) else ((window_Padded.f x127000 x127001 x127002 x128000 x128001 x128002 x128003 x128004 x128005 x128006 x128007 x2).bind fun bt135 => (if ((bt135.2 == 0) == (decide ((x7.length : Int) > 0))) = true then (if bt135.2 = 0 then (if bt135.1 ≥ 0 then (if bt135.1 < (wrap64 (x128000 * x128001)) then (if x9 > 0 then (some true) else (some (decide ((x7.length : Int) > 40)))) else (some false)) else (some false)) else (some true)) else (some false))))
def spillwaylaw06_WindowPlain.j2 : Nat → Int → List Int → Int → Int → Int → Bool → Int → Int → Int → Int → Int → Int → Int → Int → Int → Int → Int → Option (Bool)
  | 0, _, _, _, _, _, _, _, _, _, _, _, _, _, _, _, _, _ => none
  | k + 1, x2, x7, x9, x10, x11, x56, x127000, x127001, x127002, x128000, x128001, x128002, x128003, x128004, x128005, x128006, x128007 => if x56 = true then (some false) else (spillwaylaw06_WindowPlain.l1 k x2 x7 x9 x10 x11 0 x127000 x127001 x127002 x128000 x128001 x128002 x128003 x128004 x128005 x128006 x128007)
def spillwaylaw06_WindowPlain.l1 : Nat → Int → List Int → Int → Int → Int → Int → Int → Int → Int → Int → Int → Int → Int → Int → Int → Int → Int → Option (Bool)
  | 0, _, _, _, _, _, _, _, _, _, _, _, _, _, _, _, _, _ => none
  | k + 1, x2, x7, x9, x10, x11, x12, x127000, x127001, x127002, x128000, x128001, x128002, x128003, x128004, x128005, x128006, x128007 => if x12 < x10 then (if 0 ≤ (wrap64 (x12 + 1)) then (if (wrap64 (x12 + 1)) < (x7.length : Int) then (if (rd x7 (wrap64 (x12 + 1))) ≥ 0 then (if x127001 = 0 then (none) else (if 0 ≤ x10 then (if x10 < (x7.length : Int) then (if x128001 = 0 then (none) else (if 0 ≤ x12 then (if x12 < (x7.length : Int) then (if (wrap64 ((wrap64 (Int.tdiv x11 x127001)) - (wrap64 (Int.tdiv (rd x7 (wrap64 (x12 + 1))) x127001)))) = (wrap64 ((wrap64 (Int.tdiv (rd x7 x10) x128001)) - (wrap64 (Int.tdiv (rd x7 x12) x128001)))) then (if (wrap64 ((Int.tmod x11 x127001) - (Int.tmod (rd x7 (wrap64 (x12 + 1))) x127001))) = (wrap64 ((Int.tmod (rd x7 x10) x128001) - (Int.tmod (rd x7 x12) x128001))) then (spillwaylaw06_WindowPlain.l1 k x2 x7 x9 x10 x11 (wrap64 (x12 + 2)) x127000 x127001 x127002 x128000 x128001 x128002 x128003 x128004 x128005 x128006 x128007) else (some false)) else (some false)) else (none)) else (none))) else (none)) else (none))) else (spillwaylaw06_WindowPlain.l1 k x2 x7 x9 x10 x11 (wrap64 (x12 + 2)) x127000 x127001 x127002 x128000 x128001 x128002 x128003 x128004 x128005 x128006 x128007)) else (none)) else (none)) else (if x10 > 40 then (if (x7.length : Int) > 0 then (if (x7.length : Int) = (wrap64 ((wrap64 (2 * x128000)) * x128001)) then ((window_Padded.f x127000 x127001 x127002 x128000 x128001 x128002 x128003 x128004 x128005 x128006 x128007 x2).bind fun bt143 => (if ((bt143.2 == 0) == (decide ((x7.length : Int) > 0))) = true then (if bt143.2 = 0 then (if bt143.1 ≥ 0 then (if bt143.1 < (wrap64 (x128000 * x128001)) then (if x9 > 0 then (some true) else (some (decide ((x7.length : Int) > 40)))) else (some false)) else (some false)) else (some true)) else (some false))) else (some false)) else ((window_Padded.f x127000 x127001 x127002 x128000 x128001 x128002 x128003 x128004 x128005 x128006 x128007 x2).bind fun bt145 => (if ((bt145.2 == 0) == (decide ((x7.length : Int) > 0))) = true then (if bt145.2 = 0 then (if bt145.1 ≥ 0 then (if bt145.1 < (wrap64 (x128000 * x128001)) then (if x9 > 0 then (some true) else (some (decide ((x7.length : Int) > 40)))) else (some false)) else (some false)) else (some true)) else (some false)))) else (spillwaylaw06_WindowPlain.l0 k x2 x7 x9 (wrap64 (x10 + 2)) x127000 x127001 x127002 x128000 x128001 x128002 x128003 x128004 x128005 x128006 x128007))
end
def spillwaylaw06_WindowPlain.f (k : Nat) (a0_0 : Int) (a0_1 : Int) (a0_2 : Int) (a1_0 : Int) (a1_1 : Int) (a1_2 : Int) (a1_3 : Int) (a1_4 : Int) (a1_5 : Int) (a1_6 : Int) (a1_7 : Int) (a2 : Int) : Option (Bool) := (spillwaylaw06_pairs.f a0_0 a0_1 a0_2 a1_0 a1_1 a1_2 a1_3 a1_4 a1_5 a1_6 a1_7 a2 2000000).bind fun bt128 => ((spillwaylaw06_fixed.f k).bind fun t132 => (if t132 = true then (spillwaylaw06_WindowPlain.j0 k a2 bt128.1 (!bt128.2) a0_0 a0_1 a0_2 a1_0 a1_1 a1_2 a1_3 a1_4 a1_5 a1_6 a1_7) else (spillwaylaw06_WindowPlain.j0 k a2 bt128.1 true a0_0 a0_1 a0_2 a1_0 a1_1 a1_2 a1_3 a1_4 a1_5 a1_6 a1_7)))
theorem spillwaylaw06_WindowPlain.mono_l : ∀ k, (∀ y0 y1 y2 y3 y4 y5 y6 y7 y8 y9 y10 y11 y12 y13, LeO (spillwaylaw06_WindowPlain.j0 k y0 y1 y2 y3 y4 y5 y6 y7 y8 y9 y10 y11 y12 y13) (spillwaylaw06_WindowPlain.j0 (k + 1) y0 y1 y2 y3 y4 y5 y6 y7 y8 y9 y10 y11 y12 y13)) ∧ (∀ y0 y1 y2 y3 y4 y5 y6 y7 y8 y9 y10 y11 y12 y13 y14, LeO (spillwaylaw06_WindowPlain.l0 k y0 y1 y2 y3 y4 y5 y6 y7 y8 y9 y10 y11 y12 y13 y14) (spillwaylaw06_WindowPlain.l0 (k + 1) y0 y1 y2 y3 y4 y5 y6 y7 y8 y9 y10 y11 y12 y13 y14)) ∧ (∀ y0 y1 y2 y3 y4 y5 y6 y7 y8 y9 y10 y11 y12 y13 y14 y15 y16, LeO (spillwaylaw06_WindowPlain.j2 k y0 y1 y2 y3 y4 y5 y6 y7 y8 y9 y10 y11 y12 y13 y14 y15 y16) (spillwaylaw06_WindowPlain.j2 (k + 1) y0 y1 y2 y3 y4 y5 y6 y7 y8 y9 y10 y11 y12 y13 y14 y15 y16)) ∧ (∀ y0 y1 y2 y3 y4 y5 y6 y7 y8 y9 y10 y11 y12 y13 y14 y15 y16, LeO (spillwaylaw06_WindowPlain.l1 k y0 y1 y2 y3 y4 y5 y6 y7 y8 y9 y10 y11 y12 y13 y14 y15 y16) (spillwaylaw06_WindowPlain.l1 (k + 1) y0 y1 y2 y3 y4 y5 y6 y7 y8 y9 y10 y11 y12 y13 y14 y15 y16))
  | 0 => ⟨fun _ _ _ _ _ _ _ _ _ _ _ _ _ _ r h => by simp [spillwaylaw06_WindowPlain.j0] at h, fun _ _ _ _ _ _ _ _ _ _ _ _ _ _ _ r h => by simp [spillwaylaw06_WindowPlain.l0] at h, fun _ _ _ _ _ _ _ _ _ _ _ _ _ _ _ _ _ r h => by simp [spillwaylaw06_WindowPlain.j2] at h, fun _ _ _ _ _ _ _ _ _ _ _ _ _ _ _ _ _ r h => by simp [spillwaylaw06_WindowPlain.l1] at h⟩
  | k + 1 => by
    obtain ⟨ih0, ih1, ih2, ih3⟩ := spillwaylaw06_WindowPlain.mono_l k
    refine ⟨?_, ?_, ?_, ?_⟩
    · intro y0 y1 y2 y3 y4 y5 y6 y7 y8 y9 y10 y11 y12 y13
      unfold spillwaylaw06_WindowPlain.j0
      repeat' first
      | (with_reducible exact ih0 _ _ _ _ _ _ _ _ _ _ _ _ _ _)
      | (with_reducible exact ih1 _ _ _ _ _ _ _ _ _ _ _ _ _ _ _)
      | (with_reducible exact ih2 _ _ _ _ _ _ _ _ _ _ _ _ _ _ _ _ _)
      | (with_reducible exact ih3 _ _ _ _ _ _ _ _ _ _ _ _ _ _ _ _ _)
      | (with_reducible exact spillwaylaw06_fixed.mono _)
      | (with_reducible exact LeO.refl _)
      | (with_reducible exact LeO.none _)
      | (with_reducible refine LeO.ite ?_ ?_)
      | (with_reducible refine LeO.bind ?_ (fun _ => ?_))
      | exact ih0 _ _ _ _ _ _ _ _ _ _ _ _ _ _
      | exact ih1 _ _ _ _ _ _ _ _ _ _ _ _ _ _ _
      | exact ih2 _ _ _ _ _ _ _ _ _ _ _ _ _ _ _ _ _
      | exact ih3 _ _ _ _ _ _ _ _ _ _ _ _ _ _ _ _ _
      | exact spillwaylaw06_fixed.mono _
      | exact LeO.none _
      | refine LeO.ite ?_ ?_
      | refine LeO.bind ?_ (fun _ => ?_)
    · intro y0 y1 y2 y3 y4 y5 y6 y7 y8 y9 y10 y11 y12 y13 y14
      unfold spillwaylaw06_WindowPlain.l0
      repeat' first
      | (with_reducible exact ih0 _ _ _ _ _ _ _ _ _ _ _ _ _ _)
      | (with_reducible exact ih1 _ _ _ _ _ _ _ _ _ _ _ _ _ _ _)
      | (with_reducible exact ih2 _ _ _ _ _ _ _ _ _ _ _ _ _ _ _ _ _)
      | (with_reducible exact ih3 _ _ _ _ _ _ _ _ _ _ _ _ _ _ _ _ _)
      | (with_reducible exact spillwaylaw06_fixed.mono _)
      | (with_reducible exact LeO.refl _)
      | (with_reducible exact LeO.none _)
      | (with_reducible refine LeO.ite ?_ ?_)
      | (with_reducible refine LeO.bind ?_ (fun _ => ?_))
      | exact ih0 _ _ _ _ _ _ _ _ _ _ _ _ _ _
      | exact ih1 _ _ _ _ _ _ _ _ _ _ _ _ _ _ _
      | exact ih2 _ _ _ _ _ _ _ _ _ _ _ _ _ _ _ _ _
      | exact ih3 _ _ _ _ _ _ _ _ _ _ _ _ _ _ _ _ _
      | exact spillwaylaw06_fixed.mono _
      | exact LeO.none _
      | refine LeO.ite ?_ ?_
      | refine LeO.bind ?_ (fun _ => ?_)
    · intro y0 y1 y2 y3 y4 y5 y6 y7 y8 y9 y10 y11 y12 y13 y14 y15 y16
      unfold spillwaylaw06_WindowPlain.j2
      repeat' first
      | (with_reducible exact ih0 _ _ _ _ _ _ _ _ _ _ _ _ _ _)
      | (with_reducible exact ih1 _ _ _ _ _ _ _ _ _ _ _ _ _ _ _)
      | (with_reducible exact ih2 _ _ _ _ _ _ _ _ _ _ _ _ _ _ _ _ _)
      | (with_reducible exact ih3 _ _ _ _ _ _ _ _ _ _ _ _ _ _ _ _ _)
      | (with_reducible exact spillwaylaw06_fixed.mono _)
      | (with_reducible exact LeO.refl _)
      | (with_reducible exact LeO.none _)
      | (with_reducible refine LeO.ite ?_ ?_)
      | (with_reducible refine LeO.bind ?_ (fun _ => ?_))
      | exact ih0 _ _ _ _ _ _ _ _ _ _ _ _ _ _
      | exact ih1 _ _ _ _ _ _ _ _ _ _ _ _ _ _ _
      | exact ih2 _ _ _ _ _ _ _ _ _ _ _ _ _ _ _ _ _
      | exact ih3 _ _ _ _ _ _ _ _ _ _ _ _ _ _ _ _ _
      | exact spillwaylaw06_fixed.mono _
      | exact LeO.none _
      | refine LeO.ite ?_ ?_
      | refine LeO.bind ?_ (fun _ => ?_)
    · intro y0 y1 y2 y3 y4 y5 y6 y7 y8 y9 y10 y11 y12 y13 y14 y15 y16
      unfold spillwaylaw06_WindowPlain.l1
      repeat' first
      | (with_reducible exact ih0 _ _ _ _ _ _ _ _ _ _ _ _ _ _)
      | (with_reducible exact ih1 _ _ _ _ _ _ _ _ _ _ _ _ _ _ _)
      | (with_reducible exact ih2 _ _ _ _ _ _ _ _ _ _ _ _ _ _ _ _ _)
      | (with_reducible exact ih3 _ _ _ _ _ _ _ _ _ _ _ _ _ _ _ _ _)
      | (with_reducible exact spillwaylaw06_fixed.mono _)
      | (with_reducible exact LeO.refl _)
      | (with_reducible exact LeO.none _)
      | (with_reducible refine LeO.ite ?_ ?_)
      | (with_reducible refine LeO.bind ?_ (fun _ => ?_))
      | exact ih0 _ _ _ _ _ _ _ _ _ _ _ _ _ _
      | exact ih1 _ _ _ _ _ _ _ _ _ _ _ _ _ _ _
      | exact ih2 _ _ _ _ _ _ _ _ _ _ _ _ _ _ _ _ _
      | exact ih3 _ _ _ _ _ _ _ _ _ _ _ _ _ _ _ _ _
      | exact spillwaylaw06_fixed.mono _
      | exact LeO.none _
      | refine LeO.ite ?_ ?_
      | refine LeO.bind ?_ (fun _ => ?_)
theorem spillwaylaw06_WindowPlain.mono : ∀ a0 a1 a2 a3 a4 a5 a6 a7 a8 a9 a10 a11 k, LeO (spillwaylaw06_WindowPlain.f k a0 a1 a2 a3 a4 a5 a6 a7 a8 a9 a10 a11) (spillwaylaw06_WindowPlain.f (k + 1) a0 a1 a2 a3 a4 a5 a6 a7 a8 a9 a10 a11) := by
  intro a0 a1 a2 a3 a4 a5 a6 a7 a8 a9 a10 a11 k
  obtain ⟨ih0, ih1, ih2, ih3⟩ := spillwaylaw06_WindowPlain.mono_l k
  unfold spillwaylaw06_WindowPlain.f
  repeat' first
      | (with_reducible exact ih0 _ _ _ _ _ _ _ _ _ _ _ _ _ _)
      | (with_reducible exact ih1 _ _ _ _ _ _ _ _ _ _ _ _ _ _ _)
      | (with_reducible exact ih2 _ _ _ _ _ _ _ _ _ _ _ _ _ _ _ _ _)
      | (with_reducible exact ih3 _ _ _ _ _ _ _ _ _ _ _ _ _ _ _ _ _)
      | (with_reducible exact spillwaylaw06_fixed.mono _)
      | (with_reducible exact LeO.refl _)
      | (with_reducible exact LeO.none _)
      | (with_reducible refine LeO.ite ?_ ?_)
      | (with_reducible refine LeO.bind ?_ (fun _ => ?_))
      | exact ih0 _ _ _ _ _ _ _ _ _ _ _ _ _ _
      | exact ih1 _ _ _ _ _ _ _ _ _ _ _ _ _ _ _
      | exact ih2 _ _ _ _ _ _ _ _ _ _ _ _ _ _ _ _ _
      | exact ih3 _ _ _ _ _ _ _ _ _ _ _ _ _ _ _ _ _
      | exact spillwaylaw06_fixed.mono _
      | exact LeO.none _
      | refine LeO.ite ?_ ?_
      | refine LeO.bind ?_ (fun _ => ?_)
set_option maxHeartbeats 8000000 in
set_option maxRecDepth 100000 in
theorem spillwaylaw06_WindowPlain.calls (k : Nat) (a0_0 : Int) (a0_1 : Int) (a0_2 : Int) (a1_0 : Int) (a1_1 : Int) (a1_2 : Int) (a1_3 : Int) (a1_4 : Int) (a1_5 : Int) (a1_6 : Int) (a1_7 : Int) (a2 : Int) (r : Bool) (w : World) (hrt : r = true) (h : spillwaylaw06_WindowPlain.f k a0_0 a0_1 a0_2 a1_0 a1_1 a1_2 a1_3 a1_4 a1_5 a1_6 a1_7 a2 = some r) :
    Calls Try.prog 7 #[.agg #[.int .i64 a0_0, .int .i64 a0_1, .int .i64 a0_2], .agg #[.int .i64 a1_0, .int .i64 a1_1, .int .i64 a1_2, .int .i64 a1_3, .int .i64 a1_4, .int .i64 a1_5, .int .i64 a1_6, .int .i64 a1_7], .int .i64 a2] w fun e w' => e = .returned (.bool r) ∧ Below w.heap.size w w' := by
  have hu23 := Try.underlying23
  have hu25 := Try.underlying25
  have HB := Aside0.mk (Below.refl w.heap.size w)
  have H : ((spillwaylaw06_pairs.f a0_0 a0_1 a0_2 a1_0 a1_1 a1_2 a1_3 a1_4 a1_5 a1_6 a1_7 a2 2000000).bind fun bt128 => ((spillwaylaw06_fixed.f k).bind fun t132 => (if t132 = true then (spillwaylaw06_WindowPlain.j0 k a2 bt128.1 (!bt128.2) a0_0 a0_1 a0_2 a1_0 a1_1 a1_2 a1_3 a1_4 a1_5 a1_6 a1_7) else (spillwaylaw06_WindowPlain.j0 k a2 bt128.1 true a0_0 a0_1 a0_2 a1_0 a1_1 a1_2 a1_3 a1_4 a1_5 a1_6 a1_7)))) = some r := h
  clear h
  have HRT := Aside0.mk hrt
  clear hrt
  replace H := Option.bind_eq_some_iff.mp H
  obtain ⟨⟨t128, t131⟩, A40, H⟩ := H
  replace H : ((spillwaylaw06_fixed.f k).bind fun t132 => (if t132 = true then (spillwaylaw06_WindowPlain.j0 k a2 t128 (!t131) a0_0 a0_1 a0_2 a1_0 a1_1 a1_2 a1_3 a1_4 a1_5 a1_6 a1_7) else (spillwaylaw06_WindowPlain.j0 k a2 t128 true a0_0 a0_1 a0_2 a1_0 a1_1 a1_2 a1_3 a1_4 a1_5 a1_6 a1_7))) = some r := H
  have A4 := Aside0.mk A40
  clear A40
  have HC5 := Aside0.mk H
  clear H
  go_enter Try.func7, Try.ntmps7
  go_upto_region 2 with (first | ((with_reducible refine gate_dst (N := 3) rfl ?_); (try (refine gate_guard (by rfl) ?_; dsimp only)); refine box_event ?hg (N := 3) ?hd (cs := #[.int .i64 a0_0, .int .i64 a0_1, .int .i64 a0_2]) (t := 23) ?hr ?_; (case hd => rfl); (case hg => rfl); (case hr => first | (go_simp; done) | (go_simp; rfl)); intro gb126 hg w6 hbox hb; have n0_ := Aside0.mk (below_step (by repeat (first | (with_reducible first | exact HB.out | apply below_alloc | apply pw_below_drewN | apply below_drew1) | exact HB.out)) hb); have n1_ := Aside0.mk (hbox); have n2_ := Aside0.mk ((by rw [hg]; exact (below_size (by repeat (first | (with_reducible first | exact HB.out | apply below_alloc | apply pw_below_drewN | apply below_drew1) | exact HB.out))) : w.heap.size ≤ gb126)); have n3_ := Aside0.mk ((by rw [hg]; exact (below_size (by repeat (first | (with_reducible first | exact HB.out | apply below_alloc | apply pw_below_drewN | apply below_drew1) | exact HB.out))) : w.heap.size ≤ gb126)); clear HB; have HB := n0_; have BK126 := n1_; have GW126 := n2_; have GE126 := n3_; clear n0_ n1_ n2_ n3_; clear hb hbox hg) | ((with_reducible refine gate_dst (N := 4) rfl ?_); (try (refine gate_guard (by rfl) ?_; dsimp only)); refine box_event ?hg (N := 4) ?hd (cs := #[.int .i64 a1_0, .int .i64 a1_1, .int .i64 a1_2, .int .i64 a1_3, .int .i64 a1_4, .int .i64 a1_5, .int .i64 a1_6, .int .i64 a1_7]) (t := 25) ?hr ?_; (case hd => rfl); (case hg => rfl); (case hr => first | (go_simp; done) | (go_simp; rfl)); intro gb127 hg w7 hbox hb; have n0_ := Aside0.mk (blk_below (g := gb126) (o := .cells #[.int .i64 a0_0, .int .i64 a0_1, .int .i64 a0_2] 23 (0, 0)) (by (with_reducible repeat (first | refine blk_drewN ?_ _ | refine blk_drew ?_ | refine blk_alloc ?_ _)); exact BK126.out) hb); have n1_ := Aside0.mk (below_step (by repeat (first | (with_reducible first | exact HB.out | apply below_alloc | apply pw_below_drewN | apply below_drew1 | refine below_set ?_ GE126.out) | exact HB.out)) hb); have n2_ := Aside0.mk (hbox); have n3_ := Aside0.mk ((by rw [hg]; exact (below_size (by repeat (first | (with_reducible first | exact HB.out | apply below_alloc | apply pw_below_drewN | apply below_drew1 | refine below_set ?_ GE126.out) | exact HB.out))) : w.heap.size ≤ gb127)); have n4_ := Aside0.mk ((by rw [hg]; exact (below_size (by repeat (first | (with_reducible first | exact HB.out | apply below_alloc | apply pw_below_drewN | apply below_drew1 | refine below_set ?_ GE126.out) | exact HB.out))) : w.heap.size ≤ gb127)); have n5_ := Aside0.mk ((by rw [hg]; exact Nat.ne_of_lt (blk_lt (g := gb126) (o := .cells #[.int .i64 a0_0, .int .i64 a0_1, .int .i64 a0_2] 23 (0, 0)) (by (with_reducible repeat (first | refine blk_drewN ?_ _ | refine blk_drew ?_ | refine blk_alloc ?_ _)); exact BK126.out)) : gb126 ≠ gb127)); have n6_ := Aside0.mk ((by rw [hg]; exact Nat.ne_of_gt (blk_lt (g := gb126) (o := .cells #[.int .i64 a0_0, .int .i64 a0_1, .int .i64 a0_2] 23 (0, 0)) (by (with_reducible repeat (first | refine blk_drewN ?_ _ | refine blk_drew ?_ | refine blk_alloc ?_ _)); exact BK126.out)) : gb127 ≠ gb126)); clear BK126; clear HB; have BK126 := n0_; have HB := n1_; have BK127 := n2_; have GW127 := n3_; have GE127 := n4_; have NB126_127 := n5_; have NB127_126 := n6_; clear n0_ n1_ n2_ n3_ n4_ n5_ n6_; clear hb hbox hg; have hnb8 := NB126_127.out; have hnc8 := NB127_126.out; have hcz9_0 : w7.cell? ⟨gb126, 0, none⟩ = some (.int .i64 a0_0) := (blk_cell BK126.out 0).trans rfl; have hcz9_1 : w7.cell? ⟨gb126, 1, none⟩ = some (.int .i64 a0_1) := (blk_cell BK126.out 1).trans rfl; have hcz9_2 : w7.cell? ⟨gb126, 2, none⟩ = some (.int .i64 a0_2) := (blk_cell BK126.out 2).trans rfl; have hfz9_0 := blk_frozen BK126.out 0; have hfz9_1 := blk_frozen BK126.out 1; have hfz9_2 := blk_frozen BK126.out 2; have hcz10_0 : w7.cell? ⟨gb127, 0, none⟩ = some (.int .i64 a1_0) := (blk_cell BK127.out 0).trans rfl; have hcz10_1 : w7.cell? ⟨gb127, 1, none⟩ = some (.int .i64 a1_1) := (blk_cell BK127.out 1).trans rfl; have hcz10_2 : w7.cell? ⟨gb127, 2, none⟩ = some (.int .i64 a1_2) := (blk_cell BK127.out 2).trans rfl; have hcz10_3 : w7.cell? ⟨gb127, 3, none⟩ = some (.int .i64 a1_3) := (blk_cell BK127.out 3).trans rfl; have hcz10_4 : w7.cell? ⟨gb127, 4, none⟩ = some (.int .i64 a1_4) := (blk_cell BK127.out 4).trans rfl; have hcz10_5 : w7.cell? ⟨gb127, 5, none⟩ = some (.int .i64 a1_5) := (blk_cell BK127.out 5).trans rfl; have hcz10_6 : w7.cell? ⟨gb127, 6, none⟩ = some (.int .i64 a1_6) := (blk_cell BK127.out 6).trans rfl; have hcz10_7 : w7.cell? ⟨gb127, 7, none⟩ = some (.int .i64 a1_7) := (blk_cell BK127.out 7).trans rfl; have hfz10_0 := blk_frozen BK127.out 0; have hfz10_1 := blk_frozen BK127.out 1; have hfz10_2 := blk_frozen BK127.out 2; have hfz10_3 := blk_frozen BK127.out 3; have hfz10_4 := blk_frozen BK127.out 4; have hfz10_5 := blk_frozen BK127.out 5; have hfz10_6 := blk_frozen BK127.out 6; have hfz10_7 := blk_frozen BK127.out 7) | (go_at_call 22; (with_reducible refine (spillwaylaw06_pairs.calls a0_0 a0_1 a0_2 a1_0 a1_1 a1_2 a1_3 a1_4 a1_5 a1_6 a1_7 a2 2000000 t128 t131 _ A4.out).mono ?_); rintro e w11 ⟨v129, rfl, ho0, hb⟩; have n0_ := Aside0.mk (Kd.R_lower ho0 (below_size (by repeat (first | (with_reducible first | exact HB.out | apply below_alloc | apply pw_below_drewN | apply below_drew1 | refine below_set ?_ GE126.out | refine below_set ?_ GE127.out) | exact HB.out)))); have n1_ := Aside0.mk (blk_below (g := gb126) (o := .cells #[.int .i64 a0_0, .int .i64 a0_1, .int .i64 a0_2] 23 (0, 0)) (by (with_reducible repeat (first | refine blk_drewN ?_ _ | refine blk_drew ?_ | refine blk_alloc ?_ _)); exact BK126.out) hb); have n2_ := Aside0.mk (blk_below (g := gb127) (o := .cells #[.int .i64 a1_0, .int .i64 a1_1, .int .i64 a1_2, .int .i64 a1_3, .int .i64 a1_4, .int .i64 a1_5, .int .i64 a1_6, .int .i64 a1_7] 25 (0, 0)) (by (with_reducible repeat (first | refine blk_drewN ?_ _ | refine blk_drew ?_ | refine blk_alloc ?_ _)); exact BK127.out) hb); have n3_ := Aside0.mk (below_step (by repeat (first | (with_reducible first | exact HB.out | apply below_alloc | apply pw_below_drewN | apply below_drew1 | refine below_set ?_ GE126.out | refine below_set ?_ GE127.out) | exact HB.out)) hb); clear BK126; clear BK127; clear HB; have HO130 := n0_; have BK126 := n1_; have BK127 := n2_; have HB := n3_; clear n0_ n1_ n2_ n3_; (try clear hb); (try clear hb2); (try clear hk); (try clear hi); (try clear ho0)))
  repeat (go_quiet (first | ((with_reducible refine gate_dst (N := 3) rfl ?_); (try (refine gate_guard (by rfl) ?_; dsimp only)); refine box_event ?hg (N := 3) ?hd (cs := #[.int .i64 a0_0, .int .i64 a0_1, .int .i64 a0_2]) (t := 23) ?hr ?_; (case hd => rfl); (case hg => rfl); (case hr => first | (go_simp; done) | (go_simp; rfl)); intro gb126 hg w6 hbox hb; have n0_ := Aside0.mk (below_step (by repeat (first | (with_reducible first | exact HB.out | apply below_alloc | apply pw_below_drewN | apply below_drew1) | exact HB.out)) hb); have n1_ := Aside0.mk (hbox); have n2_ := Aside0.mk ((by rw [hg]; exact (below_size (by repeat (first | (with_reducible first | exact HB.out | apply below_alloc | apply pw_below_drewN | apply below_drew1) | exact HB.out))) : w.heap.size ≤ gb126)); have n3_ := Aside0.mk ((by rw [hg]; exact (below_size (by repeat (first | (with_reducible first | exact HB.out | apply below_alloc | apply pw_below_drewN | apply below_drew1) | exact HB.out))) : w.heap.size ≤ gb126)); clear HB; have HB := n0_; have BK126 := n1_; have GW126 := n2_; have GE126 := n3_; clear n0_ n1_ n2_ n3_; clear hb hbox hg) | ((with_reducible refine gate_dst (N := 4) rfl ?_); (try (refine gate_guard (by rfl) ?_; dsimp only)); refine box_event ?hg (N := 4) ?hd (cs := #[.int .i64 a1_0, .int .i64 a1_1, .int .i64 a1_2, .int .i64 a1_3, .int .i64 a1_4, .int .i64 a1_5, .int .i64 a1_6, .int .i64 a1_7]) (t := 25) ?hr ?_; (case hd => rfl); (case hg => rfl); (case hr => first | (go_simp; done) | (go_simp; rfl)); intro gb127 hg w7 hbox hb; have n0_ := Aside0.mk (blk_below (g := gb126) (o := .cells #[.int .i64 a0_0, .int .i64 a0_1, .int .i64 a0_2] 23 (0, 0)) (by (with_reducible repeat (first | refine blk_drewN ?_ _ | refine blk_drew ?_ | refine blk_alloc ?_ _)); exact BK126.out) hb); have n1_ := Aside0.mk (below_step (by repeat (first | (with_reducible first | exact HB.out | apply below_alloc | apply pw_below_drewN | apply below_drew1 | refine below_set ?_ GE126.out) | exact HB.out)) hb); have n2_ := Aside0.mk (hbox); have n3_ := Aside0.mk ((by rw [hg]; exact (below_size (by repeat (first | (with_reducible first | exact HB.out | apply below_alloc | apply pw_below_drewN | apply below_drew1 | refine below_set ?_ GE126.out) | exact HB.out))) : w.heap.size ≤ gb127)); have n4_ := Aside0.mk ((by rw [hg]; exact (below_size (by repeat (first | (with_reducible first | exact HB.out | apply below_alloc | apply pw_below_drewN | apply below_drew1 | refine below_set ?_ GE126.out) | exact HB.out))) : w.heap.size ≤ gb127)); have n5_ := Aside0.mk ((by rw [hg]; exact Nat.ne_of_lt (blk_lt (g := gb126) (o := .cells #[.int .i64 a0_0, .int .i64 a0_1, .int .i64 a0_2] 23 (0, 0)) (by (with_reducible repeat (first | refine blk_drewN ?_ _ | refine blk_drew ?_ | refine blk_alloc ?_ _)); exact BK126.out)) : gb126 ≠ gb127)); have n6_ := Aside0.mk ((by rw [hg]; exact Nat.ne_of_gt (blk_lt (g := gb126) (o := .cells #[.int .i64 a0_0, .int .i64 a0_1, .int .i64 a0_2] 23 (0, 0)) (by (with_reducible repeat (first | refine blk_drewN ?_ _ | refine blk_drew ?_ | refine blk_alloc ?_ _)); exact BK126.out)) : gb127 ≠ gb126)); clear BK126; clear HB; have BK126 := n0_; have HB := n1_; have BK127 := n2_; have GW127 := n3_; have GE127 := n4_; have NB126_127 := n5_; have NB127_126 := n6_; clear n0_ n1_ n2_ n3_ n4_ n5_ n6_; clear hb hbox hg; have hnb8 := NB126_127.out; have hnc8 := NB127_126.out; have hcz9_0 : w7.cell? ⟨gb126, 0, none⟩ = some (.int .i64 a0_0) := (blk_cell BK126.out 0).trans rfl; have hcz9_1 : w7.cell? ⟨gb126, 1, none⟩ = some (.int .i64 a0_1) := (blk_cell BK126.out 1).trans rfl; have hcz9_2 : w7.cell? ⟨gb126, 2, none⟩ = some (.int .i64 a0_2) := (blk_cell BK126.out 2).trans rfl; have hfz9_0 := blk_frozen BK126.out 0; have hfz9_1 := blk_frozen BK126.out 1; have hfz9_2 := blk_frozen BK126.out 2; have hcz10_0 : w7.cell? ⟨gb127, 0, none⟩ = some (.int .i64 a1_0) := (blk_cell BK127.out 0).trans rfl; have hcz10_1 : w7.cell? ⟨gb127, 1, none⟩ = some (.int .i64 a1_1) := (blk_cell BK127.out 1).trans rfl; have hcz10_2 : w7.cell? ⟨gb127, 2, none⟩ = some (.int .i64 a1_2) := (blk_cell BK127.out 2).trans rfl; have hcz10_3 : w7.cell? ⟨gb127, 3, none⟩ = some (.int .i64 a1_3) := (blk_cell BK127.out 3).trans rfl; have hcz10_4 : w7.cell? ⟨gb127, 4, none⟩ = some (.int .i64 a1_4) := (blk_cell BK127.out 4).trans rfl; have hcz10_5 : w7.cell? ⟨gb127, 5, none⟩ = some (.int .i64 a1_5) := (blk_cell BK127.out 5).trans rfl; have hcz10_6 : w7.cell? ⟨gb127, 6, none⟩ = some (.int .i64 a1_6) := (blk_cell BK127.out 6).trans rfl; have hcz10_7 : w7.cell? ⟨gb127, 7, none⟩ = some (.int .i64 a1_7) := (blk_cell BK127.out 7).trans rfl; have hfz10_0 := blk_frozen BK127.out 0; have hfz10_1 := blk_frozen BK127.out 1; have hfz10_2 := blk_frozen BK127.out 2; have hfz10_3 := blk_frozen BK127.out 3; have hfz10_4 := blk_frozen BK127.out 4; have hfz10_5 := blk_frozen BK127.out 5; have hfz10_6 := blk_frozen BK127.out 6; have hfz10_7 := blk_frozen BK127.out 7) | (go_at_call 22; (with_reducible refine (spillwaylaw06_pairs.calls a0_0 a0_1 a0_2 a1_0 a1_1 a1_2 a1_3 a1_4 a1_5 a1_6 a1_7 a2 2000000 t128 t131 _ A4.out).mono ?_); rintro e w11 ⟨v129, rfl, ho0, hb⟩; have n0_ := Aside0.mk (Kd.R_lower ho0 (below_size (by repeat (first | (with_reducible first | exact HB.out | apply below_alloc | apply pw_below_drewN | apply below_drew1 | refine below_set ?_ GE126.out | refine below_set ?_ GE127.out) | exact HB.out)))); have n1_ := Aside0.mk (blk_below (g := gb126) (o := .cells #[.int .i64 a0_0, .int .i64 a0_1, .int .i64 a0_2] 23 (0, 0)) (by (with_reducible repeat (first | refine blk_drewN ?_ _ | refine blk_drew ?_ | refine blk_alloc ?_ _)); exact BK126.out) hb); have n2_ := Aside0.mk (blk_below (g := gb127) (o := .cells #[.int .i64 a1_0, .int .i64 a1_1, .int .i64 a1_2, .int .i64 a1_3, .int .i64 a1_4, .int .i64 a1_5, .int .i64 a1_6, .int .i64 a1_7] 25 (0, 0)) (by (with_reducible repeat (first | refine blk_drewN ?_ _ | refine blk_drew ?_ | refine blk_alloc ?_ _)); exact BK127.out) hb); have n3_ := Aside0.mk (below_step (by repeat (first | (with_reducible first | exact HB.out | apply below_alloc | apply pw_below_drewN | apply below_drew1 | refine below_set ?_ GE126.out | refine below_set ?_ GE127.out) | exact HB.out)) hb); clear BK126; clear BK127; clear HB; have HO130 := n0_; have BK126 := n1_; have BK127 := n2_; have HB := n3_; clear n0_ n1_ n2_ n3_; (try clear hb); (try clear hb2); (try clear hk); (try clear hi); (try clear ho0))); go_upto_region 2 with (first | ((with_reducible refine gate_dst (N := 3) rfl ?_); (try (refine gate_guard (by rfl) ?_; dsimp only)); refine box_event ?hg (N := 3) ?hd (cs := #[.int .i64 a0_0, .int .i64 a0_1, .int .i64 a0_2]) (t := 23) ?hr ?_; (case hd => rfl); (case hg => rfl); (case hr => first | (go_simp; done) | (go_simp; rfl)); intro gb126 hg w6 hbox hb; have n0_ := Aside0.mk (below_step (by repeat (first | (with_reducible first | exact HB.out | apply below_alloc | apply pw_below_drewN | apply below_drew1) | exact HB.out)) hb); have n1_ := Aside0.mk (hbox); have n2_ := Aside0.mk ((by rw [hg]; exact (below_size (by repeat (first | (with_reducible first | exact HB.out | apply below_alloc | apply pw_below_drewN | apply below_drew1) | exact HB.out))) : w.heap.size ≤ gb126)); have n3_ := Aside0.mk ((by rw [hg]; exact (below_size (by repeat (first | (with_reducible first | exact HB.out | apply below_alloc | apply pw_below_drewN | apply below_drew1) | exact HB.out))) : w.heap.size ≤ gb126)); clear HB; have HB := n0_; have BK126 := n1_; have GW126 := n2_; have GE126 := n3_; clear n0_ n1_ n2_ n3_; clear hb hbox hg) | ((with_reducible refine gate_dst (N := 4) rfl ?_); (try (refine gate_guard (by rfl) ?_; dsimp only)); refine box_event ?hg (N := 4) ?hd (cs := #[.int .i64 a1_0, .int .i64 a1_1, .int .i64 a1_2, .int .i64 a1_3, .int .i64 a1_4, .int .i64 a1_5, .int .i64 a1_6, .int .i64 a1_7]) (t := 25) ?hr ?_; (case hd => rfl); (case hg => rfl); (case hr => first | (go_simp; done) | (go_simp; rfl)); intro gb127 hg w7 hbox hb; have n0_ := Aside0.mk (blk_below (g := gb126) (o := .cells #[.int .i64 a0_0, .int .i64 a0_1, .int .i64 a0_2] 23 (0, 0)) (by (with_reducible repeat (first | refine blk_drewN ?_ _ | refine blk_drew ?_ | refine blk_alloc ?_ _)); exact BK126.out) hb); have n1_ := Aside0.mk (below_step (by repeat (first | (with_reducible first | exact HB.out | apply below_alloc | apply pw_below_drewN | apply below_drew1 | refine below_set ?_ GE126.out) | exact HB.out)) hb); have n2_ := Aside0.mk (hbox); have n3_ := Aside0.mk ((by rw [hg]; exact (below_size (by repeat (first | (with_reducible first | exact HB.out | apply below_alloc | apply pw_below_drewN | apply below_drew1 | refine below_set ?_ GE126.out) | exact HB.out))) : w.heap.size ≤ gb127)); have n4_ := Aside0.mk ((by rw [hg]; exact (below_size (by repeat (first | (with_reducible first | exact HB.out | apply below_alloc | apply pw_below_drewN | apply below_drew1 | refine below_set ?_ GE126.out) | exact HB.out))) : w.heap.size ≤ gb127)); have n5_ := Aside0.mk ((by rw [hg]; exact Nat.ne_of_lt (blk_lt (g := gb126) (o := .cells #[.int .i64 a0_0, .int .i64 a0_1, .int .i64 a0_2] 23 (0, 0)) (by (with_reducible repeat (first | refine blk_drewN ?_ _ | refine blk_drew ?_ | refine blk_alloc ?_ _)); exact BK126.out)) : gb126 ≠ gb127)); have n6_ := Aside0.mk ((by rw [hg]; exact Nat.ne_of_gt (blk_lt (g := gb126) (o := .cells #[.int .i64 a0_0, .int .i64 a0_1, .int .i64 a0_2] 23 (0, 0)) (by (with_reducible repeat (first | refine blk_drewN ?_ _ | refine blk_drew ?_ | refine blk_alloc ?_ _)); exact BK126.out)) : gb127 ≠ gb126)); clear BK126; clear HB; have BK126 := n0_; have HB := n1_; have BK127 := n2_; have GW127 := n3_; have GE127 := n4_; have NB126_127 := n5_; have NB127_126 := n6_; clear n0_ n1_ n2_ n3_ n4_ n5_ n6_; clear hb hbox hg; have hnb8 := NB126_127.out; have hnc8 := NB127_126.out; have hcz9_0 : w7.cell? ⟨gb126, 0, none⟩ = some (.int .i64 a0_0) := (blk_cell BK126.out 0).trans rfl; have hcz9_1 : w7.cell? ⟨gb126, 1, none⟩ = some (.int .i64 a0_1) := (blk_cell BK126.out 1).trans rfl; have hcz9_2 : w7.cell? ⟨gb126, 2, none⟩ = some (.int .i64 a0_2) := (blk_cell BK126.out 2).trans rfl; have hfz9_0 := blk_frozen BK126.out 0; have hfz9_1 := blk_frozen BK126.out 1; have hfz9_2 := blk_frozen BK126.out 2; have hcz10_0 : w7.cell? ⟨gb127, 0, none⟩ = some (.int .i64 a1_0) := (blk_cell BK127.out 0).trans rfl; have hcz10_1 : w7.cell? ⟨gb127, 1, none⟩ = some (.int .i64 a1_1) := (blk_cell BK127.out 1).trans rfl; have hcz10_2 : w7.cell? ⟨gb127, 2, none⟩ = some (.int .i64 a1_2) := (blk_cell BK127.out 2).trans rfl; have hcz10_3 : w7.cell? ⟨gb127, 3, none⟩ = some (.int .i64 a1_3) := (blk_cell BK127.out 3).trans rfl; have hcz10_4 : w7.cell? ⟨gb127, 4, none⟩ = some (.int .i64 a1_4) := (blk_cell BK127.out 4).trans rfl; have hcz10_5 : w7.cell? ⟨gb127, 5, none⟩ = some (.int .i64 a1_5) := (blk_cell BK127.out 5).trans rfl; have hcz10_6 : w7.cell? ⟨gb127, 6, none⟩ = some (.int .i64 a1_6) := (blk_cell BK127.out 6).trans rfl; have hcz10_7 : w7.cell? ⟨gb127, 7, none⟩ = some (.int .i64 a1_7) := (blk_cell BK127.out 7).trans rfl; have hfz10_0 := blk_frozen BK127.out 0; have hfz10_1 := blk_frozen BK127.out 1; have hfz10_2 := blk_frozen BK127.out 2; have hfz10_3 := blk_frozen BK127.out 3; have hfz10_4 := blk_frozen BK127.out 4; have hfz10_5 := blk_frozen BK127.out 5; have hfz10_6 := blk_frozen BK127.out 6; have hfz10_7 := blk_frozen BK127.out 7) | (go_at_call 22; (with_reducible refine (spillwaylaw06_pairs.calls a0_0 a0_1 a0_2 a1_0 a1_1 a1_2 a1_3 a1_4 a1_5 a1_6 a1_7 a2 2000000 t128 t131 _ A4.out).mono ?_); rintro e w11 ⟨v129, rfl, ho0, hb⟩; have n0_ := Aside0.mk (Kd.R_lower ho0 (below_size (by repeat (first | (with_reducible first | exact HB.out | apply below_alloc | apply pw_below_drewN | apply below_drew1 | refine below_set ?_ GE126.out | refine below_set ?_ GE127.out) | exact HB.out)))); have n1_ := Aside0.mk (blk_below (g := gb126) (o := .cells #[.int .i64 a0_0, .int .i64 a0_1, .int .i64 a0_2] 23 (0, 0)) (by (with_reducible repeat (first | refine blk_drewN ?_ _ | refine blk_drew ?_ | refine blk_alloc ?_ _)); exact BK126.out) hb); have n2_ := Aside0.mk (blk_below (g := gb127) (o := .cells #[.int .i64 a1_0, .int .i64 a1_1, .int .i64 a1_2, .int .i64 a1_3, .int .i64 a1_4, .int .i64 a1_5, .int .i64 a1_6, .int .i64 a1_7] 25 (0, 0)) (by (with_reducible repeat (first | refine blk_drewN ?_ _ | refine blk_drew ?_ | refine blk_alloc ?_ _)); exact BK127.out) hb); have n3_ := Aside0.mk (below_step (by repeat (first | (with_reducible first | exact HB.out | apply below_alloc | apply pw_below_drewN | apply below_drew1 | refine below_set ?_ GE126.out | refine below_set ?_ GE127.out) | exact HB.out)) hb); clear BK126; clear BK127; clear HB; have HO130 := n0_; have BK126 := n1_; have BK127 := n2_; have HB := n3_; clear n0_ n1_ n2_ n3_; (try clear hb); (try clear hb2); (try clear hk); (try clear hi); (try clear ho0))))
  (try simp only [Act.put, List.setIfInBounds_toArray, List.set_cons_zero, List.set_cons_succ])
  go_cut [28] (fun v28 wc => ∃ (kq : Nat) (x28_4 : Bool), v28 = .bool x28_4 ∧ Aside0 (spillwaylaw06_WindowPlain.j0 kq a2 t128 x28_4 a0_0 a0_1 a0_2 a1_0 a1_1 a1_2 a1_3 a1_4 a1_5 a1_6 a1_7 = some r) ∧ Aside0 (kq ≤ k) ∧ Aside0 (Kd.R (Kd.int .i64) 3 wc w.heap.size (fun _ => True) v129 t128) ∧ Aside0 (wc.heap[gb126]? = some (.cells #[.int .i64 a0_0, .int .i64 a0_1, .int .i64 a0_2] 23 (0, 0))) ∧ Aside0 (wc.heap[gb127]? = some (.cells #[.int .i64 a1_0, .int .i64 a1_1, .int .i64 a1_2, .int .i64 a1_3, .int .i64 a1_4, .int .i64 a1_5, .int .i64 a1_6, .int .i64 a1_7] 25 (0, 0))) ∧ Aside0 (Below w.heap.size w wc))
  case first =>
    have H := HC5.out
    clear HC5
    replace H := Option.bind_eq_some_iff.mp H
    obtain ⟨t132, A120, H⟩ := H
    replace H : (if t132 = true then (spillwaylaw06_WindowPlain.j0 k a2 t128 (!t131) a0_0 a0_1 a0_2 a1_0 a1_1 a1_2 a1_3 a1_4 a1_5 a1_6 a1_7) else (spillwaylaw06_WindowPlain.j0 k a2 t128 true a0_0 a0_1 a0_2 a1_0 a1_1 a1_2 a1_3 a1_4 a1_5 a1_6 a1_7)) = some r := H
    have A12 := Aside0.mk A120
    clear A120
    by_cases c13 : t132 = true
    · subst c13
      have H1 : (spillwaylaw06_WindowPlain.j0 k a2 t128 (!t131) a0_0 a0_1 a0_2 a1_0 a1_1 a1_2 a1_3 a1_4 a1_5 a1_6 a1_7) = some r := by rw [if_pos rfl] at H; exact H
      clear H
      have H := H1
      clear H1
      have H' := Aside0.mk H
      clear H
      go_wp2_with (first | (go_at_call 16; (with_reducible refine (spillwaylaw06_fixed.calls k  true _ A12.out).mono ?_); rintro e w14 ⟨rfl, hb⟩; have n0_ := Aside0.mk (Kd.R_below (by (with_reducible repeat (first | apply Kd.R_alloc | apply Kd.R_drewN | apply Kd.R_drew)); exact HO130.out) hb); have n1_ := Aside0.mk (blk_below (g := gb126) (o := .cells #[.int .i64 a0_0, .int .i64 a0_1, .int .i64 a0_2] 23 (0, 0)) (by (with_reducible repeat (first | refine blk_drewN ?_ _ | refine blk_drew ?_ | refine blk_alloc ?_ _)); exact BK126.out) hb); have n2_ := Aside0.mk (blk_below (g := gb127) (o := .cells #[.int .i64 a1_0, .int .i64 a1_1, .int .i64 a1_2, .int .i64 a1_3, .int .i64 a1_4, .int .i64 a1_5, .int .i64 a1_6, .int .i64 a1_7] 25 (0, 0)) (by (with_reducible repeat (first | refine blk_drewN ?_ _ | refine blk_drew ?_ | refine blk_alloc ?_ _)); exact BK127.out) hb); have n3_ := Aside0.mk (below_step (by repeat (first | (with_reducible first | exact HB.out | apply below_alloc | apply pw_below_drewN | apply below_drew1 | refine below_set ?_ GE126.out | refine below_set ?_ GE127.out) | exact HB.out)) hb); clear HO130; clear BK126; clear BK127; clear HB; have HO130 := n0_; have BK126 := n1_; have BK127 := n2_; have HB := n3_; clear n0_ n1_ n2_ n3_; (try clear hb); (try clear hb2); (try clear hk); (try clear hi)))
      repeat (go_quiet (first | (go_at_call 16; (with_reducible refine (spillwaylaw06_fixed.calls k  true _ A12.out).mono ?_); rintro e w14 ⟨rfl, hb⟩; have n0_ := Aside0.mk (Kd.R_below (by (with_reducible repeat (first | apply Kd.R_alloc | apply Kd.R_drewN | apply Kd.R_drew)); exact HO130.out) hb); have n1_ := Aside0.mk (blk_below (g := gb126) (o := .cells #[.int .i64 a0_0, .int .i64 a0_1, .int .i64 a0_2] 23 (0, 0)) (by (with_reducible repeat (first | refine blk_drewN ?_ _ | refine blk_drew ?_ | refine blk_alloc ?_ _)); exact BK126.out) hb); have n2_ := Aside0.mk (blk_below (g := gb127) (o := .cells #[.int .i64 a1_0, .int .i64 a1_1, .int .i64 a1_2, .int .i64 a1_3, .int .i64 a1_4, .int .i64 a1_5, .int .i64 a1_6, .int .i64 a1_7] 25 (0, 0)) (by (with_reducible repeat (first | refine blk_drewN ?_ _ | refine blk_drew ?_ | refine blk_alloc ?_ _)); exact BK127.out) hb); have n3_ := Aside0.mk (below_step (by repeat (first | (with_reducible first | exact HB.out | apply below_alloc | apply pw_below_drewN | apply below_drew1 | refine below_set ?_ GE126.out | refine below_set ?_ GE127.out) | exact HB.out)) hb); clear HO130; clear BK126; clear BK127; clear HB; have HO130 := n0_; have BK126 := n1_; have BK127 := n2_; have HB := n3_; clear n0_ n1_ n2_ n3_; (try clear hb); (try clear hb2); (try clear hk); (try clear hi))); try go_wp2_with (first | (go_at_call 16; (with_reducible refine (spillwaylaw06_fixed.calls k  true _ A12.out).mono ?_); rintro e w14 ⟨rfl, hb⟩; have n0_ := Aside0.mk (Kd.R_below (by (with_reducible repeat (first | apply Kd.R_alloc | apply Kd.R_drewN | apply Kd.R_drew)); exact HO130.out) hb); have n1_ := Aside0.mk (blk_below (g := gb126) (o := .cells #[.int .i64 a0_0, .int .i64 a0_1, .int .i64 a0_2] 23 (0, 0)) (by (with_reducible repeat (first | refine blk_drewN ?_ _ | refine blk_drew ?_ | refine blk_alloc ?_ _)); exact BK126.out) hb); have n2_ := Aside0.mk (blk_below (g := gb127) (o := .cells #[.int .i64 a1_0, .int .i64 a1_1, .int .i64 a1_2, .int .i64 a1_3, .int .i64 a1_4, .int .i64 a1_5, .int .i64 a1_6, .int .i64 a1_7] 25 (0, 0)) (by (with_reducible repeat (first | refine blk_drewN ?_ _ | refine blk_drew ?_ | refine blk_alloc ?_ _)); exact BK127.out) hb); have n3_ := Aside0.mk (below_step (by repeat (first | (with_reducible first | exact HB.out | apply below_alloc | apply pw_below_drewN | apply below_drew1 | refine below_set ?_ GE126.out | refine below_set ?_ GE127.out) | exact HB.out)) hb); clear HO130; clear BK126; clear BK127; clear HB; have HO130 := n0_; have BK126 := n1_; have BK127 := n2_; have HB := n3_; clear n0_ n1_ n2_ n3_; (try clear hb); (try clear hb2); (try clear hk); (try clear hi))))
      go_meet
      case rel => exact ⟨_, (!t131), (by first | rfl | (simp; done) | (simp [*]; done)), H', ⟨by first | omega | exact Nat.le_refl _⟩, ⟨by (with_reducible repeat (first | apply Kd.R_alloc | apply Kd.R_drewN | apply Kd.R_drew)); exact HO130.out⟩, ⟨by (with_reducible repeat (first | refine blk_drewN ?_ _ | refine blk_drew ?_ | refine blk_alloc ?_ _)); exact BK126.out⟩, ⟨by (with_reducible repeat (first | refine blk_drewN ?_ _ | refine blk_drew ?_ | refine blk_alloc ?_ _)); exact BK127.out⟩, ⟨by repeat (first | (with_reducible first | exact HB.out | apply below_alloc | apply pw_below_drewN | apply below_drew1 | refine below_set ?_ GE126.out | refine below_set ?_ GE127.out) | exact HB.out)⟩⟩
    · replace c13 := Bool.eq_false_iff.mpr c13
      subst c13
      have H1 : (spillwaylaw06_WindowPlain.j0 k a2 t128 true a0_0 a0_1 a0_2 a1_0 a1_1 a1_2 a1_3 a1_4 a1_5 a1_6 a1_7) = some r := by rw [if_neg (show ¬ (false = true) by decide)] at H; exact H
      clear H
      have H := H1
      clear H1
      have H' := Aside0.mk H
      clear H
      go_wp2_with (first | (go_at_call 16; (with_reducible refine (spillwaylaw06_fixed.calls k  false _ A12.out).mono ?_); rintro e w15 ⟨rfl, hb⟩; have n0_ := Aside0.mk (Kd.R_below (by (with_reducible repeat (first | apply Kd.R_alloc | apply Kd.R_drewN | apply Kd.R_drew)); exact HO130.out) hb); have n1_ := Aside0.mk (blk_below (g := gb126) (o := .cells #[.int .i64 a0_0, .int .i64 a0_1, .int .i64 a0_2] 23 (0, 0)) (by (with_reducible repeat (first | refine blk_drewN ?_ _ | refine blk_drew ?_ | refine blk_alloc ?_ _)); exact BK126.out) hb); have n2_ := Aside0.mk (blk_below (g := gb127) (o := .cells #[.int .i64 a1_0, .int .i64 a1_1, .int .i64 a1_2, .int .i64 a1_3, .int .i64 a1_4, .int .i64 a1_5, .int .i64 a1_6, .int .i64 a1_7] 25 (0, 0)) (by (with_reducible repeat (first | refine blk_drewN ?_ _ | refine blk_drew ?_ | refine blk_alloc ?_ _)); exact BK127.out) hb); have n3_ := Aside0.mk (below_step (by repeat (first | (with_reducible first | exact HB.out | apply below_alloc | apply pw_below_drewN | apply below_drew1 | refine below_set ?_ GE126.out | refine below_set ?_ GE127.out) | exact HB.out)) hb); clear HO130; clear BK126; clear BK127; clear HB; have HO130 := n0_; have BK126 := n1_; have BK127 := n2_; have HB := n3_; clear n0_ n1_ n2_ n3_; (try clear hb); (try clear hb2); (try clear hk); (try clear hi)))
      repeat (go_quiet (first | (go_at_call 16; (with_reducible refine (spillwaylaw06_fixed.calls k  false _ A12.out).mono ?_); rintro e w15 ⟨rfl, hb⟩; have n0_ := Aside0.mk (Kd.R_below (by (with_reducible repeat (first | apply Kd.R_alloc | apply Kd.R_drewN | apply Kd.R_drew)); exact HO130.out) hb); have n1_ := Aside0.mk (blk_below (g := gb126) (o := .cells #[.int .i64 a0_0, .int .i64 a0_1, .int .i64 a0_2] 23 (0, 0)) (by (with_reducible repeat (first | refine blk_drewN ?_ _ | refine blk_drew ?_ | refine blk_alloc ?_ _)); exact BK126.out) hb); have n2_ := Aside0.mk (blk_below (g := gb127) (o := .cells #[.int .i64 a1_0, .int .i64 a1_1, .int .i64 a1_2, .int .i64 a1_3, .int .i64 a1_4, .int .i64 a1_5, .int .i64 a1_6, .int .i64 a1_7] 25 (0, 0)) (by (with_reducible repeat (first | refine blk_drewN ?_ _ | refine blk_drew ?_ | refine blk_alloc ?_ _)); exact BK127.out) hb); have n3_ := Aside0.mk (below_step (by repeat (first | (with_reducible first | exact HB.out | apply below_alloc | apply pw_below_drewN | apply below_drew1 | refine below_set ?_ GE126.out | refine below_set ?_ GE127.out) | exact HB.out)) hb); clear HO130; clear BK126; clear BK127; clear HB; have HO130 := n0_; have BK126 := n1_; have BK127 := n2_; have HB := n3_; clear n0_ n1_ n2_ n3_; (try clear hb); (try clear hb2); (try clear hk); (try clear hi))); try go_wp2_with (first | (go_at_call 16; (with_reducible refine (spillwaylaw06_fixed.calls k  false _ A12.out).mono ?_); rintro e w15 ⟨rfl, hb⟩; have n0_ := Aside0.mk (Kd.R_below (by (with_reducible repeat (first | apply Kd.R_alloc | apply Kd.R_drewN | apply Kd.R_drew)); exact HO130.out) hb); have n1_ := Aside0.mk (blk_below (g := gb126) (o := .cells #[.int .i64 a0_0, .int .i64 a0_1, .int .i64 a0_2] 23 (0, 0)) (by (with_reducible repeat (first | refine blk_drewN ?_ _ | refine blk_drew ?_ | refine blk_alloc ?_ _)); exact BK126.out) hb); have n2_ := Aside0.mk (blk_below (g := gb127) (o := .cells #[.int .i64 a1_0, .int .i64 a1_1, .int .i64 a1_2, .int .i64 a1_3, .int .i64 a1_4, .int .i64 a1_5, .int .i64 a1_6, .int .i64 a1_7] 25 (0, 0)) (by (with_reducible repeat (first | refine blk_drewN ?_ _ | refine blk_drew ?_ | refine blk_alloc ?_ _)); exact BK127.out) hb); have n3_ := Aside0.mk (below_step (by repeat (first | (with_reducible first | exact HB.out | apply below_alloc | apply pw_below_drewN | apply below_drew1 | refine below_set ?_ GE126.out | refine below_set ?_ GE127.out) | exact HB.out)) hb); clear HO130; clear BK126; clear BK127; clear HB; have HO130 := n0_; have BK126 := n1_; have BK127 := n2_; have HB := n3_; clear n0_ n1_ n2_ n3_; (try clear hb); (try clear hb2); (try clear hk); (try clear hi))))
      go_meet
      case rel => exact ⟨_, (true), (by first | rfl | (simp; done) | (simp [*]; done)), H', ⟨by first | omega | exact Nat.le_refl _⟩, ⟨by (with_reducible repeat (first | apply Kd.R_alloc | apply Kd.R_drewN | apply Kd.R_drew)); exact HO130.out⟩, ⟨by (with_reducible repeat (first | refine blk_drewN ?_ _ | refine blk_drew ?_ | refine blk_alloc ?_ _)); exact BK126.out⟩, ⟨by (with_reducible repeat (first | refine blk_drewN ?_ _ | refine blk_drew ?_ | refine blk_alloc ?_ _)); exact BK127.out⟩, ⟨by repeat (first | (with_reducible first | exact HB.out | apply below_alloc | apply pw_below_drewN | apply below_drew1 | refine below_set ?_ GE126.out | refine below_set ?_ GE127.out) | exact HB.out)⟩⟩
  case rest =>
    clear HC5
    try clear c1
    try clear p2
    try clear c7
    try clear c8
    try clear c13
    try clear hcz10_0
    try clear hcz10_1
    try clear hcz10_2
    try clear hcz10_3
    try clear hcz10_4
    try clear hcz10_5
    try clear hcz10_6
    try clear hcz10_7
    try clear hcz9_0
    try clear hcz9_1
    try clear hcz9_2
    try clear hfz10_0
    try clear hfz10_1
    try clear hfz10_2
    try clear hfz10_3
    try clear hfz10_4
    try clear hfz10_5
    try clear hfz10_6
    try clear hfz10_7
    try clear hfz9_0
    try clear hfz9_1
    try clear hfz9_2
    obtain ⟨kq, x28_4, rfl, HA, HJ4, HO_7, BK126, BK127, HB⟩ := hcut
    cases kq with
    | zero => exact absurd HA.out (by simp [spillwaylaw06_WindowPlain.j0])
    | succ kj4 =>
      have H := HA.out
      clear HA
      simp only [spillwaylaw06_WindowPlain.j0] at H
      by_cases c16 : x28_4 = true
      · subst c16
        have H1 : (some false) = some r := by rw [if_pos rfl] at H; exact H
        clear H
        have H := H1
        clear H1
        exact absurd ((Option.some.inj H).trans HRT.out) Bool.false_ne_true
      · replace c16 := Bool.eq_false_iff.mpr c16
        subst c16
        have H1 : (spillwaylaw06_WindowPlain.l0 kj4 a2 t128 0 0 a0_0 a0_1 a0_2 a1_0 a1_1 a1_2 a1_3 a1_4 a1_5 a1_6 a1_7) = some r := by rw [if_neg (show ¬ (false = true) by decide)] at H; exact H
        clear H
        have H := H1
        clear H1
        have H' := Aside0.mk H
        clear H
        go_wp2
        repeat (go_quiet (fail); try go_wp2)
        go_loopg [9, 10] kj4 (fun kq v9 v10 w' => ∃ (x9_2 : Int) (x10_2 : Int), v9 = .int .i64 x9_2 ∧ v10 = .int .i64 x10_2 ∧ Aside0 (spillwaylaw06_WindowPlain.l0 kq a2 t128 x9_2 x10_2 a0_0 a0_1 a0_2 a1_0 a1_1 a1_2 a1_3 a1_4 a1_5 a1_6 a1_7 = some r) ∧ Aside0 (kq ≤ kj4) ∧ Aside0 (Kd.R (Kd.int .i64) 3 w' w.heap.size (fun _ => True) v129 t128) ∧ Aside0 (w'.heap[gb126]? = some (.cells #[.int .i64 a0_0, .int .i64 a0_1, .int .i64 a0_2] 23 (0, 0))) ∧ Aside0 (w'.heap[gb127]? = some (.cells #[.int .i64 a1_0, .int .i64 a1_1, .int .i64 a1_2, .int .i64 a1_3, .int .i64 a1_4, .int .i64 a1_5, .int .i64 a1_6, .int .i64 a1_7] 25 (0, 0))) ∧ Aside0 (Below w.heap.size w w'))
        case atStart => exact ⟨(0), (0), (by first | rfl | (simp; done) | (simp [*]; done)), (by first | rfl | (simp; done) | (simp [*]; done)), H', ⟨Nat.le_refl _⟩, ⟨by (with_reducible repeat (first | apply Kd.R_alloc | apply Kd.R_drewN | apply Kd.R_drew)); exact HO_7.out⟩, ⟨by (with_reducible repeat (first | refine blk_drewN ?_ _ | refine blk_drew ?_ | refine blk_alloc ?_ _)); exact BK126.out⟩, ⟨by (with_reducible repeat (first | refine blk_drewN ?_ _ | refine blk_drew ?_ | refine blk_alloc ?_ _)); exact BK127.out⟩, ⟨by repeat (first | (with_reducible first | exact HB.out | apply below_alloc | apply pw_below_drewN | apply below_drew1 | refine below_set ?_ GE126.out | refine below_set ?_ GE127.out) | exact HB.out)⟩⟩
        case round =>
          clear H'
          try clear c1
          try clear p2
          try clear c7
          try clear c8
          try clear c13
          try clear c16
          try clear hcz10_0
          try clear hcz10_1
          try clear hcz10_2
          try clear hcz10_3
          try clear hcz10_4
          try clear hcz10_5
          try clear hcz10_6
          try clear hcz10_7
          try clear hcz9_0
          try clear hcz9_1
          try clear hcz9_2
          try clear hfz10_0
          try clear hfz10_1
          try clear hfz10_2
          try clear hfz10_3
          try clear hfz10_4
          try clear hfz10_5
          try clear hfz10_6
          try clear hfz10_7
          try clear hfz9_0
          try clear hfz9_1
          try clear hfz9_2
          try clear p2
          obtain ⟨x9_2, x10_2, rfl, rfl, HA, HK2, HO_7, BK126, BK127, HB⟩ := hrel
          cases gk with
          | zero => exact absurd HA.out (by simp [spillwaylaw06_WindowPlain.l0])
          | succ k2 =>
            have H := HA.out
            clear HA
            simp only [spillwaylaw06_WindowPlain.l0] at H
            by_cases c17 : (wrap64 (x10_2 + 1)) < (t128.length : Int)
            · rw [if_pos c17] at H
              have c17b0 : decide ((wrap64 (x10_2 + 1)) < (t128.length : Int)) = true := decide_eq_true c17
              clear c17
              obtain ⟨ji18, hji18⟩ : ∃ j_ : Int, (wrap64 (x10_2 + 1)) = j_ := ⟨_, rfl⟩
              replace H : (if 0 ≤ (ji18) then (if (rd t128 (ji18)) < 0 then (spillwaylaw06_WindowPlain.l0 k2 a2 t128 x9_2 (wrap64 (x10_2 + 2)) a0_0 a0_1 a0_2 a1_0 a1_1 a1_2 a1_3 a1_4 a1_5 a1_6 a1_7) else (if a0_1 < 1 then (spillwaylaw06_WindowPlain.j2 k2 a2 t128 (wrap64 (x9_2 + 1)) x10_2 (rd t128 (ji18)) true a0_0 a0_1 a0_2 a1_0 a1_1 a1_2 a1_3 a1_4 a1_5 a1_6 a1_7) else (spillwaylaw06_WindowPlain.j2 k2 a2 t128 (wrap64 (x9_2 + 1)) x10_2 (rd t128 (ji18)) (decide ((rd t128 (ji18)) ≥ (wrap64 (a0_0 * a0_1)))) a0_0 a0_1 a0_2 a1_0 a1_1 a1_2 a1_3 a1_4 a1_5 a1_6 a1_7))) else (none)) = some r := by first | (rw [hji18] at H; exact H) | (simp only [hji18] at H ⊢; exact H)
              (try rw [hji18] at c17b0)
              have hji18w : (IntKind.i64.wrap (x10_2 + 1)) = ji18 := (i64_w _).trans hji18
              by_cases c19 : 0 ≤ (ji18)
              · rw [if_pos c19] at H
                have c19b0 : decide (0 ≤ (ji18)) = true := decide_eq_true c19
                clear c19
                by_cases c20 : (rd t128 (ji18)) < 0
                · rw [if_pos c20] at H
                  have c20b0 : decide ((rd t128 (ji18)) < 0) = true := decide_eq_true c20
                  clear c20
                  have H' := Aside0.mk H
                  clear H
                  obtain ⟨Ao21, co21, eo21⟩ := Kd.R_slice HO_7.out
                  subst eo21
                  have p137 : 0 ≤ ((ji18) : Int) := of_decide_eq_true (by first | (with_reducible assumption) | assumption)
                  have q137 : (ji18) < (t128.length : Int) := of_decide_eq_true (by first | (with_reducible assumption) | assumption)
                  obtain ⟨ad137, e137, hx137_0⟩ := Kd.at_int (Kd.R_reads' HO_7.out).2.2 (ji18) p137 q137
                  cases e137
                  replace p137 := eq_true p137
                  replace q137 := eq_true q137
                  go_wp2
                  repeat (go_quiet (fail); try go_wp2)
                  go_roundg k2
                  case measure => have := HJ4.out; have := HK2.out; omega
                  case rel => exact ⟨(x9_2), (wrap64 (x10_2 + 2)), (by first | rfl | (simp; done) | (simp [*]; done)), (by first | rfl | (simp; done) | (simp [*]; done)), H', ⟨by have := HJ4.out; have := HK2.out; omega⟩, ⟨by (with_reducible repeat (first | apply Kd.R_alloc | apply Kd.R_drewN | apply Kd.R_drew)); exact HO_7.out⟩, ⟨by (with_reducible repeat (first | refine blk_drewN ?_ _ | refine blk_drew ?_ | refine blk_alloc ?_ _)); exact BK126.out⟩, ⟨by (with_reducible repeat (first | refine blk_drewN ?_ _ | refine blk_drew ?_ | refine blk_alloc ?_ _)); exact BK127.out⟩, ⟨by repeat (first | (with_reducible first | exact HB.out | apply below_alloc | apply pw_below_drewN | apply below_drew1 | refine below_set ?_ GE126.out | refine below_set ?_ GE127.out) | exact HB.out)⟩⟩
                · rw [if_neg c20] at H
                  have c20b0 : decide ((rd t128 (ji18)) < 0) = false := decide_eq_false c20
                  clear c20
                  have HC22 := Aside0.mk H
                  clear H
                  obtain ⟨Ao23, co23, eo23⟩ := Kd.R_slice HO_7.out
                  subst eo23
                  have p137 : 0 ≤ ((ji18) : Int) := of_decide_eq_true (by first | (with_reducible assumption) | assumption)
                  have q137 : (ji18) < (t128.length : Int) := of_decide_eq_true (by first | (with_reducible assumption) | assumption)
                  obtain ⟨ad137, e137, hx137_0⟩ := Kd.at_int (Kd.R_reads' HO_7.out).2.2 (ji18) p137 q137
                  cases e137
                  replace p137 := eq_true p137
                  replace q137 := eq_true q137
                  go_upto_region 11 with (fail)
                  repeat (go_quiet (fail); go_upto_region 11 with (fail))
                  go_cut [56] (fun v56 wc => ∃ (kq : Nat) (x56_21 : Bool), v56 = .bool x56_21 ∧ Aside0 (spillwaylaw06_WindowPlain.j2 kq a2 t128 (wrap64 (x9_2 + 1)) x10_2 (rd t128 (ji18)) x56_21 a0_0 a0_1 a0_2 a1_0 a1_1 a1_2 a1_3 a1_4 a1_5 a1_6 a1_7 = some r) ∧ Aside0 (kq ≤ k2) ∧ Aside0 (Kd.R (Kd.int .i64) 3 wc w.heap.size (fun _ => True) (.slice (some ad137) t128.length co23) t128) ∧ Aside0 (wc.heap[gb126]? = some (.cells #[.int .i64 a0_0, .int .i64 a0_1, .int .i64 a0_2] 23 (0, 0))) ∧ Aside0 (wc.heap[gb127]? = some (.cells #[.int .i64 a1_0, .int .i64 a1_1, .int .i64 a1_2, .int .i64 a1_3, .int .i64 a1_4, .int .i64 a1_5, .int .i64 a1_6, .int .i64 a1_7] 25 (0, 0))) ∧ Aside0 (Below w.heap.size w wc))
                  case first =>
                    have H := HC22.out
                    clear HC22
                    by_cases c24 : a0_1 < 1
                    · rw [if_pos c24] at H
                      have c24b0 : decide (a0_1 < 1) = true := decide_eq_true c24
                      clear c24
                      (first | rw [c24b0] | (simp only [i64_w, i32_w]; rw [c24b0]) | skip)
                      have H' := Aside0.mk H
                      clear H
                      have hnb25 := NB126_127.out
                      have hnc25 := NB127_126.out
                      have hcz26_0 : wr.cell? ⟨gb126, 0, none⟩ = some (.int .i64 a0_0) := (blk_cell BK126.out 0).trans rfl
                      have hcz26_1 : wr.cell? ⟨gb126, 1, none⟩ = some (.int .i64 a0_1) := (blk_cell BK126.out 1).trans rfl
                      have hcz26_2 : wr.cell? ⟨gb126, 2, none⟩ = some (.int .i64 a0_2) := (blk_cell BK126.out 2).trans rfl
                      have hfz26_0 := blk_frozen BK126.out 0
                      have hfz26_1 := blk_frozen BK126.out 1
                      have hfz26_2 := blk_frozen BK126.out 2
                      go_wp2
                      repeat (go_quiet (fail); try go_wp2)
                      go_meet
                      case rel => exact ⟨_, (true), (by first | rfl | (simp; done) | (simp [*]; done)), H', ⟨by have := HJ4.out; have := HK2.out; first | omega | exact Nat.le_refl _⟩, ⟨by (with_reducible repeat (first | apply Kd.R_alloc | apply Kd.R_drewN | apply Kd.R_drew)); exact HO_7.out⟩, ⟨by (with_reducible repeat (first | refine blk_drewN ?_ _ | refine blk_drew ?_ | refine blk_alloc ?_ _)); exact BK126.out⟩, ⟨by (with_reducible repeat (first | refine blk_drewN ?_ _ | refine blk_drew ?_ | refine blk_alloc ?_ _)); exact BK127.out⟩, ⟨by repeat (first | (with_reducible first | exact HB.out | apply below_alloc | apply pw_below_drewN | apply below_drew1 | refine below_set ?_ GE126.out | refine below_set ?_ GE127.out) | exact HB.out)⟩⟩
                    · rw [if_neg c24] at H
                      have c24b0 : decide (a0_1 < 1) = false := decide_eq_false c24
                      clear c24
                      (first | rw [c24b0] | (simp only [i64_w, i32_w]; rw [c24b0]) | skip)
                      have H' := Aside0.mk H
                      clear H
                      have hnb27 := NB126_127.out
                      have hnc27 := NB127_126.out
                      have hcz28_0 : wr.cell? ⟨gb126, 0, none⟩ = some (.int .i64 a0_0) := (blk_cell BK126.out 0).trans rfl
                      have hcz28_1 : wr.cell? ⟨gb126, 1, none⟩ = some (.int .i64 a0_1) := (blk_cell BK126.out 1).trans rfl
                      have hcz28_2 : wr.cell? ⟨gb126, 2, none⟩ = some (.int .i64 a0_2) := (blk_cell BK126.out 2).trans rfl
                      have hfz28_0 := blk_frozen BK126.out 0
                      have hfz28_1 := blk_frozen BK126.out 1
                      have hfz28_2 := blk_frozen BK126.out 2
                      go_wp2
                      repeat (go_quiet (fail); try go_wp2)
                      go_meet
                      case rel => exact ⟨_, (decide ((rd t128 (ji18)) ≥ (wrap64 (a0_0 * a0_1)))), (by first | rfl | (simp; done) | (simp only [← hji18] <;> (first | rfl | simp)) | (simp [*]; done)), H', ⟨by have := HJ4.out; have := HK2.out; first | omega | exact Nat.le_refl _⟩, ⟨by (with_reducible repeat (first | apply Kd.R_alloc | apply Kd.R_drewN | apply Kd.R_drew)); exact HO_7.out⟩, ⟨by (with_reducible repeat (first | refine blk_drewN ?_ _ | refine blk_drew ?_ | refine blk_alloc ?_ _)); exact BK126.out⟩, ⟨by (with_reducible repeat (first | refine blk_drewN ?_ _ | refine blk_drew ?_ | refine blk_alloc ?_ _)); exact BK127.out⟩, ⟨by repeat (first | (with_reducible first | exact HB.out | apply below_alloc | apply pw_below_drewN | apply below_drew1 | refine below_set ?_ GE126.out | refine below_set ?_ GE127.out) | exact HB.out)⟩⟩
                  case rest =>
                    clear HC22
                    try clear c1
                    try clear p1
                    try clear q1
                    try clear hx1
                    try clear c2
                    try clear p2
                    try clear p6
                    try clear c7
                    try clear c8
                    try clear c13
                    try clear p13
                    try clear q13
                    try clear hx13
                    try clear c16
                    try clear c17
                    try clear c17b0
                    try clear c19
                    try clear c19b0
                    try clear c20
                    try clear c20b0
                    try clear c24
                    try clear c24b0
                    try clear c25
                    try clear c27
                    try clear hcz10_0
                    try clear hcz10_1
                    try clear hcz10_2
                    try clear hcz10_3
                    try clear hcz10_4
                    try clear hcz10_5
                    try clear hcz10_6
                    try clear hcz10_7
                    try clear hcz26_0
                    try clear hcz26_1
                    try clear hcz26_2
                    try clear hcz28_0
                    try clear hcz28_1
                    try clear hcz28_2
                    try clear hcz9_0
                    try clear hcz9_1
                    try clear hcz9_2
                    try clear hfz10_0
                    try clear hfz10_1
                    try clear hfz10_2
                    try clear hfz10_3
                    try clear hfz10_4
                    try clear hfz10_5
                    try clear hfz10_6
                    try clear hfz10_7
                    try clear hfz26_0
                    try clear hfz26_1
                    try clear hfz26_2
                    try clear hfz28_0
                    try clear hfz28_1
                    try clear hfz28_2
                    try clear hfz9_0
                    try clear hfz9_1
                    try clear hfz9_2
                    try clear hx137_0
                    try clear p137
                    try clear p2
                    try clear q137
                    obtain ⟨kq, x56_21, rfl, HA, HJ21, HO_7, BK126, BK127, HB⟩ := hcut
                    cases kq with
                    | zero => exact absurd HA.out (by simp [spillwaylaw06_WindowPlain.j2])
                    | succ kj21 =>
                      have H := HA.out
                      clear HA
                      simp only [spillwaylaw06_WindowPlain.j2] at H
                      by_cases c29 : x56_21 = true
                      · subst c29
                        have H1 : (some false) = some r := by rw [if_pos rfl] at H; exact H
                        clear H
                        have H := H1
                        clear H1
                        exact absurd ((Option.some.inj H).trans HRT.out) Bool.false_ne_true
                      · replace c29 := Bool.eq_false_iff.mpr c29
                        subst c29
                        have H1 : (spillwaylaw06_WindowPlain.l1 kj21 a2 t128 (wrap64 (x9_2 + 1)) x10_2 (rd t128 (ji18)) 0 a0_0 a0_1 a0_2 a1_0 a1_1 a1_2 a1_3 a1_4 a1_5 a1_6 a1_7) = some r := by rw [if_neg (show ¬ (false = true) by decide)] at H; exact H
                        clear H
                        have H := H1
                        clear H1
                        have H' := Aside0.mk H
                        clear H
                        go_wp2
                        repeat (go_quiet (fail); try go_wp2)
                        go_loopg [12] kj21 (fun kq v12 w' => ∃ (x12_4 : Int), v12 = .int .i64 x12_4 ∧ Aside0 (spillwaylaw06_WindowPlain.l1 kq a2 t128 (wrap64 (x9_2 + 1)) x10_2 (rd t128 (ji18)) x12_4 a0_0 a0_1 a0_2 a1_0 a1_1 a1_2 a1_3 a1_4 a1_5 a1_6 a1_7 = some r) ∧ Aside0 (kq ≤ kj21) ∧ Aside0 (Kd.R (Kd.int .i64) 3 w' w.heap.size (fun _ => True) (.slice (some ad137) t128.length co23) t128) ∧ Aside0 (w'.heap[gb126]? = some (.cells #[.int .i64 a0_0, .int .i64 a0_1, .int .i64 a0_2] 23 (0, 0))) ∧ Aside0 (w'.heap[gb127]? = some (.cells #[.int .i64 a1_0, .int .i64 a1_1, .int .i64 a1_2, .int .i64 a1_3, .int .i64 a1_4, .int .i64 a1_5, .int .i64 a1_6, .int .i64 a1_7] 25 (0, 0))) ∧ Aside0 (Below w.heap.size w w'))
                        case atStart => exact ⟨(0), (by first | rfl | (simp; done) | (simp [*]; done)), H', ⟨Nat.le_refl _⟩, ⟨by (with_reducible repeat (first | apply Kd.R_alloc | apply Kd.R_drewN | apply Kd.R_drew)); exact HO_7.out⟩, ⟨by (with_reducible repeat (first | refine blk_drewN ?_ _ | refine blk_drew ?_ | refine blk_alloc ?_ _)); exact BK126.out⟩, ⟨by (with_reducible repeat (first | refine blk_drewN ?_ _ | refine blk_drew ?_ | refine blk_alloc ?_ _)); exact BK127.out⟩, ⟨by repeat (first | (with_reducible first | exact HB.out | apply below_alloc | apply pw_below_drewN | apply below_drew1 | refine below_set ?_ GE126.out | refine below_set ?_ GE127.out) | exact HB.out)⟩⟩
                        case round =>
                          clear H'
                          try clear c1
                          try clear p1
                          try clear q1
                          try clear hx1
                          try clear c2
                          try clear p2
                          try clear p6
                          try clear c7
                          try clear c8
                          try clear c13
                          try clear p13
                          try clear q13
                          try clear hx13
                          try clear c16
                          try clear c17
                          try clear c17b0
                          try clear c19
                          try clear c19b0
                          try clear c20
                          try clear c20b0
                          try clear c24
                          try clear c24b0
                          try clear c25
                          try clear c27
                          try clear c29
                          try clear hcz10_0
                          try clear hcz10_1
                          try clear hcz10_2
                          try clear hcz10_3
                          try clear hcz10_4
                          try clear hcz10_5
                          try clear hcz10_6
                          try clear hcz10_7
                          try clear hcz26_0
                          try clear hcz26_1
                          try clear hcz26_2
                          try clear hcz28_0
                          try clear hcz28_1
                          try clear hcz28_2
                          try clear hcz9_0
                          try clear hcz9_1
                          try clear hcz9_2
                          try clear hfz10_0
                          try clear hfz10_1
                          try clear hfz10_2
                          try clear hfz10_3
                          try clear hfz10_4
                          try clear hfz10_5
                          try clear hfz10_6
                          try clear hfz10_7
                          try clear hfz26_0
                          try clear hfz26_1
                          try clear hfz26_2
                          try clear hfz28_0
                          try clear hfz28_1
                          try clear hfz28_2
                          try clear hfz9_0
                          try clear hfz9_1
                          try clear hfz9_2
                          try clear hx137_0
                          try clear p1
                          try clear p13
                          try clear p137
                          try clear p2
                          try clear p6
                          try clear q1
                          try clear q13
                          try clear q137
                          obtain ⟨x12_4, rfl, HA, HK4, HO_7, BK126, BK127, HB⟩ := hrel
                          cases gk with
                          | zero => exact absurd HA.out (by simp [spillwaylaw06_WindowPlain.l1])
                          | succ k4 =>
                            have H := HA.out
                            clear HA
                            simp only [spillwaylaw06_WindowPlain.l1] at H
                            by_cases c30 : x12_4 < x10_2
                            · rw [if_pos c30] at H
                              have c30b0 : decide (x12_4 < x10_2) = true := decide_eq_true c30
                              clear c30
                              obtain ⟨ji31, hji31⟩ : ∃ j_ : Int, (wrap64 (x12_4 + 1)) = j_ := ⟨_, rfl⟩
                              replace H : (if 0 ≤ (ji31) then (if (ji31) < (t128.length : Int) then (if (rd t128 (ji31)) ≥ 0 then (if a0_1 = 0 then (none) else (if 0 ≤ x10_2 then (if x10_2 < (t128.length : Int) then (if a1_1 = 0 then (none) else (if 0 ≤ x12_4 then (if x12_4 < (t128.length : Int) then (if (wrap64 ((wrap64 (Int.tdiv (rd t128 (ji18)) a0_1)) - (wrap64 (Int.tdiv (rd t128 (ji31)) a0_1)))) = (wrap64 ((wrap64 (Int.tdiv (rd t128 x10_2) a1_1)) - (wrap64 (Int.tdiv (rd t128 x12_4) a1_1)))) then (if (wrap64 ((Int.tmod (rd t128 (ji18)) a0_1) - (Int.tmod (rd t128 (ji31)) a0_1))) = (wrap64 ((Int.tmod (rd t128 x10_2) a1_1) - (Int.tmod (rd t128 x12_4) a1_1))) then (spillwaylaw06_WindowPlain.l1 k4 a2 t128 (wrap64 (x9_2 + 1)) x10_2 (rd t128 (ji18)) (wrap64 (x12_4 + 2)) a0_0 a0_1 a0_2 a1_0 a1_1 a1_2 a1_3 a1_4 a1_5 a1_6 a1_7) else (some false)) else (some false)) else (none)) else (none))) else (none)) else (none))) else (spillwaylaw06_WindowPlain.l1 k4 a2 t128 (wrap64 (x9_2 + 1)) x10_2 (rd t128 (ji18)) (wrap64 (x12_4 + 2)) a0_0 a0_1 a0_2 a1_0 a1_1 a1_2 a1_3 a1_4 a1_5 a1_6 a1_7)) else (none)) else (none)) = some r := by first | (rw [hji31] at H; exact H) | (simp only [hji31] at H ⊢; exact H)
                              have hji31w : (IntKind.i64.wrap (x12_4 + 1)) = ji31 := (i64_w _).trans hji31
                              by_cases c32 : 0 ≤ (ji31)
                              · rw [if_pos c32] at H
                                have c32b0 : decide (0 ≤ (ji31)) = true := decide_eq_true c32
                                clear c32
                                by_cases c33 : (ji31) < (t128.length : Int)
                                · rw [if_pos c33] at H
                                  have c33b0 : decide ((ji31) < (t128.length : Int)) = true := decide_eq_true c33
                                  clear c33
                                  by_cases c34 : (rd t128 (ji31)) ≥ 0
                                  · rw [if_pos c34] at H
                                    have c34b0 : decide (0 ≤ (rd t128 (ji31))) = true := decide_eq_true c34
                                    clear c34
                                    by_cases c35 : a0_1 = 0
                                    · rw [if_pos c35] at H
                                      exact absurd H (by simp)
                                    · rw [if_neg c35] at H
                                      have c35b0 : (a0_1 == 0) = false := beq_eq_false_iff_ne.mpr c35
                                      have c35b1 : (a0_1 != 0) = true := bne_iff_ne.mpr c35
                                      by_cases c36 : 0 ≤ x10_2
                                      · rw [if_pos c36] at H
                                        have c36b0 : decide (0 ≤ x10_2) = true := decide_eq_true c36
                                        clear c36
                                        by_cases c37 : x10_2 < (t128.length : Int)
                                        · rw [if_pos c37] at H
                                          have c37b0 : decide (x10_2 < (t128.length : Int)) = true := decide_eq_true c37
                                          clear c37
                                          by_cases c38 : a1_1 = 0
                                          · rw [if_pos c38] at H
                                            exact absurd H (by simp)
                                          · rw [if_neg c38] at H
                                            have c38b0 : (a1_1 == 0) = false := beq_eq_false_iff_ne.mpr c38
                                            have c38b1 : (a1_1 != 0) = true := bne_iff_ne.mpr c38
                                            by_cases c39 : 0 ≤ x12_4
                                            · rw [if_pos c39] at H
                                              have c39b0 : decide (0 ≤ x12_4) = true := decide_eq_true c39
                                              clear c39
                                              by_cases c40 : x12_4 < (t128.length : Int)
                                              · rw [if_pos c40] at H
                                                have c40b0 : decide (x12_4 < (t128.length : Int)) = true := decide_eq_true c40
                                                clear c40
                                                by_cases c41 : (wrap64 ((wrap64 (Int.tdiv (rd t128 (ji18)) a0_1)) - (wrap64 (Int.tdiv (rd t128 (ji31)) a0_1)))) = (wrap64 ((wrap64 (Int.tdiv (rd t128 x10_2) a1_1)) - (wrap64 (Int.tdiv (rd t128 x12_4) a1_1))))
                                                · rw [if_pos c41] at H
                                                  have c41b0 : ((wrap64 ((wrap64 (Int.tdiv (rd t128 (ji18)) a0_1)) - (wrap64 (Int.tdiv (rd t128 (ji31)) a0_1)))) == (wrap64 ((wrap64 (Int.tdiv (rd t128 x10_2) a1_1)) - (wrap64 (Int.tdiv (rd t128 x12_4) a1_1))))) = true := beq_iff_eq.mpr c41
                                                  have c41b1 : ((wrap64 ((wrap64 (Int.tdiv (rd t128 (ji18)) a0_1)) - (wrap64 (Int.tdiv (rd t128 (ji31)) a0_1)))) != (wrap64 ((wrap64 (Int.tdiv (rd t128 x10_2) a1_1)) - (wrap64 (Int.tdiv (rd t128 x12_4) a1_1))))) = false := bne_eq_false_iff_eq.mpr c41
                                                  clear c41
                                                  by_cases c42 : (wrap64 ((Int.tmod (rd t128 (ji18)) a0_1) - (Int.tmod (rd t128 (ji31)) a0_1))) = (wrap64 ((Int.tmod (rd t128 x10_2) a1_1) - (Int.tmod (rd t128 x12_4) a1_1)))
                                                  · rw [if_pos c42] at H
                                                    have c42b0 : ((wrap64 ((Int.tmod (rd t128 (ji18)) a0_1) - (Int.tmod (rd t128 (ji31)) a0_1))) == (wrap64 ((Int.tmod (rd t128 x10_2) a1_1) - (Int.tmod (rd t128 x12_4) a1_1)))) = true := beq_iff_eq.mpr c42
                                                    have c42b1 : ((wrap64 ((Int.tmod (rd t128 (ji18)) a0_1) - (Int.tmod (rd t128 (ji31)) a0_1))) != (wrap64 ((Int.tmod (rd t128 x10_2) a1_1) - (Int.tmod (rd t128 x12_4) a1_1)))) = false := bne_eq_false_iff_eq.mpr c42
                                                    clear c42
                                                    have H' := Aside0.mk H
                                                    clear H
                                                    have p138 : 0 ≤ ((ji31) : Int) := of_decide_eq_true (by first | (with_reducible assumption) | assumption)
                                                    have q138 : (ji31) < (t128.length : Int) := of_decide_eq_true (by first | (with_reducible assumption) | assumption)
                                                    obtain ⟨ad138, e138, hx138_0⟩ := Kd.at_int (Kd.R_reads' HO_7.out).2.2 (ji31) p138 q138
                                                    obtain rfl : ad137 = ad138 := (by injection e138)
                                                    replace p138 := eq_true p138
                                                    replace q138 := eq_true q138
                                                    have hnb43 := NB126_127.out
                                                    have hnc43 := NB127_126.out
                                                    have hcz44_0 : wr.cell? ⟨gb126, 0, none⟩ = some (.int .i64 a0_0) := (blk_cell BK126.out 0).trans rfl
                                                    have hcz44_1 : wr.cell? ⟨gb126, 1, none⟩ = some (.int .i64 a0_1) := (blk_cell BK126.out 1).trans rfl
                                                    have hcz44_2 : wr.cell? ⟨gb126, 2, none⟩ = some (.int .i64 a0_2) := (blk_cell BK126.out 2).trans rfl
                                                    have hfz44_0 := blk_frozen BK126.out 0
                                                    have hfz44_1 := blk_frozen BK126.out 1
                                                    have hfz44_2 := blk_frozen BK126.out 2
                                                    have p139 : 0 ≤ (x10_2 : Int) := of_decide_eq_true (by first | (with_reducible assumption) | assumption)
                                                    have q139 : x10_2 < (t128.length : Int) := of_decide_eq_true (by first | (with_reducible assumption) | assumption)
                                                    obtain ⟨ad139, e139, hx139_0⟩ := Kd.at_int (Kd.R_reads' HO_7.out).2.2 x10_2 p139 q139
                                                    obtain rfl : ad137 = ad139 := (by injection e139)
                                                    replace p139 := eq_true p139
                                                    replace q139 := eq_true q139
                                                    have hcz45_0 : wr.cell? ⟨gb127, 0, none⟩ = some (.int .i64 a1_0) := (blk_cell BK127.out 0).trans rfl
                                                    have hcz45_1 : wr.cell? ⟨gb127, 1, none⟩ = some (.int .i64 a1_1) := (blk_cell BK127.out 1).trans rfl
                                                    have hcz45_2 : wr.cell? ⟨gb127, 2, none⟩ = some (.int .i64 a1_2) := (blk_cell BK127.out 2).trans rfl
                                                    have hcz45_3 : wr.cell? ⟨gb127, 3, none⟩ = some (.int .i64 a1_3) := (blk_cell BK127.out 3).trans rfl
                                                    have hcz45_4 : wr.cell? ⟨gb127, 4, none⟩ = some (.int .i64 a1_4) := (blk_cell BK127.out 4).trans rfl
                                                    have hcz45_5 : wr.cell? ⟨gb127, 5, none⟩ = some (.int .i64 a1_5) := (blk_cell BK127.out 5).trans rfl
                                                    have hcz45_6 : wr.cell? ⟨gb127, 6, none⟩ = some (.int .i64 a1_6) := (blk_cell BK127.out 6).trans rfl
                                                    have hcz45_7 : wr.cell? ⟨gb127, 7, none⟩ = some (.int .i64 a1_7) := (blk_cell BK127.out 7).trans rfl
                                                    have hfz45_0 := blk_frozen BK127.out 0
                                                    have hfz45_1 := blk_frozen BK127.out 1
                                                    have hfz45_2 := blk_frozen BK127.out 2
                                                    have hfz45_3 := blk_frozen BK127.out 3
                                                    have hfz45_4 := blk_frozen BK127.out 4
                                                    have hfz45_5 := blk_frozen BK127.out 5
                                                    have hfz45_6 := blk_frozen BK127.out 6
                                                    have hfz45_7 := blk_frozen BK127.out 7
                                                    have p140 : 0 ≤ (x12_4 : Int) := of_decide_eq_true (by first | (with_reducible assumption) | assumption)
                                                    have q140 : x12_4 < (t128.length : Int) := of_decide_eq_true (by first | (with_reducible assumption) | assumption)
                                                    obtain ⟨ad140, e140, hx140_0⟩ := Kd.at_int (Kd.R_reads' HO_7.out).2.2 x12_4 p140 q140
                                                    obtain rfl : ad137 = ad140 := (by injection e140)
                                                    replace p140 := eq_true p140
                                                    replace q140 := eq_true q140
                                                    have p141 : 0 ≤ (x10_2 : Int) := of_decide_eq_true (by first | (with_reducible assumption) | assumption)
                                                    have q141 : x10_2 < (t128.length : Int) := of_decide_eq_true (by first | (with_reducible assumption) | assumption)
                                                    obtain ⟨ad141, e141, hx141_0⟩ := Kd.at_int (Kd.R_reads' HO_7.out).2.2 x10_2 p141 q141
                                                    obtain rfl : ad137 = ad141 := (by injection e141)
                                                    replace p141 := eq_true p141
                                                    replace q141 := eq_true q141
                                                    have p142 : 0 ≤ (x12_4 : Int) := of_decide_eq_true (by first | (with_reducible assumption) | assumption)
                                                    have q142 : x12_4 < (t128.length : Int) := of_decide_eq_true (by first | (with_reducible assumption) | assumption)
                                                    obtain ⟨ad142, e142, hx142_0⟩ := Kd.at_int (Kd.R_reads' HO_7.out).2.2 x12_4 p142 q142
                                                    obtain rfl : ad137 = ad142 := (by injection e142)
                                                    replace p142 := eq_true p142
                                                    replace q142 := eq_true q142
                                                    go_wp2
                                                    repeat (go_quiet (fail); try go_wp2)
                                                    go_roundg k4
                                                    case measure => have := HJ4.out; have := HK2.out; have := HJ21.out; have := HK4.out; omega
                                                    case rel => exact ⟨(wrap64 (x12_4 + 2)), (by first | rfl | (simp; done) | (simp [*]; done)), H', ⟨by have := HJ4.out; have := HK2.out; have := HJ21.out; have := HK4.out; omega⟩, ⟨by (with_reducible repeat (first | apply Kd.R_alloc | apply Kd.R_drewN | apply Kd.R_drew)); exact HO_7.out⟩, ⟨by (with_reducible repeat (first | refine blk_drewN ?_ _ | refine blk_drew ?_ | refine blk_alloc ?_ _)); exact BK126.out⟩, ⟨by (with_reducible repeat (first | refine blk_drewN ?_ _ | refine blk_drew ?_ | refine blk_alloc ?_ _)); exact BK127.out⟩, ⟨by repeat (first | (with_reducible first | exact HB.out | apply below_alloc | apply pw_below_drewN | apply below_drew1 | refine below_set ?_ GE126.out | refine below_set ?_ GE127.out) | exact HB.out)⟩⟩
                                                  · rw [if_neg c42] at H
                                                    have c42b0 : ((wrap64 ((Int.tmod (rd t128 (ji18)) a0_1) - (Int.tmod (rd t128 (ji31)) a0_1))) == (wrap64 ((Int.tmod (rd t128 x10_2) a1_1) - (Int.tmod (rd t128 x12_4) a1_1)))) = false := beq_eq_false_iff_ne.mpr c42
                                                    have c42b1 : ((wrap64 ((Int.tmod (rd t128 (ji18)) a0_1) - (Int.tmod (rd t128 (ji31)) a0_1))) != (wrap64 ((Int.tmod (rd t128 x10_2) a1_1) - (Int.tmod (rd t128 x12_4) a1_1)))) = true := bne_iff_ne.mpr c42
                                                    exact absurd ((Option.some.inj H).trans HRT.out) Bool.false_ne_true
                                                · rw [if_neg c41] at H
                                                  have c41b0 : ((wrap64 ((wrap64 (Int.tdiv (rd t128 (ji18)) a0_1)) - (wrap64 (Int.tdiv (rd t128 (ji31)) a0_1)))) == (wrap64 ((wrap64 (Int.tdiv (rd t128 x10_2) a1_1)) - (wrap64 (Int.tdiv (rd t128 x12_4) a1_1))))) = false := beq_eq_false_iff_ne.mpr c41
                                                  have c41b1 : ((wrap64 ((wrap64 (Int.tdiv (rd t128 (ji18)) a0_1)) - (wrap64 (Int.tdiv (rd t128 (ji31)) a0_1)))) != (wrap64 ((wrap64 (Int.tdiv (rd t128 x10_2) a1_1)) - (wrap64 (Int.tdiv (rd t128 x12_4) a1_1))))) = true := bne_iff_ne.mpr c41
                                                  exact absurd ((Option.some.inj H).trans HRT.out) Bool.false_ne_true
                                              · rw [if_neg c40] at H
                                                exact absurd H (by simp)
                                            · rw [if_neg c39] at H
                                              exact absurd H (by simp)
                                        · rw [if_neg c37] at H
                                          exact absurd H (by simp)
                                      · rw [if_neg c36] at H
                                        exact absurd H (by simp)
                                  · rw [if_neg c34] at H
                                    have c34b0 : decide (0 ≤ (rd t128 (ji31))) = false := decide_eq_false c34
                                    clear c34
                                    have H' := Aside0.mk H
                                    clear H
                                    have p138 : 0 ≤ ((ji31) : Int) := of_decide_eq_true (by first | (with_reducible assumption) | assumption)
                                    have q138 : (ji31) < (t128.length : Int) := of_decide_eq_true (by first | (with_reducible assumption) | assumption)
                                    obtain ⟨ad138, e138, hx138_0⟩ := Kd.at_int (Kd.R_reads' HO_7.out).2.2 (ji31) p138 q138
                                    obtain rfl : ad137 = ad138 := (by injection e138)
                                    replace p138 := eq_true p138
                                    replace q138 := eq_true q138
                                    go_wp2
                                    repeat (go_quiet (fail); try go_wp2)
                                    go_roundg k4
                                    case measure => have := HJ4.out; have := HK2.out; have := HJ21.out; have := HK4.out; omega
                                    case rel => exact ⟨(wrap64 (x12_4 + 2)), (by first | rfl | (simp; done) | (simp [*]; done)), H', ⟨by have := HJ4.out; have := HK2.out; have := HJ21.out; have := HK4.out; omega⟩, ⟨by (with_reducible repeat (first | apply Kd.R_alloc | apply Kd.R_drewN | apply Kd.R_drew)); exact HO_7.out⟩, ⟨by (with_reducible repeat (first | refine blk_drewN ?_ _ | refine blk_drew ?_ | refine blk_alloc ?_ _)); exact BK126.out⟩, ⟨by (with_reducible repeat (first | refine blk_drewN ?_ _ | refine blk_drew ?_ | refine blk_alloc ?_ _)); exact BK127.out⟩, ⟨by repeat (first | (with_reducible first | exact HB.out | apply below_alloc | apply pw_below_drewN | apply below_drew1 | refine below_set ?_ GE126.out | refine below_set ?_ GE127.out) | exact HB.out)⟩⟩
                                · rw [if_neg c33] at H
                                  exact absurd H (by simp)
                              · rw [if_neg c32] at H
                                exact absurd H (by simp)
                            · rw [if_neg c30] at H
                              have c30b0 : decide (x12_4 < x10_2) = false := decide_eq_false c30
                              clear c30
                              by_cases c46 : x10_2 > 40
                              · rw [if_pos c46] at H
                                have c46b0 : decide (40 < x10_2) = true := decide_eq_true c46
                                clear c46
                                by_cases c47 : (t128.length : Int) > 0
                                · rw [if_pos c47] at H
                                  have c47b0 : decide (0 < (t128.length : Int)) = true := decide_eq_true c47
                                  have c47b1 : decide (0 < t128.length) = true := decide_eq_true (by omega)
                                  clear c47
                                  by_cases c48 : (t128.length : Int) = (wrap64 ((wrap64 (2 * a1_0)) * a1_1))
                                  · rw [if_pos c48] at H
                                    have c48b0 : ((t128.length : Int) == (wrap64 ((wrap64 (2 * a1_0)) * a1_1))) = true := beq_iff_eq.mpr c48
                                    have c48b1 : ((t128.length : Int) != (wrap64 ((wrap64 (2 * a1_0)) * a1_1))) = false := bne_eq_false_iff_eq.mpr c48
                                    clear c48
                                    replace H := Option.bind_eq_some_iff.mp H
                                    obtain ⟨⟨t143, t144⟩, A490, H⟩ := H
                                    replace H : (if ((t144 == 0) == (decide ((t128.length : Int) > 0))) = true then (if t144 = 0 then (if t143 ≥ 0 then (if t143 < (wrap64 (a1_0 * a1_1)) then (if (wrap64 (x9_2 + 1)) > 0 then (some true) else (some (decide ((t128.length : Int) > 40)))) else (some false)) else (some false)) else (some true)) else (some false)) = some r := H
                                    have A49 := Aside0.mk A490
                                    clear A490
                                    by_cases c50 : ((t144 == 0) == (decide ((t128.length : Int) > 0))) = true
                                    · rw [if_pos c50] at H
                                      have c50b0 : ((t144 == 0) == (decide ((t128.length : Int) > 0))) = true := c50
                                      (try (have c50b1 : decide ((t144 == 0) = (decide ((t128.length : Int) > 0))) = true := by simpa using c50))
                                      (try (have c50b2 : ((t144 == 0) == (decide ((t128.length : Int) > 0))) = true := by simpa using c50))
                                      clear c50
                                      by_cases c51 : t144 = 0
                                      · rw [if_pos c51] at H
                                        have c51b0 : (t144 == 0) = true := beq_iff_eq.mpr c51
                                        have c50x1 : (decide ((t128.length : Int) > 0)) = true := by have h_ := c50b0; rw [c51b0] at h_; simpa using h_
                                        have c51b1 : (t144 != 0) = false := bne_eq_false_iff_eq.mpr c51
                                        clear c51
                                        by_cases c52 : t143 ≥ 0
                                        · rw [if_pos c52] at H
                                          have c52b0 : decide (0 ≤ t143) = true := decide_eq_true c52
                                          clear c52
                                          by_cases c53 : t143 < (wrap64 (a1_0 * a1_1))
                                          · rw [if_pos c53] at H
                                            have c53b0 : decide (t143 < (wrap64 (a1_0 * a1_1))) = true := decide_eq_true c53
                                            clear c53
                                            by_cases c54 : (wrap64 (x9_2 + 1)) > 0
                                            · rw [if_pos c54] at H
                                              have c54b0 : decide (0 < (wrap64 (x9_2 + 1))) = true := decide_eq_true c54
                                              clear c54
                                              obtain rfl := Option.some.inj H
                                              have hnb55 := NB127_126.out
                                              have hnc55 := NB126_127.out
                                              have hcz56_0 : wr.cell? ⟨gb127, 0, none⟩ = some (.int .i64 a1_0) := (blk_cell BK127.out 0).trans rfl
                                              have hcz56_1 : wr.cell? ⟨gb127, 1, none⟩ = some (.int .i64 a1_1) := (blk_cell BK127.out 1).trans rfl
                                              have hcz56_2 : wr.cell? ⟨gb127, 2, none⟩ = some (.int .i64 a1_2) := (blk_cell BK127.out 2).trans rfl
                                              have hcz56_3 : wr.cell? ⟨gb127, 3, none⟩ = some (.int .i64 a1_3) := (blk_cell BK127.out 3).trans rfl
                                              have hcz56_4 : wr.cell? ⟨gb127, 4, none⟩ = some (.int .i64 a1_4) := (blk_cell BK127.out 4).trans rfl
                                              have hcz56_5 : wr.cell? ⟨gb127, 5, none⟩ = some (.int .i64 a1_5) := (blk_cell BK127.out 5).trans rfl
                                              have hcz56_6 : wr.cell? ⟨gb127, 6, none⟩ = some (.int .i64 a1_6) := (blk_cell BK127.out 6).trans rfl
                                              have hcz56_7 : wr.cell? ⟨gb127, 7, none⟩ = some (.int .i64 a1_7) := (blk_cell BK127.out 7).trans rfl
                                              have hfz56_0 := blk_frozen BK127.out 0
                                              have hfz56_1 := blk_frozen BK127.out 1
                                              have hfz56_2 := blk_frozen BK127.out 2
                                              have hfz56_3 := blk_frozen BK127.out 3
                                              have hfz56_4 := blk_frozen BK127.out 4
                                              have hfz56_5 := blk_frozen BK127.out 5
                                              have hfz56_6 := blk_frozen BK127.out 6
                                              have hfz56_7 := blk_frozen BK127.out 7
                                              have hcz57_0 : wr.cell? ⟨gb126, 0, none⟩ = some (.int .i64 a0_0) := (blk_cell BK126.out 0).trans rfl
                                              have hcz57_1 : wr.cell? ⟨gb126, 1, none⟩ = some (.int .i64 a0_1) := (blk_cell BK126.out 1).trans rfl
                                              have hcz57_2 : wr.cell? ⟨gb126, 2, none⟩ = some (.int .i64 a0_2) := (blk_cell BK126.out 2).trans rfl
                                              have hfz57_0 := blk_frozen BK126.out 0
                                              have hfz57_1 := blk_frozen BK126.out 1
                                              have hfz57_2 := blk_frozen BK126.out 2
                                              go_wp2_with (first | (go_at_call 24; (with_reducible refine (window_Padded.calls a0_0 a0_1 a0_2 a1_0 a1_1 a1_2 a1_3 a1_4 a1_5 a1_6 a1_7 a2 t143 t144 _ A49.out).mono ?_); rintro e w58 ⟨rfl, hb⟩; have n0_ := Aside0.mk (Kd.R_below (by (with_reducible repeat (first | apply Kd.R_alloc | apply Kd.R_drewN | apply Kd.R_drew)); exact HO_7.out) hb); have n1_ := Aside0.mk (blk_below (g := gb126) (o := .cells #[.int .i64 a0_0, .int .i64 a0_1, .int .i64 a0_2] 23 (0, 0)) (by (with_reducible repeat (first | refine blk_drewN ?_ _ | refine blk_drew ?_ | refine blk_alloc ?_ _)); exact BK126.out) hb); have n2_ := Aside0.mk (blk_below (g := gb127) (o := .cells #[.int .i64 a1_0, .int .i64 a1_1, .int .i64 a1_2, .int .i64 a1_3, .int .i64 a1_4, .int .i64 a1_5, .int .i64 a1_6, .int .i64 a1_7] 25 (0, 0)) (by (with_reducible repeat (first | refine blk_drewN ?_ _ | refine blk_drew ?_ | refine blk_alloc ?_ _)); exact BK127.out) hb); have n3_ := Aside0.mk (below_step (by repeat (first | (with_reducible first | exact HB.out | apply below_alloc | apply pw_below_drewN | apply below_drew1 | refine below_set ?_ GE126.out | refine below_set ?_ GE127.out) | exact HB.out)) hb); clear HO_7; clear BK126; clear BK127; clear HB; have HO_7 := n0_; have BK126 := n1_; have BK127 := n2_; have HB := n3_; clear n0_ n1_ n2_ n3_; (try clear hb); (try clear hb2); (try clear hk); (try clear hi); have hcz59_0 : w58.cell? ⟨gb127, 0, none⟩ = some (.int .i64 a1_0) := (blk_cell BK127.out 0).trans rfl; have hcz59_1 : w58.cell? ⟨gb127, 1, none⟩ = some (.int .i64 a1_1) := (blk_cell BK127.out 1).trans rfl; have hcz59_2 : w58.cell? ⟨gb127, 2, none⟩ = some (.int .i64 a1_2) := (blk_cell BK127.out 2).trans rfl; have hcz59_3 : w58.cell? ⟨gb127, 3, none⟩ = some (.int .i64 a1_3) := (blk_cell BK127.out 3).trans rfl; have hcz59_4 : w58.cell? ⟨gb127, 4, none⟩ = some (.int .i64 a1_4) := (blk_cell BK127.out 4).trans rfl; have hcz59_5 : w58.cell? ⟨gb127, 5, none⟩ = some (.int .i64 a1_5) := (blk_cell BK127.out 5).trans rfl; have hcz59_6 : w58.cell? ⟨gb127, 6, none⟩ = some (.int .i64 a1_6) := (blk_cell BK127.out 6).trans rfl; have hcz59_7 : w58.cell? ⟨gb127, 7, none⟩ = some (.int .i64 a1_7) := (blk_cell BK127.out 7).trans rfl; have hfz59_0 := blk_frozen BK127.out 0; have hfz59_1 := blk_frozen BK127.out 1; have hfz59_2 := blk_frozen BK127.out 2; have hfz59_3 := blk_frozen BK127.out 3; have hfz59_4 := blk_frozen BK127.out 4; have hfz59_5 := blk_frozen BK127.out 5; have hfz59_6 := blk_frozen BK127.out 6; have hfz59_7 := blk_frozen BK127.out 7))
                                              repeat (go_quiet (first | (go_at_call 24; (with_reducible refine (window_Padded.calls a0_0 a0_1 a0_2 a1_0 a1_1 a1_2 a1_3 a1_4 a1_5 a1_6 a1_7 a2 t143 t144 _ A49.out).mono ?_); rintro e w58 ⟨rfl, hb⟩; have n0_ := Aside0.mk (Kd.R_below (by (with_reducible repeat (first | apply Kd.R_alloc | apply Kd.R_drewN | apply Kd.R_drew)); exact HO_7.out) hb); have n1_ := Aside0.mk (blk_below (g := gb126) (o := .cells #[.int .i64 a0_0, .int .i64 a0_1, .int .i64 a0_2] 23 (0, 0)) (by (with_reducible repeat (first | refine blk_drewN ?_ _ | refine blk_drew ?_ | refine blk_alloc ?_ _)); exact BK126.out) hb); have n2_ := Aside0.mk (blk_below (g := gb127) (o := .cells #[.int .i64 a1_0, .int .i64 a1_1, .int .i64 a1_2, .int .i64 a1_3, .int .i64 a1_4, .int .i64 a1_5, .int .i64 a1_6, .int .i64 a1_7] 25 (0, 0)) (by (with_reducible repeat (first | refine blk_drewN ?_ _ | refine blk_drew ?_ | refine blk_alloc ?_ _)); exact BK127.out) hb); have n3_ := Aside0.mk (below_step (by repeat (first | (with_reducible first | exact HB.out | apply below_alloc | apply pw_below_drewN | apply below_drew1 | refine below_set ?_ GE126.out | refine below_set ?_ GE127.out) | exact HB.out)) hb); clear HO_7; clear BK126; clear BK127; clear HB; have HO_7 := n0_; have BK126 := n1_; have BK127 := n2_; have HB := n3_; clear n0_ n1_ n2_ n3_; (try clear hb); (try clear hb2); (try clear hk); (try clear hi); have hcz59_0 : w58.cell? ⟨gb127, 0, none⟩ = some (.int .i64 a1_0) := (blk_cell BK127.out 0).trans rfl; have hcz59_1 : w58.cell? ⟨gb127, 1, none⟩ = some (.int .i64 a1_1) := (blk_cell BK127.out 1).trans rfl; have hcz59_2 : w58.cell? ⟨gb127, 2, none⟩ = some (.int .i64 a1_2) := (blk_cell BK127.out 2).trans rfl; have hcz59_3 : w58.cell? ⟨gb127, 3, none⟩ = some (.int .i64 a1_3) := (blk_cell BK127.out 3).trans rfl; have hcz59_4 : w58.cell? ⟨gb127, 4, none⟩ = some (.int .i64 a1_4) := (blk_cell BK127.out 4).trans rfl; have hcz59_5 : w58.cell? ⟨gb127, 5, none⟩ = some (.int .i64 a1_5) := (blk_cell BK127.out 5).trans rfl; have hcz59_6 : w58.cell? ⟨gb127, 6, none⟩ = some (.int .i64 a1_6) := (blk_cell BK127.out 6).trans rfl; have hcz59_7 : w58.cell? ⟨gb127, 7, none⟩ = some (.int .i64 a1_7) := (blk_cell BK127.out 7).trans rfl; have hfz59_0 := blk_frozen BK127.out 0; have hfz59_1 := blk_frozen BK127.out 1; have hfz59_2 := blk_frozen BK127.out 2; have hfz59_3 := blk_frozen BK127.out 3; have hfz59_4 := blk_frozen BK127.out 4; have hfz59_5 := blk_frozen BK127.out 5; have hfz59_6 := blk_frozen BK127.out 6; have hfz59_7 := blk_frozen BK127.out 7)); try go_wp2_with (first | (go_at_call 24; (with_reducible refine (window_Padded.calls a0_0 a0_1 a0_2 a1_0 a1_1 a1_2 a1_3 a1_4 a1_5 a1_6 a1_7 a2 t143 t144 _ A49.out).mono ?_); rintro e w58 ⟨rfl, hb⟩; have n0_ := Aside0.mk (Kd.R_below (by (with_reducible repeat (first | apply Kd.R_alloc | apply Kd.R_drewN | apply Kd.R_drew)); exact HO_7.out) hb); have n1_ := Aside0.mk (blk_below (g := gb126) (o := .cells #[.int .i64 a0_0, .int .i64 a0_1, .int .i64 a0_2] 23 (0, 0)) (by (with_reducible repeat (first | refine blk_drewN ?_ _ | refine blk_drew ?_ | refine blk_alloc ?_ _)); exact BK126.out) hb); have n2_ := Aside0.mk (blk_below (g := gb127) (o := .cells #[.int .i64 a1_0, .int .i64 a1_1, .int .i64 a1_2, .int .i64 a1_3, .int .i64 a1_4, .int .i64 a1_5, .int .i64 a1_6, .int .i64 a1_7] 25 (0, 0)) (by (with_reducible repeat (first | refine blk_drewN ?_ _ | refine blk_drew ?_ | refine blk_alloc ?_ _)); exact BK127.out) hb); have n3_ := Aside0.mk (below_step (by repeat (first | (with_reducible first | exact HB.out | apply below_alloc | apply pw_below_drewN | apply below_drew1 | refine below_set ?_ GE126.out | refine below_set ?_ GE127.out) | exact HB.out)) hb); clear HO_7; clear BK126; clear BK127; clear HB; have HO_7 := n0_; have BK126 := n1_; have BK127 := n2_; have HB := n3_; clear n0_ n1_ n2_ n3_; (try clear hb); (try clear hb2); (try clear hk); (try clear hi); have hcz59_0 : w58.cell? ⟨gb127, 0, none⟩ = some (.int .i64 a1_0) := (blk_cell BK127.out 0).trans rfl; have hcz59_1 : w58.cell? ⟨gb127, 1, none⟩ = some (.int .i64 a1_1) := (blk_cell BK127.out 1).trans rfl; have hcz59_2 : w58.cell? ⟨gb127, 2, none⟩ = some (.int .i64 a1_2) := (blk_cell BK127.out 2).trans rfl; have hcz59_3 : w58.cell? ⟨gb127, 3, none⟩ = some (.int .i64 a1_3) := (blk_cell BK127.out 3).trans rfl; have hcz59_4 : w58.cell? ⟨gb127, 4, none⟩ = some (.int .i64 a1_4) := (blk_cell BK127.out 4).trans rfl; have hcz59_5 : w58.cell? ⟨gb127, 5, none⟩ = some (.int .i64 a1_5) := (blk_cell BK127.out 5).trans rfl; have hcz59_6 : w58.cell? ⟨gb127, 6, none⟩ = some (.int .i64 a1_6) := (blk_cell BK127.out 6).trans rfl; have hcz59_7 : w58.cell? ⟨gb127, 7, none⟩ = some (.int .i64 a1_7) := (blk_cell BK127.out 7).trans rfl; have hfz59_0 := blk_frozen BK127.out 0; have hfz59_1 := blk_frozen BK127.out 1; have hfz59_2 := blk_frozen BK127.out 2; have hfz59_3 := blk_frozen BK127.out 3; have hfz59_4 := blk_frozen BK127.out 4; have hfz59_5 := blk_frozen BK127.out 5; have hfz59_6 := blk_frozen BK127.out 6; have hfz59_7 := blk_frozen BK127.out 7)))
                                              go_ret
                                              exact ⟨by first | rfl | (simp [errW_none, errW_some] <;> rfl) | (simp only [← hji18]; first | rfl | (simp [errW_none, errW_some] <;> rfl)) | (simp [*, errW_none, errW_some] <;> rfl) | (exfalso; simp only [decide_eq_true_eq, decide_eq_false_iff_not, gt_iff_lt, ge_iff_le] at *; omega), by repeat (first | (with_reducible first | exact HB.out | apply below_alloc | apply pw_below_drewN | apply below_drew1 | refine below_set ?_ GE126.out | refine below_set ?_ GE127.out) | exact HB.out)⟩
                                            · rw [if_neg c54] at H
                                              have c54b0 : decide (0 < (wrap64 (x9_2 + 1))) = false := decide_eq_false c54
                                              clear c54
                                              obtain rfl := Option.some.inj H
                                              have hnb60 := NB127_126.out
                                              have hnc60 := NB126_127.out
                                              have hcz61_0 : wr.cell? ⟨gb127, 0, none⟩ = some (.int .i64 a1_0) := (blk_cell BK127.out 0).trans rfl
                                              have hcz61_1 : wr.cell? ⟨gb127, 1, none⟩ = some (.int .i64 a1_1) := (blk_cell BK127.out 1).trans rfl
                                              have hcz61_2 : wr.cell? ⟨gb127, 2, none⟩ = some (.int .i64 a1_2) := (blk_cell BK127.out 2).trans rfl
                                              have hcz61_3 : wr.cell? ⟨gb127, 3, none⟩ = some (.int .i64 a1_3) := (blk_cell BK127.out 3).trans rfl
                                              have hcz61_4 : wr.cell? ⟨gb127, 4, none⟩ = some (.int .i64 a1_4) := (blk_cell BK127.out 4).trans rfl
                                              have hcz61_5 : wr.cell? ⟨gb127, 5, none⟩ = some (.int .i64 a1_5) := (blk_cell BK127.out 5).trans rfl
                                              have hcz61_6 : wr.cell? ⟨gb127, 6, none⟩ = some (.int .i64 a1_6) := (blk_cell BK127.out 6).trans rfl
                                              have hcz61_7 : wr.cell? ⟨gb127, 7, none⟩ = some (.int .i64 a1_7) := (blk_cell BK127.out 7).trans rfl
                                              have hfz61_0 := blk_frozen BK127.out 0
                                              have hfz61_1 := blk_frozen BK127.out 1
                                              have hfz61_2 := blk_frozen BK127.out 2
                                              have hfz61_3 := blk_frozen BK127.out 3
                                              have hfz61_4 := blk_frozen BK127.out 4
                                              have hfz61_5 := blk_frozen BK127.out 5
                                              have hfz61_6 := blk_frozen BK127.out 6
                                              have hfz61_7 := blk_frozen BK127.out 7
                                              have hcz62_0 : wr.cell? ⟨gb126, 0, none⟩ = some (.int .i64 a0_0) := (blk_cell BK126.out 0).trans rfl
                                              have hcz62_1 : wr.cell? ⟨gb126, 1, none⟩ = some (.int .i64 a0_1) := (blk_cell BK126.out 1).trans rfl
                                              have hcz62_2 : wr.cell? ⟨gb126, 2, none⟩ = some (.int .i64 a0_2) := (blk_cell BK126.out 2).trans rfl
                                              have hfz62_0 := blk_frozen BK126.out 0
                                              have hfz62_1 := blk_frozen BK126.out 1
                                              have hfz62_2 := blk_frozen BK126.out 2
                                              go_wp2_with (first | (go_at_call 24; (with_reducible refine (window_Padded.calls a0_0 a0_1 a0_2 a1_0 a1_1 a1_2 a1_3 a1_4 a1_5 a1_6 a1_7 a2 t143 t144 _ A49.out).mono ?_); rintro e w63 ⟨rfl, hb⟩; have n0_ := Aside0.mk (Kd.R_below (by (with_reducible repeat (first | apply Kd.R_alloc | apply Kd.R_drewN | apply Kd.R_drew)); exact HO_7.out) hb); have n1_ := Aside0.mk (blk_below (g := gb126) (o := .cells #[.int .i64 a0_0, .int .i64 a0_1, .int .i64 a0_2] 23 (0, 0)) (by (with_reducible repeat (first | refine blk_drewN ?_ _ | refine blk_drew ?_ | refine blk_alloc ?_ _)); exact BK126.out) hb); have n2_ := Aside0.mk (blk_below (g := gb127) (o := .cells #[.int .i64 a1_0, .int .i64 a1_1, .int .i64 a1_2, .int .i64 a1_3, .int .i64 a1_4, .int .i64 a1_5, .int .i64 a1_6, .int .i64 a1_7] 25 (0, 0)) (by (with_reducible repeat (first | refine blk_drewN ?_ _ | refine blk_drew ?_ | refine blk_alloc ?_ _)); exact BK127.out) hb); have n3_ := Aside0.mk (below_step (by repeat (first | (with_reducible first | exact HB.out | apply below_alloc | apply pw_below_drewN | apply below_drew1 | refine below_set ?_ GE126.out | refine below_set ?_ GE127.out) | exact HB.out)) hb); clear HO_7; clear BK126; clear BK127; clear HB; have HO_7 := n0_; have BK126 := n1_; have BK127 := n2_; have HB := n3_; clear n0_ n1_ n2_ n3_; (try clear hb); (try clear hb2); (try clear hk); (try clear hi); have hcz64_0 : w63.cell? ⟨gb127, 0, none⟩ = some (.int .i64 a1_0) := (blk_cell BK127.out 0).trans rfl; have hcz64_1 : w63.cell? ⟨gb127, 1, none⟩ = some (.int .i64 a1_1) := (blk_cell BK127.out 1).trans rfl; have hcz64_2 : w63.cell? ⟨gb127, 2, none⟩ = some (.int .i64 a1_2) := (blk_cell BK127.out 2).trans rfl; have hcz64_3 : w63.cell? ⟨gb127, 3, none⟩ = some (.int .i64 a1_3) := (blk_cell BK127.out 3).trans rfl; have hcz64_4 : w63.cell? ⟨gb127, 4, none⟩ = some (.int .i64 a1_4) := (blk_cell BK127.out 4).trans rfl; have hcz64_5 : w63.cell? ⟨gb127, 5, none⟩ = some (.int .i64 a1_5) := (blk_cell BK127.out 5).trans rfl; have hcz64_6 : w63.cell? ⟨gb127, 6, none⟩ = some (.int .i64 a1_6) := (blk_cell BK127.out 6).trans rfl; have hcz64_7 : w63.cell? ⟨gb127, 7, none⟩ = some (.int .i64 a1_7) := (blk_cell BK127.out 7).trans rfl; have hfz64_0 := blk_frozen BK127.out 0; have hfz64_1 := blk_frozen BK127.out 1; have hfz64_2 := blk_frozen BK127.out 2; have hfz64_3 := blk_frozen BK127.out 3; have hfz64_4 := blk_frozen BK127.out 4; have hfz64_5 := blk_frozen BK127.out 5; have hfz64_6 := blk_frozen BK127.out 6; have hfz64_7 := blk_frozen BK127.out 7))
                                              repeat (go_quiet (first | (go_at_call 24; (with_reducible refine (window_Padded.calls a0_0 a0_1 a0_2 a1_0 a1_1 a1_2 a1_3 a1_4 a1_5 a1_6 a1_7 a2 t143 t144 _ A49.out).mono ?_); rintro e w63 ⟨rfl, hb⟩; have n0_ := Aside0.mk (Kd.R_below (by (with_reducible repeat (first | apply Kd.R_alloc | apply Kd.R_drewN | apply Kd.R_drew)); exact HO_7.out) hb); have n1_ := Aside0.mk (blk_below (g := gb126) (o := .cells #[.int .i64 a0_0, .int .i64 a0_1, .int .i64 a0_2] 23 (0, 0)) (by (with_reducible repeat (first | refine blk_drewN ?_ _ | refine blk_drew ?_ | refine blk_alloc ?_ _)); exact BK126.out) hb); have n2_ := Aside0.mk (blk_below (g := gb127) (o := .cells #[.int .i64 a1_0, .int .i64 a1_1, .int .i64 a1_2, .int .i64 a1_3, .int .i64 a1_4, .int .i64 a1_5, .int .i64 a1_6, .int .i64 a1_7] 25 (0, 0)) (by (with_reducible repeat (first | refine blk_drewN ?_ _ | refine blk_drew ?_ | refine blk_alloc ?_ _)); exact BK127.out) hb); have n3_ := Aside0.mk (below_step (by repeat (first | (with_reducible first | exact HB.out | apply below_alloc | apply pw_below_drewN | apply below_drew1 | refine below_set ?_ GE126.out | refine below_set ?_ GE127.out) | exact HB.out)) hb); clear HO_7; clear BK126; clear BK127; clear HB; have HO_7 := n0_; have BK126 := n1_; have BK127 := n2_; have HB := n3_; clear n0_ n1_ n2_ n3_; (try clear hb); (try clear hb2); (try clear hk); (try clear hi); have hcz64_0 : w63.cell? ⟨gb127, 0, none⟩ = some (.int .i64 a1_0) := (blk_cell BK127.out 0).trans rfl; have hcz64_1 : w63.cell? ⟨gb127, 1, none⟩ = some (.int .i64 a1_1) := (blk_cell BK127.out 1).trans rfl; have hcz64_2 : w63.cell? ⟨gb127, 2, none⟩ = some (.int .i64 a1_2) := (blk_cell BK127.out 2).trans rfl; have hcz64_3 : w63.cell? ⟨gb127, 3, none⟩ = some (.int .i64 a1_3) := (blk_cell BK127.out 3).trans rfl; have hcz64_4 : w63.cell? ⟨gb127, 4, none⟩ = some (.int .i64 a1_4) := (blk_cell BK127.out 4).trans rfl; have hcz64_5 : w63.cell? ⟨gb127, 5, none⟩ = some (.int .i64 a1_5) := (blk_cell BK127.out 5).trans rfl; have hcz64_6 : w63.cell? ⟨gb127, 6, none⟩ = some (.int .i64 a1_6) := (blk_cell BK127.out 6).trans rfl; have hcz64_7 : w63.cell? ⟨gb127, 7, none⟩ = some (.int .i64 a1_7) := (blk_cell BK127.out 7).trans rfl; have hfz64_0 := blk_frozen BK127.out 0; have hfz64_1 := blk_frozen BK127.out 1; have hfz64_2 := blk_frozen BK127.out 2; have hfz64_3 := blk_frozen BK127.out 3; have hfz64_4 := blk_frozen BK127.out 4; have hfz64_5 := blk_frozen BK127.out 5; have hfz64_6 := blk_frozen BK127.out 6; have hfz64_7 := blk_frozen BK127.out 7)); try go_wp2_with (first | (go_at_call 24; (with_reducible refine (window_Padded.calls a0_0 a0_1 a0_2 a1_0 a1_1 a1_2 a1_3 a1_4 a1_5 a1_6 a1_7 a2 t143 t144 _ A49.out).mono ?_); rintro e w63 ⟨rfl, hb⟩; have n0_ := Aside0.mk (Kd.R_below (by (with_reducible repeat (first | apply Kd.R_alloc | apply Kd.R_drewN | apply Kd.R_drew)); exact HO_7.out) hb); have n1_ := Aside0.mk (blk_below (g := gb126) (o := .cells #[.int .i64 a0_0, .int .i64 a0_1, .int .i64 a0_2] 23 (0, 0)) (by (with_reducible repeat (first | refine blk_drewN ?_ _ | refine blk_drew ?_ | refine blk_alloc ?_ _)); exact BK126.out) hb); have n2_ := Aside0.mk (blk_below (g := gb127) (o := .cells #[.int .i64 a1_0, .int .i64 a1_1, .int .i64 a1_2, .int .i64 a1_3, .int .i64 a1_4, .int .i64 a1_5, .int .i64 a1_6, .int .i64 a1_7] 25 (0, 0)) (by (with_reducible repeat (first | refine blk_drewN ?_ _ | refine blk_drew ?_ | refine blk_alloc ?_ _)); exact BK127.out) hb); have n3_ := Aside0.mk (below_step (by repeat (first | (with_reducible first | exact HB.out | apply below_alloc | apply pw_below_drewN | apply below_drew1 | refine below_set ?_ GE126.out | refine below_set ?_ GE127.out) | exact HB.out)) hb); clear HO_7; clear BK126; clear BK127; clear HB; have HO_7 := n0_; have BK126 := n1_; have BK127 := n2_; have HB := n3_; clear n0_ n1_ n2_ n3_; (try clear hb); (try clear hb2); (try clear hk); (try clear hi); have hcz64_0 : w63.cell? ⟨gb127, 0, none⟩ = some (.int .i64 a1_0) := (blk_cell BK127.out 0).trans rfl; have hcz64_1 : w63.cell? ⟨gb127, 1, none⟩ = some (.int .i64 a1_1) := (blk_cell BK127.out 1).trans rfl; have hcz64_2 : w63.cell? ⟨gb127, 2, none⟩ = some (.int .i64 a1_2) := (blk_cell BK127.out 2).trans rfl; have hcz64_3 : w63.cell? ⟨gb127, 3, none⟩ = some (.int .i64 a1_3) := (blk_cell BK127.out 3).trans rfl; have hcz64_4 : w63.cell? ⟨gb127, 4, none⟩ = some (.int .i64 a1_4) := (blk_cell BK127.out 4).trans rfl; have hcz64_5 : w63.cell? ⟨gb127, 5, none⟩ = some (.int .i64 a1_5) := (blk_cell BK127.out 5).trans rfl; have hcz64_6 : w63.cell? ⟨gb127, 6, none⟩ = some (.int .i64 a1_6) := (blk_cell BK127.out 6).trans rfl; have hcz64_7 : w63.cell? ⟨gb127, 7, none⟩ = some (.int .i64 a1_7) := (blk_cell BK127.out 7).trans rfl; have hfz64_0 := blk_frozen BK127.out 0; have hfz64_1 := blk_frozen BK127.out 1; have hfz64_2 := blk_frozen BK127.out 2; have hfz64_3 := blk_frozen BK127.out 3; have hfz64_4 := blk_frozen BK127.out 4; have hfz64_5 := blk_frozen BK127.out 5; have hfz64_6 := blk_frozen BK127.out 6; have hfz64_7 := blk_frozen BK127.out 7)))
                                              go_ret
                                              exact ⟨by first | rfl | (simp [errW_none, errW_some] <;> rfl) | (simp only [← hji18]; first | rfl | (simp [errW_none, errW_some] <;> rfl)) | (simp [*, errW_none, errW_some] <;> rfl) | (exfalso; simp only [decide_eq_true_eq, decide_eq_false_iff_not, gt_iff_lt, ge_iff_le] at *; omega), by repeat (first | (with_reducible first | exact HB.out | apply below_alloc | apply pw_below_drewN | apply below_drew1 | refine below_set ?_ GE126.out | refine below_set ?_ GE127.out) | exact HB.out)⟩
                                          · rw [if_neg c53] at H
                                            have c53b0 : decide (t143 < (wrap64 (a1_0 * a1_1))) = false := decide_eq_false c53
                                            clear c53
                                            exact absurd ((Option.some.inj H).trans HRT.out) Bool.false_ne_true
                                        · rw [if_neg c52] at H
                                          have c52b0 : decide (0 ≤ t143) = false := decide_eq_false c52
                                          clear c52
                                          exact absurd ((Option.some.inj H).trans HRT.out) Bool.false_ne_true
                                      · rw [if_neg c51] at H
                                        have c51b0 : (t144 == 0) = false := beq_eq_false_iff_ne.mpr c51
                                        have c50x2 : (decide ((t128.length : Int) > 0)) = false := by have h_ := c50b0; rw [c51b0] at h_; simpa using h_
                                        have c51b1 : (t144 != 0) = true := bne_iff_ne.mpr c51
                                        obtain rfl := Option.some.inj H
                                        have hnb65 := NB127_126.out
                                        have hnc65 := NB126_127.out
                                        have hcz66_0 : wr.cell? ⟨gb127, 0, none⟩ = some (.int .i64 a1_0) := (blk_cell BK127.out 0).trans rfl
                                        have hcz66_1 : wr.cell? ⟨gb127, 1, none⟩ = some (.int .i64 a1_1) := (blk_cell BK127.out 1).trans rfl
                                        have hcz66_2 : wr.cell? ⟨gb127, 2, none⟩ = some (.int .i64 a1_2) := (blk_cell BK127.out 2).trans rfl
                                        have hcz66_3 : wr.cell? ⟨gb127, 3, none⟩ = some (.int .i64 a1_3) := (blk_cell BK127.out 3).trans rfl
                                        have hcz66_4 : wr.cell? ⟨gb127, 4, none⟩ = some (.int .i64 a1_4) := (blk_cell BK127.out 4).trans rfl
                                        have hcz66_5 : wr.cell? ⟨gb127, 5, none⟩ = some (.int .i64 a1_5) := (blk_cell BK127.out 5).trans rfl
                                        have hcz66_6 : wr.cell? ⟨gb127, 6, none⟩ = some (.int .i64 a1_6) := (blk_cell BK127.out 6).trans rfl
                                        have hcz66_7 : wr.cell? ⟨gb127, 7, none⟩ = some (.int .i64 a1_7) := (blk_cell BK127.out 7).trans rfl
                                        have hfz66_0 := blk_frozen BK127.out 0
                                        have hfz66_1 := blk_frozen BK127.out 1
                                        have hfz66_2 := blk_frozen BK127.out 2
                                        have hfz66_3 := blk_frozen BK127.out 3
                                        have hfz66_4 := blk_frozen BK127.out 4
                                        have hfz66_5 := blk_frozen BK127.out 5
                                        have hfz66_6 := blk_frozen BK127.out 6
                                        have hfz66_7 := blk_frozen BK127.out 7
                                        have hcz67_0 : wr.cell? ⟨gb126, 0, none⟩ = some (.int .i64 a0_0) := (blk_cell BK126.out 0).trans rfl
                                        have hcz67_1 : wr.cell? ⟨gb126, 1, none⟩ = some (.int .i64 a0_1) := (blk_cell BK126.out 1).trans rfl
                                        have hcz67_2 : wr.cell? ⟨gb126, 2, none⟩ = some (.int .i64 a0_2) := (blk_cell BK126.out 2).trans rfl
                                        have hfz67_0 := blk_frozen BK126.out 0
                                        have hfz67_1 := blk_frozen BK126.out 1
                                        have hfz67_2 := blk_frozen BK126.out 2
                                        go_wp2_with (first | (go_at_call 24; (with_reducible refine (window_Padded.calls a0_0 a0_1 a0_2 a1_0 a1_1 a1_2 a1_3 a1_4 a1_5 a1_6 a1_7 a2 t143 t144 _ A49.out).mono ?_); rintro e w68 ⟨rfl, hb⟩; have n0_ := Aside0.mk (Kd.R_below (by (with_reducible repeat (first | apply Kd.R_alloc | apply Kd.R_drewN | apply Kd.R_drew)); exact HO_7.out) hb); have n1_ := Aside0.mk (blk_below (g := gb126) (o := .cells #[.int .i64 a0_0, .int .i64 a0_1, .int .i64 a0_2] 23 (0, 0)) (by (with_reducible repeat (first | refine blk_drewN ?_ _ | refine blk_drew ?_ | refine blk_alloc ?_ _)); exact BK126.out) hb); have n2_ := Aside0.mk (blk_below (g := gb127) (o := .cells #[.int .i64 a1_0, .int .i64 a1_1, .int .i64 a1_2, .int .i64 a1_3, .int .i64 a1_4, .int .i64 a1_5, .int .i64 a1_6, .int .i64 a1_7] 25 (0, 0)) (by (with_reducible repeat (first | refine blk_drewN ?_ _ | refine blk_drew ?_ | refine blk_alloc ?_ _)); exact BK127.out) hb); have n3_ := Aside0.mk (below_step (by repeat (first | (with_reducible first | exact HB.out | apply below_alloc | apply pw_below_drewN | apply below_drew1 | refine below_set ?_ GE126.out | refine below_set ?_ GE127.out) | exact HB.out)) hb); clear HO_7; clear BK126; clear BK127; clear HB; have HO_7 := n0_; have BK126 := n1_; have BK127 := n2_; have HB := n3_; clear n0_ n1_ n2_ n3_; (try clear hb); (try clear hb2); (try clear hk); (try clear hi)))
                                        repeat (go_quiet (first | (go_at_call 24; (with_reducible refine (window_Padded.calls a0_0 a0_1 a0_2 a1_0 a1_1 a1_2 a1_3 a1_4 a1_5 a1_6 a1_7 a2 t143 t144 _ A49.out).mono ?_); rintro e w68 ⟨rfl, hb⟩; have n0_ := Aside0.mk (Kd.R_below (by (with_reducible repeat (first | apply Kd.R_alloc | apply Kd.R_drewN | apply Kd.R_drew)); exact HO_7.out) hb); have n1_ := Aside0.mk (blk_below (g := gb126) (o := .cells #[.int .i64 a0_0, .int .i64 a0_1, .int .i64 a0_2] 23 (0, 0)) (by (with_reducible repeat (first | refine blk_drewN ?_ _ | refine blk_drew ?_ | refine blk_alloc ?_ _)); exact BK126.out) hb); have n2_ := Aside0.mk (blk_below (g := gb127) (o := .cells #[.int .i64 a1_0, .int .i64 a1_1, .int .i64 a1_2, .int .i64 a1_3, .int .i64 a1_4, .int .i64 a1_5, .int .i64 a1_6, .int .i64 a1_7] 25 (0, 0)) (by (with_reducible repeat (first | refine blk_drewN ?_ _ | refine blk_drew ?_ | refine blk_alloc ?_ _)); exact BK127.out) hb); have n3_ := Aside0.mk (below_step (by repeat (first | (with_reducible first | exact HB.out | apply below_alloc | apply pw_below_drewN | apply below_drew1 | refine below_set ?_ GE126.out | refine below_set ?_ GE127.out) | exact HB.out)) hb); clear HO_7; clear BK126; clear BK127; clear HB; have HO_7 := n0_; have BK126 := n1_; have BK127 := n2_; have HB := n3_; clear n0_ n1_ n2_ n3_; (try clear hb); (try clear hb2); (try clear hk); (try clear hi))); try go_wp2_with (first | (go_at_call 24; (with_reducible refine (window_Padded.calls a0_0 a0_1 a0_2 a1_0 a1_1 a1_2 a1_3 a1_4 a1_5 a1_6 a1_7 a2 t143 t144 _ A49.out).mono ?_); rintro e w68 ⟨rfl, hb⟩; have n0_ := Aside0.mk (Kd.R_below (by (with_reducible repeat (first | apply Kd.R_alloc | apply Kd.R_drewN | apply Kd.R_drew)); exact HO_7.out) hb); have n1_ := Aside0.mk (blk_below (g := gb126) (o := .cells #[.int .i64 a0_0, .int .i64 a0_1, .int .i64 a0_2] 23 (0, 0)) (by (with_reducible repeat (first | refine blk_drewN ?_ _ | refine blk_drew ?_ | refine blk_alloc ?_ _)); exact BK126.out) hb); have n2_ := Aside0.mk (blk_below (g := gb127) (o := .cells #[.int .i64 a1_0, .int .i64 a1_1, .int .i64 a1_2, .int .i64 a1_3, .int .i64 a1_4, .int .i64 a1_5, .int .i64 a1_6, .int .i64 a1_7] 25 (0, 0)) (by (with_reducible repeat (first | refine blk_drewN ?_ _ | refine blk_drew ?_ | refine blk_alloc ?_ _)); exact BK127.out) hb); have n3_ := Aside0.mk (below_step (by repeat (first | (with_reducible first | exact HB.out | apply below_alloc | apply pw_below_drewN | apply below_drew1 | refine below_set ?_ GE126.out | refine below_set ?_ GE127.out) | exact HB.out)) hb); clear HO_7; clear BK126; clear BK127; clear HB; have HO_7 := n0_; have BK126 := n1_; have BK127 := n2_; have HB := n3_; clear n0_ n1_ n2_ n3_; (try clear hb); (try clear hb2); (try clear hk); (try clear hi))))
                                        go_ret
                                        exact ⟨by first | rfl | (simp [errW_none, errW_some] <;> rfl) | (simp only [← hji18]; first | rfl | (simp [errW_none, errW_some] <;> rfl)) | (simp [*, errW_none, errW_some] <;> rfl) | (exfalso; simp only [decide_eq_true_eq, decide_eq_false_iff_not, gt_iff_lt, ge_iff_le] at *; omega), by repeat (first | (with_reducible first | exact HB.out | apply below_alloc | apply pw_below_drewN | apply below_drew1 | refine below_set ?_ GE126.out | refine below_set ?_ GE127.out) | exact HB.out)⟩
                                    · rw [if_neg c50] at H
                                      have c50b0 : ((t144 == 0) == (decide ((t128.length : Int) > 0))) = false := by simpa using c50
                                      (try (have c50b1 : decide ((t144 == 0) = (decide ((t128.length : Int) > 0))) = false := by simpa using c50))
                                      (try (have c50b2 : ((t144 == 0) == (decide ((t128.length : Int) > 0))) = false := by simpa using c50))
                                      (try (have c50b3 : ¬ ((t144 == 0) = (decide ((t128.length : Int) > 0))) := by simpa using c50))
                                      clear c50
                                      exact absurd ((Option.some.inj H).trans HRT.out) Bool.false_ne_true
                                  · rw [if_neg c48] at H
                                    have c48b0 : ((t128.length : Int) == (wrap64 ((wrap64 (2 * a1_0)) * a1_1))) = false := beq_eq_false_iff_ne.mpr c48
                                    have c48b1 : ((t128.length : Int) != (wrap64 ((wrap64 (2 * a1_0)) * a1_1))) = true := bne_iff_ne.mpr c48
                                    exact absurd ((Option.some.inj H).trans HRT.out) Bool.false_ne_true
                                · rw [if_neg c47] at H
                                  have c47b0 : decide (0 < (t128.length : Int)) = false := decide_eq_false c47
                                  have c47b1 : decide (0 < t128.length) = false := decide_eq_false (by omega)
                                  clear c47
                                  replace H := Option.bind_eq_some_iff.mp H
                                  obtain ⟨⟨t145, t146⟩, A690, H⟩ := H
                                  replace H : (if ((t146 == 0) == (decide ((t128.length : Int) > 0))) = true then (if t146 = 0 then (if t145 ≥ 0 then (if t145 < (wrap64 (a1_0 * a1_1)) then (if (wrap64 (x9_2 + 1)) > 0 then (some true) else (some (decide ((t128.length : Int) > 40)))) else (some false)) else (some false)) else (some true)) else (some false)) = some r := H
                                  have A69 := Aside0.mk A690
                                  clear A690
                                  by_cases c70 : ((t146 == 0) == (decide ((t128.length : Int) > 0))) = true
                                  · rw [if_pos c70] at H
                                    have c70b0 : ((t146 == 0) == (decide ((t128.length : Int) > 0))) = true := c70
                                    (try (have c70b1 : decide ((t146 == 0) = (decide ((t128.length : Int) > 0))) = true := by simpa using c70))
                                    (try (have c70b2 : ((t146 == 0) == (decide ((t128.length : Int) > 0))) = true := by simpa using c70))
                                    clear c70
                                    by_cases c71 : t146 = 0
                                    · rw [if_pos c71] at H
                                      have c71b0 : (t146 == 0) = true := beq_iff_eq.mpr c71
                                      have c70x3 : (decide ((t128.length : Int) > 0)) = true := by have h_ := c70b0; rw [c71b0] at h_; simpa using h_
                                      have c71b1 : (t146 != 0) = false := bne_eq_false_iff_eq.mpr c71
                                      clear c71
                                      by_cases c72 : t145 ≥ 0
                                      · rw [if_pos c72] at H
                                        have c72b0 : decide (0 ≤ t145) = true := decide_eq_true c72
                                        clear c72
                                        by_cases c73 : t145 < (wrap64 (a1_0 * a1_1))
                                        · rw [if_pos c73] at H
                                          have c73b0 : decide (t145 < (wrap64 (a1_0 * a1_1))) = true := decide_eq_true c73
                                          clear c73
                                          by_cases c74 : (wrap64 (x9_2 + 1)) > 0
                                          · rw [if_pos c74] at H
                                            have c74b0 : decide (0 < (wrap64 (x9_2 + 1))) = true := decide_eq_true c74
                                            clear c74
                                            obtain rfl := Option.some.inj H
                                            have hnb75 := NB126_127.out
                                            have hnc75 := NB127_126.out
                                            have hcz76_0 : wr.cell? ⟨gb126, 0, none⟩ = some (.int .i64 a0_0) := (blk_cell BK126.out 0).trans rfl
                                            have hcz76_1 : wr.cell? ⟨gb126, 1, none⟩ = some (.int .i64 a0_1) := (blk_cell BK126.out 1).trans rfl
                                            have hcz76_2 : wr.cell? ⟨gb126, 2, none⟩ = some (.int .i64 a0_2) := (blk_cell BK126.out 2).trans rfl
                                            have hfz76_0 := blk_frozen BK126.out 0
                                            have hfz76_1 := blk_frozen BK126.out 1
                                            have hfz76_2 := blk_frozen BK126.out 2
                                            have hcz77_0 : wr.cell? ⟨gb127, 0, none⟩ = some (.int .i64 a1_0) := (blk_cell BK127.out 0).trans rfl
                                            have hcz77_1 : wr.cell? ⟨gb127, 1, none⟩ = some (.int .i64 a1_1) := (blk_cell BK127.out 1).trans rfl
                                            have hcz77_2 : wr.cell? ⟨gb127, 2, none⟩ = some (.int .i64 a1_2) := (blk_cell BK127.out 2).trans rfl
                                            have hcz77_3 : wr.cell? ⟨gb127, 3, none⟩ = some (.int .i64 a1_3) := (blk_cell BK127.out 3).trans rfl
                                            have hcz77_4 : wr.cell? ⟨gb127, 4, none⟩ = some (.int .i64 a1_4) := (blk_cell BK127.out 4).trans rfl
                                            have hcz77_5 : wr.cell? ⟨gb127, 5, none⟩ = some (.int .i64 a1_5) := (blk_cell BK127.out 5).trans rfl
                                            have hcz77_6 : wr.cell? ⟨gb127, 6, none⟩ = some (.int .i64 a1_6) := (blk_cell BK127.out 6).trans rfl
                                            have hcz77_7 : wr.cell? ⟨gb127, 7, none⟩ = some (.int .i64 a1_7) := (blk_cell BK127.out 7).trans rfl
                                            have hfz77_0 := blk_frozen BK127.out 0
                                            have hfz77_1 := blk_frozen BK127.out 1
                                            have hfz77_2 := blk_frozen BK127.out 2
                                            have hfz77_3 := blk_frozen BK127.out 3
                                            have hfz77_4 := blk_frozen BK127.out 4
                                            have hfz77_5 := blk_frozen BK127.out 5
                                            have hfz77_6 := blk_frozen BK127.out 6
                                            have hfz77_7 := blk_frozen BK127.out 7
                                            go_wp2_with (first | (go_at_call 24; (with_reducible refine (window_Padded.calls a0_0 a0_1 a0_2 a1_0 a1_1 a1_2 a1_3 a1_4 a1_5 a1_6 a1_7 a2 t145 t146 _ A69.out).mono ?_); rintro e w78 ⟨rfl, hb⟩; have n0_ := Aside0.mk (Kd.R_below (by (with_reducible repeat (first | apply Kd.R_alloc | apply Kd.R_drewN | apply Kd.R_drew)); exact HO_7.out) hb); have n1_ := Aside0.mk (blk_below (g := gb126) (o := .cells #[.int .i64 a0_0, .int .i64 a0_1, .int .i64 a0_2] 23 (0, 0)) (by (with_reducible repeat (first | refine blk_drewN ?_ _ | refine blk_drew ?_ | refine blk_alloc ?_ _)); exact BK126.out) hb); have n2_ := Aside0.mk (blk_below (g := gb127) (o := .cells #[.int .i64 a1_0, .int .i64 a1_1, .int .i64 a1_2, .int .i64 a1_3, .int .i64 a1_4, .int .i64 a1_5, .int .i64 a1_6, .int .i64 a1_7] 25 (0, 0)) (by (with_reducible repeat (first | refine blk_drewN ?_ _ | refine blk_drew ?_ | refine blk_alloc ?_ _)); exact BK127.out) hb); have n3_ := Aside0.mk (below_step (by repeat (first | (with_reducible first | exact HB.out | apply below_alloc | apply pw_below_drewN | apply below_drew1 | refine below_set ?_ GE126.out | refine below_set ?_ GE127.out) | exact HB.out)) hb); clear HO_7; clear BK126; clear BK127; clear HB; have HO_7 := n0_; have BK126 := n1_; have BK127 := n2_; have HB := n3_; clear n0_ n1_ n2_ n3_; (try clear hb); (try clear hb2); (try clear hk); (try clear hi); have hcz79_0 : w78.cell? ⟨gb127, 0, none⟩ = some (.int .i64 a1_0) := (blk_cell BK127.out 0).trans rfl; have hcz79_1 : w78.cell? ⟨gb127, 1, none⟩ = some (.int .i64 a1_1) := (blk_cell BK127.out 1).trans rfl; have hcz79_2 : w78.cell? ⟨gb127, 2, none⟩ = some (.int .i64 a1_2) := (blk_cell BK127.out 2).trans rfl; have hcz79_3 : w78.cell? ⟨gb127, 3, none⟩ = some (.int .i64 a1_3) := (blk_cell BK127.out 3).trans rfl; have hcz79_4 : w78.cell? ⟨gb127, 4, none⟩ = some (.int .i64 a1_4) := (blk_cell BK127.out 4).trans rfl; have hcz79_5 : w78.cell? ⟨gb127, 5, none⟩ = some (.int .i64 a1_5) := (blk_cell BK127.out 5).trans rfl; have hcz79_6 : w78.cell? ⟨gb127, 6, none⟩ = some (.int .i64 a1_6) := (blk_cell BK127.out 6).trans rfl; have hcz79_7 : w78.cell? ⟨gb127, 7, none⟩ = some (.int .i64 a1_7) := (blk_cell BK127.out 7).trans rfl; have hfz79_0 := blk_frozen BK127.out 0; have hfz79_1 := blk_frozen BK127.out 1; have hfz79_2 := blk_frozen BK127.out 2; have hfz79_3 := blk_frozen BK127.out 3; have hfz79_4 := blk_frozen BK127.out 4; have hfz79_5 := blk_frozen BK127.out 5; have hfz79_6 := blk_frozen BK127.out 6; have hfz79_7 := blk_frozen BK127.out 7))
                                            repeat (go_quiet (first | (go_at_call 24; (with_reducible refine (window_Padded.calls a0_0 a0_1 a0_2 a1_0 a1_1 a1_2 a1_3 a1_4 a1_5 a1_6 a1_7 a2 t145 t146 _ A69.out).mono ?_); rintro e w78 ⟨rfl, hb⟩; have n0_ := Aside0.mk (Kd.R_below (by (with_reducible repeat (first | apply Kd.R_alloc | apply Kd.R_drewN | apply Kd.R_drew)); exact HO_7.out) hb); have n1_ := Aside0.mk (blk_below (g := gb126) (o := .cells #[.int .i64 a0_0, .int .i64 a0_1, .int .i64 a0_2] 23 (0, 0)) (by (with_reducible repeat (first | refine blk_drewN ?_ _ | refine blk_drew ?_ | refine blk_alloc ?_ _)); exact BK126.out) hb); have n2_ := Aside0.mk (blk_below (g := gb127) (o := .cells #[.int .i64 a1_0, .int .i64 a1_1, .int .i64 a1_2, .int .i64 a1_3, .int .i64 a1_4, .int .i64 a1_5, .int .i64 a1_6, .int .i64 a1_7] 25 (0, 0)) (by (with_reducible repeat (first | refine blk_drewN ?_ _ | refine blk_drew ?_ | refine blk_alloc ?_ _)); exact BK127.out) hb); have n3_ := Aside0.mk (below_step (by repeat (first | (with_reducible first | exact HB.out | apply below_alloc | apply pw_below_drewN | apply below_drew1 | refine below_set ?_ GE126.out | refine below_set ?_ GE127.out) | exact HB.out)) hb); clear HO_7; clear BK126; clear BK127; clear HB; have HO_7 := n0_; have BK126 := n1_; have BK127 := n2_; have HB := n3_; clear n0_ n1_ n2_ n3_; (try clear hb); (try clear hb2); (try clear hk); (try clear hi); have hcz79_0 : w78.cell? ⟨gb127, 0, none⟩ = some (.int .i64 a1_0) := (blk_cell BK127.out 0).trans rfl; have hcz79_1 : w78.cell? ⟨gb127, 1, none⟩ = some (.int .i64 a1_1) := (blk_cell BK127.out 1).trans rfl; have hcz79_2 : w78.cell? ⟨gb127, 2, none⟩ = some (.int .i64 a1_2) := (blk_cell BK127.out 2).trans rfl; have hcz79_3 : w78.cell? ⟨gb127, 3, none⟩ = some (.int .i64 a1_3) := (blk_cell BK127.out 3).trans rfl; have hcz79_4 : w78.cell? ⟨gb127, 4, none⟩ = some (.int .i64 a1_4) := (blk_cell BK127.out 4).trans rfl; have hcz79_5 : w78.cell? ⟨gb127, 5, none⟩ = some (.int .i64 a1_5) := (blk_cell BK127.out 5).trans rfl; have hcz79_6 : w78.cell? ⟨gb127, 6, none⟩ = some (.int .i64 a1_6) := (blk_cell BK127.out 6).trans rfl; have hcz79_7 : w78.cell? ⟨gb127, 7, none⟩ = some (.int .i64 a1_7) := (blk_cell BK127.out 7).trans rfl; have hfz79_0 := blk_frozen BK127.out 0; have hfz79_1 := blk_frozen BK127.out 1; have hfz79_2 := blk_frozen BK127.out 2; have hfz79_3 := blk_frozen BK127.out 3; have hfz79_4 := blk_frozen BK127.out 4; have hfz79_5 := blk_frozen BK127.out 5; have hfz79_6 := blk_frozen BK127.out 6; have hfz79_7 := blk_frozen BK127.out 7)); try go_wp2_with (first | (go_at_call 24; (with_reducible refine (window_Padded.calls a0_0 a0_1 a0_2 a1_0 a1_1 a1_2 a1_3 a1_4 a1_5 a1_6 a1_7 a2 t145 t146 _ A69.out).mono ?_); rintro e w78 ⟨rfl, hb⟩; have n0_ := Aside0.mk (Kd.R_below (by (with_reducible repeat (first | apply Kd.R_alloc | apply Kd.R_drewN | apply Kd.R_drew)); exact HO_7.out) hb); have n1_ := Aside0.mk (blk_below (g := gb126) (o := .cells #[.int .i64 a0_0, .int .i64 a0_1, .int .i64 a0_2] 23 (0, 0)) (by (with_reducible repeat (first | refine blk_drewN ?_ _ | refine blk_drew ?_ | refine blk_alloc ?_ _)); exact BK126.out) hb); have n2_ := Aside0.mk (blk_below (g := gb127) (o := .cells #[.int .i64 a1_0, .int .i64 a1_1, .int .i64 a1_2, .int .i64 a1_3, .int .i64 a1_4, .int .i64 a1_5, .int .i64 a1_6, .int .i64 a1_7] 25 (0, 0)) (by (with_reducible repeat (first | refine blk_drewN ?_ _ | refine blk_drew ?_ | refine blk_alloc ?_ _)); exact BK127.out) hb); have n3_ := Aside0.mk (below_step (by repeat (first | (with_reducible first | exact HB.out | apply below_alloc | apply pw_below_drewN | apply below_drew1 | refine below_set ?_ GE126.out | refine below_set ?_ GE127.out) | exact HB.out)) hb); clear HO_7; clear BK126; clear BK127; clear HB; have HO_7 := n0_; have BK126 := n1_; have BK127 := n2_; have HB := n3_; clear n0_ n1_ n2_ n3_; (try clear hb); (try clear hb2); (try clear hk); (try clear hi); have hcz79_0 : w78.cell? ⟨gb127, 0, none⟩ = some (.int .i64 a1_0) := (blk_cell BK127.out 0).trans rfl; have hcz79_1 : w78.cell? ⟨gb127, 1, none⟩ = some (.int .i64 a1_1) := (blk_cell BK127.out 1).trans rfl; have hcz79_2 : w78.cell? ⟨gb127, 2, none⟩ = some (.int .i64 a1_2) := (blk_cell BK127.out 2).trans rfl; have hcz79_3 : w78.cell? ⟨gb127, 3, none⟩ = some (.int .i64 a1_3) := (blk_cell BK127.out 3).trans rfl; have hcz79_4 : w78.cell? ⟨gb127, 4, none⟩ = some (.int .i64 a1_4) := (blk_cell BK127.out 4).trans rfl; have hcz79_5 : w78.cell? ⟨gb127, 5, none⟩ = some (.int .i64 a1_5) := (blk_cell BK127.out 5).trans rfl; have hcz79_6 : w78.cell? ⟨gb127, 6, none⟩ = some (.int .i64 a1_6) := (blk_cell BK127.out 6).trans rfl; have hcz79_7 : w78.cell? ⟨gb127, 7, none⟩ = some (.int .i64 a1_7) := (blk_cell BK127.out 7).trans rfl; have hfz79_0 := blk_frozen BK127.out 0; have hfz79_1 := blk_frozen BK127.out 1; have hfz79_2 := blk_frozen BK127.out 2; have hfz79_3 := blk_frozen BK127.out 3; have hfz79_4 := blk_frozen BK127.out 4; have hfz79_5 := blk_frozen BK127.out 5; have hfz79_6 := blk_frozen BK127.out 6; have hfz79_7 := blk_frozen BK127.out 7)))
                                            go_ret
                                            exact ⟨by first | rfl | (simp [errW_none, errW_some] <;> rfl) | (simp only [← hji18]; first | rfl | (simp [errW_none, errW_some] <;> rfl)) | (simp [*, errW_none, errW_some] <;> rfl) | (exfalso; simp only [decide_eq_true_eq, decide_eq_false_iff_not, gt_iff_lt, ge_iff_le] at *; omega), by repeat (first | (with_reducible first | exact HB.out | apply below_alloc | apply pw_below_drewN | apply below_drew1 | refine below_set ?_ GE126.out | refine below_set ?_ GE127.out) | exact HB.out)⟩
                                          · rw [if_neg c74] at H
                                            have c74b0 : decide (0 < (wrap64 (x9_2 + 1))) = false := decide_eq_false c74
                                            clear c74
                                            obtain rfl := Option.some.inj H
                                            have hnb80 := NB126_127.out
                                            have hnc80 := NB127_126.out
                                            have hcz81_0 : wr.cell? ⟨gb126, 0, none⟩ = some (.int .i64 a0_0) := (blk_cell BK126.out 0).trans rfl
                                            have hcz81_1 : wr.cell? ⟨gb126, 1, none⟩ = some (.int .i64 a0_1) := (blk_cell BK126.out 1).trans rfl
                                            have hcz81_2 : wr.cell? ⟨gb126, 2, none⟩ = some (.int .i64 a0_2) := (blk_cell BK126.out 2).trans rfl
                                            have hfz81_0 := blk_frozen BK126.out 0
                                            have hfz81_1 := blk_frozen BK126.out 1
                                            have hfz81_2 := blk_frozen BK126.out 2
                                            have hcz82_0 : wr.cell? ⟨gb127, 0, none⟩ = some (.int .i64 a1_0) := (blk_cell BK127.out 0).trans rfl
                                            have hcz82_1 : wr.cell? ⟨gb127, 1, none⟩ = some (.int .i64 a1_1) := (blk_cell BK127.out 1).trans rfl
                                            have hcz82_2 : wr.cell? ⟨gb127, 2, none⟩ = some (.int .i64 a1_2) := (blk_cell BK127.out 2).trans rfl
                                            have hcz82_3 : wr.cell? ⟨gb127, 3, none⟩ = some (.int .i64 a1_3) := (blk_cell BK127.out 3).trans rfl
                                            have hcz82_4 : wr.cell? ⟨gb127, 4, none⟩ = some (.int .i64 a1_4) := (blk_cell BK127.out 4).trans rfl
                                            have hcz82_5 : wr.cell? ⟨gb127, 5, none⟩ = some (.int .i64 a1_5) := (blk_cell BK127.out 5).trans rfl
                                            have hcz82_6 : wr.cell? ⟨gb127, 6, none⟩ = some (.int .i64 a1_6) := (blk_cell BK127.out 6).trans rfl
                                            have hcz82_7 : wr.cell? ⟨gb127, 7, none⟩ = some (.int .i64 a1_7) := (blk_cell BK127.out 7).trans rfl
                                            have hfz82_0 := blk_frozen BK127.out 0
                                            have hfz82_1 := blk_frozen BK127.out 1
                                            have hfz82_2 := blk_frozen BK127.out 2
                                            have hfz82_3 := blk_frozen BK127.out 3
                                            have hfz82_4 := blk_frozen BK127.out 4
                                            have hfz82_5 := blk_frozen BK127.out 5
                                            have hfz82_6 := blk_frozen BK127.out 6
                                            have hfz82_7 := blk_frozen BK127.out 7
                                            go_wp2_with (first | (go_at_call 24; (with_reducible refine (window_Padded.calls a0_0 a0_1 a0_2 a1_0 a1_1 a1_2 a1_3 a1_4 a1_5 a1_6 a1_7 a2 t145 t146 _ A69.out).mono ?_); rintro e w83 ⟨rfl, hb⟩; have n0_ := Aside0.mk (Kd.R_below (by (with_reducible repeat (first | apply Kd.R_alloc | apply Kd.R_drewN | apply Kd.R_drew)); exact HO_7.out) hb); have n1_ := Aside0.mk (blk_below (g := gb126) (o := .cells #[.int .i64 a0_0, .int .i64 a0_1, .int .i64 a0_2] 23 (0, 0)) (by (with_reducible repeat (first | refine blk_drewN ?_ _ | refine blk_drew ?_ | refine blk_alloc ?_ _)); exact BK126.out) hb); have n2_ := Aside0.mk (blk_below (g := gb127) (o := .cells #[.int .i64 a1_0, .int .i64 a1_1, .int .i64 a1_2, .int .i64 a1_3, .int .i64 a1_4, .int .i64 a1_5, .int .i64 a1_6, .int .i64 a1_7] 25 (0, 0)) (by (with_reducible repeat (first | refine blk_drewN ?_ _ | refine blk_drew ?_ | refine blk_alloc ?_ _)); exact BK127.out) hb); have n3_ := Aside0.mk (below_step (by repeat (first | (with_reducible first | exact HB.out | apply below_alloc | apply pw_below_drewN | apply below_drew1 | refine below_set ?_ GE126.out | refine below_set ?_ GE127.out) | exact HB.out)) hb); clear HO_7; clear BK126; clear BK127; clear HB; have HO_7 := n0_; have BK126 := n1_; have BK127 := n2_; have HB := n3_; clear n0_ n1_ n2_ n3_; (try clear hb); (try clear hb2); (try clear hk); (try clear hi); have hcz84_0 : w83.cell? ⟨gb127, 0, none⟩ = some (.int .i64 a1_0) := (blk_cell BK127.out 0).trans rfl; have hcz84_1 : w83.cell? ⟨gb127, 1, none⟩ = some (.int .i64 a1_1) := (blk_cell BK127.out 1).trans rfl; have hcz84_2 : w83.cell? ⟨gb127, 2, none⟩ = some (.int .i64 a1_2) := (blk_cell BK127.out 2).trans rfl; have hcz84_3 : w83.cell? ⟨gb127, 3, none⟩ = some (.int .i64 a1_3) := (blk_cell BK127.out 3).trans rfl; have hcz84_4 : w83.cell? ⟨gb127, 4, none⟩ = some (.int .i64 a1_4) := (blk_cell BK127.out 4).trans rfl; have hcz84_5 : w83.cell? ⟨gb127, 5, none⟩ = some (.int .i64 a1_5) := (blk_cell BK127.out 5).trans rfl; have hcz84_6 : w83.cell? ⟨gb127, 6, none⟩ = some (.int .i64 a1_6) := (blk_cell BK127.out 6).trans rfl; have hcz84_7 : w83.cell? ⟨gb127, 7, none⟩ = some (.int .i64 a1_7) := (blk_cell BK127.out 7).trans rfl; have hfz84_0 := blk_frozen BK127.out 0; have hfz84_1 := blk_frozen BK127.out 1; have hfz84_2 := blk_frozen BK127.out 2; have hfz84_3 := blk_frozen BK127.out 3; have hfz84_4 := blk_frozen BK127.out 4; have hfz84_5 := blk_frozen BK127.out 5; have hfz84_6 := blk_frozen BK127.out 6; have hfz84_7 := blk_frozen BK127.out 7))
                                            repeat (go_quiet (first | (go_at_call 24; (with_reducible refine (window_Padded.calls a0_0 a0_1 a0_2 a1_0 a1_1 a1_2 a1_3 a1_4 a1_5 a1_6 a1_7 a2 t145 t146 _ A69.out).mono ?_); rintro e w83 ⟨rfl, hb⟩; have n0_ := Aside0.mk (Kd.R_below (by (with_reducible repeat (first | apply Kd.R_alloc | apply Kd.R_drewN | apply Kd.R_drew)); exact HO_7.out) hb); have n1_ := Aside0.mk (blk_below (g := gb126) (o := .cells #[.int .i64 a0_0, .int .i64 a0_1, .int .i64 a0_2] 23 (0, 0)) (by (with_reducible repeat (first | refine blk_drewN ?_ _ | refine blk_drew ?_ | refine blk_alloc ?_ _)); exact BK126.out) hb); have n2_ := Aside0.mk (blk_below (g := gb127) (o := .cells #[.int .i64 a1_0, .int .i64 a1_1, .int .i64 a1_2, .int .i64 a1_3, .int .i64 a1_4, .int .i64 a1_5, .int .i64 a1_6, .int .i64 a1_7] 25 (0, 0)) (by (with_reducible repeat (first | refine blk_drewN ?_ _ | refine blk_drew ?_ | refine blk_alloc ?_ _)); exact BK127.out) hb); have n3_ := Aside0.mk (below_step (by repeat (first | (with_reducible first | exact HB.out | apply below_alloc | apply pw_below_drewN | apply below_drew1 | refine below_set ?_ GE126.out | refine below_set ?_ GE127.out) | exact HB.out)) hb); clear HO_7; clear BK126; clear BK127; clear HB; have HO_7 := n0_; have BK126 := n1_; have BK127 := n2_; have HB := n3_; clear n0_ n1_ n2_ n3_; (try clear hb); (try clear hb2); (try clear hk); (try clear hi); have hcz84_0 : w83.cell? ⟨gb127, 0, none⟩ = some (.int .i64 a1_0) := (blk_cell BK127.out 0).trans rfl; have hcz84_1 : w83.cell? ⟨gb127, 1, none⟩ = some (.int .i64 a1_1) := (blk_cell BK127.out 1).trans rfl; have hcz84_2 : w83.cell? ⟨gb127, 2, none⟩ = some (.int .i64 a1_2) := (blk_cell BK127.out 2).trans rfl; have hcz84_3 : w83.cell? ⟨gb127, 3, none⟩ = some (.int .i64 a1_3) := (blk_cell BK127.out 3).trans rfl; have hcz84_4 : w83.cell? ⟨gb127, 4, none⟩ = some (.int .i64 a1_4) := (blk_cell BK127.out 4).trans rfl; have hcz84_5 : w83.cell? ⟨gb127, 5, none⟩ = some (.int .i64 a1_5) := (blk_cell BK127.out 5).trans rfl; have hcz84_6 : w83.cell? ⟨gb127, 6, none⟩ = some (.int .i64 a1_6) := (blk_cell BK127.out 6).trans rfl; have hcz84_7 : w83.cell? ⟨gb127, 7, none⟩ = some (.int .i64 a1_7) := (blk_cell BK127.out 7).trans rfl; have hfz84_0 := blk_frozen BK127.out 0; have hfz84_1 := blk_frozen BK127.out 1; have hfz84_2 := blk_frozen BK127.out 2; have hfz84_3 := blk_frozen BK127.out 3; have hfz84_4 := blk_frozen BK127.out 4; have hfz84_5 := blk_frozen BK127.out 5; have hfz84_6 := blk_frozen BK127.out 6; have hfz84_7 := blk_frozen BK127.out 7)); try go_wp2_with (first | (go_at_call 24; (with_reducible refine (window_Padded.calls a0_0 a0_1 a0_2 a1_0 a1_1 a1_2 a1_3 a1_4 a1_5 a1_6 a1_7 a2 t145 t146 _ A69.out).mono ?_); rintro e w83 ⟨rfl, hb⟩; have n0_ := Aside0.mk (Kd.R_below (by (with_reducible repeat (first | apply Kd.R_alloc | apply Kd.R_drewN | apply Kd.R_drew)); exact HO_7.out) hb); have n1_ := Aside0.mk (blk_below (g := gb126) (o := .cells #[.int .i64 a0_0, .int .i64 a0_1, .int .i64 a0_2] 23 (0, 0)) (by (with_reducible repeat (first | refine blk_drewN ?_ _ | refine blk_drew ?_ | refine blk_alloc ?_ _)); exact BK126.out) hb); have n2_ := Aside0.mk (blk_below (g := gb127) (o := .cells #[.int .i64 a1_0, .int .i64 a1_1, .int .i64 a1_2, .int .i64 a1_3, .int .i64 a1_4, .int .i64 a1_5, .int .i64 a1_6, .int .i64 a1_7] 25 (0, 0)) (by (with_reducible repeat (first | refine blk_drewN ?_ _ | refine blk_drew ?_ | refine blk_alloc ?_ _)); exact BK127.out) hb); have n3_ := Aside0.mk (below_step (by repeat (first | (with_reducible first | exact HB.out | apply below_alloc | apply pw_below_drewN | apply below_drew1 | refine below_set ?_ GE126.out | refine below_set ?_ GE127.out) | exact HB.out)) hb); clear HO_7; clear BK126; clear BK127; clear HB; have HO_7 := n0_; have BK126 := n1_; have BK127 := n2_; have HB := n3_; clear n0_ n1_ n2_ n3_; (try clear hb); (try clear hb2); (try clear hk); (try clear hi); have hcz84_0 : w83.cell? ⟨gb127, 0, none⟩ = some (.int .i64 a1_0) := (blk_cell BK127.out 0).trans rfl; have hcz84_1 : w83.cell? ⟨gb127, 1, none⟩ = some (.int .i64 a1_1) := (blk_cell BK127.out 1).trans rfl; have hcz84_2 : w83.cell? ⟨gb127, 2, none⟩ = some (.int .i64 a1_2) := (blk_cell BK127.out 2).trans rfl; have hcz84_3 : w83.cell? ⟨gb127, 3, none⟩ = some (.int .i64 a1_3) := (blk_cell BK127.out 3).trans rfl; have hcz84_4 : w83.cell? ⟨gb127, 4, none⟩ = some (.int .i64 a1_4) := (blk_cell BK127.out 4).trans rfl; have hcz84_5 : w83.cell? ⟨gb127, 5, none⟩ = some (.int .i64 a1_5) := (blk_cell BK127.out 5).trans rfl; have hcz84_6 : w83.cell? ⟨gb127, 6, none⟩ = some (.int .i64 a1_6) := (blk_cell BK127.out 6).trans rfl; have hcz84_7 : w83.cell? ⟨gb127, 7, none⟩ = some (.int .i64 a1_7) := (blk_cell BK127.out 7).trans rfl; have hfz84_0 := blk_frozen BK127.out 0; have hfz84_1 := blk_frozen BK127.out 1; have hfz84_2 := blk_frozen BK127.out 2; have hfz84_3 := blk_frozen BK127.out 3; have hfz84_4 := blk_frozen BK127.out 4; have hfz84_5 := blk_frozen BK127.out 5; have hfz84_6 := blk_frozen BK127.out 6; have hfz84_7 := blk_frozen BK127.out 7)))
                                            go_ret
                                            exact ⟨by first | rfl | (simp [errW_none, errW_some] <;> rfl) | (simp only [← hji18]; first | rfl | (simp [errW_none, errW_some] <;> rfl)) | (simp [*, errW_none, errW_some] <;> rfl) | (exfalso; simp only [decide_eq_true_eq, decide_eq_false_iff_not, gt_iff_lt, ge_iff_le] at *; omega), by repeat (first | (with_reducible first | exact HB.out | apply below_alloc | apply pw_below_drewN | apply below_drew1 | refine below_set ?_ GE126.out | refine below_set ?_ GE127.out) | exact HB.out)⟩
                                        · rw [if_neg c73] at H
                                          have c73b0 : decide (t145 < (wrap64 (a1_0 * a1_1))) = false := decide_eq_false c73
                                          clear c73
                                          exact absurd ((Option.some.inj H).trans HRT.out) Bool.false_ne_true
                                      · rw [if_neg c72] at H
                                        have c72b0 : decide (0 ≤ t145) = false := decide_eq_false c72
                                        clear c72
                                        exact absurd ((Option.some.inj H).trans HRT.out) Bool.false_ne_true
                                    · rw [if_neg c71] at H
                                      have c71b0 : (t146 == 0) = false := beq_eq_false_iff_ne.mpr c71
                                      have c70x4 : (decide ((t128.length : Int) > 0)) = false := by have h_ := c70b0; rw [c71b0] at h_; simpa using h_
                                      have c71b1 : (t146 != 0) = true := bne_iff_ne.mpr c71
                                      obtain rfl := Option.some.inj H
                                      have hnb85 := NB126_127.out
                                      have hnc85 := NB127_126.out
                                      have hcz86_0 : wr.cell? ⟨gb126, 0, none⟩ = some (.int .i64 a0_0) := (blk_cell BK126.out 0).trans rfl
                                      have hcz86_1 : wr.cell? ⟨gb126, 1, none⟩ = some (.int .i64 a0_1) := (blk_cell BK126.out 1).trans rfl
                                      have hcz86_2 : wr.cell? ⟨gb126, 2, none⟩ = some (.int .i64 a0_2) := (blk_cell BK126.out 2).trans rfl
                                      have hfz86_0 := blk_frozen BK126.out 0
                                      have hfz86_1 := blk_frozen BK126.out 1
                                      have hfz86_2 := blk_frozen BK126.out 2
                                      have hcz87_0 : wr.cell? ⟨gb127, 0, none⟩ = some (.int .i64 a1_0) := (blk_cell BK127.out 0).trans rfl
                                      have hcz87_1 : wr.cell? ⟨gb127, 1, none⟩ = some (.int .i64 a1_1) := (blk_cell BK127.out 1).trans rfl
                                      have hcz87_2 : wr.cell? ⟨gb127, 2, none⟩ = some (.int .i64 a1_2) := (blk_cell BK127.out 2).trans rfl
                                      have hcz87_3 : wr.cell? ⟨gb127, 3, none⟩ = some (.int .i64 a1_3) := (blk_cell BK127.out 3).trans rfl
                                      have hcz87_4 : wr.cell? ⟨gb127, 4, none⟩ = some (.int .i64 a1_4) := (blk_cell BK127.out 4).trans rfl
                                      have hcz87_5 : wr.cell? ⟨gb127, 5, none⟩ = some (.int .i64 a1_5) := (blk_cell BK127.out 5).trans rfl
                                      have hcz87_6 : wr.cell? ⟨gb127, 6, none⟩ = some (.int .i64 a1_6) := (blk_cell BK127.out 6).trans rfl
                                      have hcz87_7 : wr.cell? ⟨gb127, 7, none⟩ = some (.int .i64 a1_7) := (blk_cell BK127.out 7).trans rfl
                                      have hfz87_0 := blk_frozen BK127.out 0
                                      have hfz87_1 := blk_frozen BK127.out 1
                                      have hfz87_2 := blk_frozen BK127.out 2
                                      have hfz87_3 := blk_frozen BK127.out 3
                                      have hfz87_4 := blk_frozen BK127.out 4
                                      have hfz87_5 := blk_frozen BK127.out 5
                                      have hfz87_6 := blk_frozen BK127.out 6
                                      have hfz87_7 := blk_frozen BK127.out 7
                                      go_wp2_with (first | (go_at_call 24; (with_reducible refine (window_Padded.calls a0_0 a0_1 a0_2 a1_0 a1_1 a1_2 a1_3 a1_4 a1_5 a1_6 a1_7 a2 t145 t146 _ A69.out).mono ?_); rintro e w88 ⟨rfl, hb⟩; have n0_ := Aside0.mk (Kd.R_below (by (with_reducible repeat (first | apply Kd.R_alloc | apply Kd.R_drewN | apply Kd.R_drew)); exact HO_7.out) hb); have n1_ := Aside0.mk (blk_below (g := gb126) (o := .cells #[.int .i64 a0_0, .int .i64 a0_1, .int .i64 a0_2] 23 (0, 0)) (by (with_reducible repeat (first | refine blk_drewN ?_ _ | refine blk_drew ?_ | refine blk_alloc ?_ _)); exact BK126.out) hb); have n2_ := Aside0.mk (blk_below (g := gb127) (o := .cells #[.int .i64 a1_0, .int .i64 a1_1, .int .i64 a1_2, .int .i64 a1_3, .int .i64 a1_4, .int .i64 a1_5, .int .i64 a1_6, .int .i64 a1_7] 25 (0, 0)) (by (with_reducible repeat (first | refine blk_drewN ?_ _ | refine blk_drew ?_ | refine blk_alloc ?_ _)); exact BK127.out) hb); have n3_ := Aside0.mk (below_step (by repeat (first | (with_reducible first | exact HB.out | apply below_alloc | apply pw_below_drewN | apply below_drew1 | refine below_set ?_ GE126.out | refine below_set ?_ GE127.out) | exact HB.out)) hb); clear HO_7; clear BK126; clear BK127; clear HB; have HO_7 := n0_; have BK126 := n1_; have BK127 := n2_; have HB := n3_; clear n0_ n1_ n2_ n3_; (try clear hb); (try clear hb2); (try clear hk); (try clear hi)))
                                      repeat (go_quiet (first | (go_at_call 24; (with_reducible refine (window_Padded.calls a0_0 a0_1 a0_2 a1_0 a1_1 a1_2 a1_3 a1_4 a1_5 a1_6 a1_7 a2 t145 t146 _ A69.out).mono ?_); rintro e w88 ⟨rfl, hb⟩; have n0_ := Aside0.mk (Kd.R_below (by (with_reducible repeat (first | apply Kd.R_alloc | apply Kd.R_drewN | apply Kd.R_drew)); exact HO_7.out) hb); have n1_ := Aside0.mk (blk_below (g := gb126) (o := .cells #[.int .i64 a0_0, .int .i64 a0_1, .int .i64 a0_2] 23 (0, 0)) (by (with_reducible repeat (first | refine blk_drewN ?_ _ | refine blk_drew ?_ | refine blk_alloc ?_ _)); exact BK126.out) hb); have n2_ := Aside0.mk (blk_below (g := gb127) (o := .cells #[.int .i64 a1_0, .int .i64 a1_1, .int .i64 a1_2, .int .i64 a1_3, .int .i64 a1_4, .int .i64 a1_5, .int .i64 a1_6, .int .i64 a1_7] 25 (0, 0)) (by (with_reducible repeat (first | refine blk_drewN ?_ _ | refine blk_drew ?_ | refine blk_alloc ?_ _)); exact BK127.out) hb); have n3_ := Aside0.mk (below_step (by repeat (first | (with_reducible first | exact HB.out | apply below_alloc | apply pw_below_drewN | apply below_drew1 | refine below_set ?_ GE126.out | refine below_set ?_ GE127.out) | exact HB.out)) hb); clear HO_7; clear BK126; clear BK127; clear HB; have HO_7 := n0_; have BK126 := n1_; have BK127 := n2_; have HB := n3_; clear n0_ n1_ n2_ n3_; (try clear hb); (try clear hb2); (try clear hk); (try clear hi))); try go_wp2_with (first | (go_at_call 24; (with_reducible refine (window_Padded.calls a0_0 a0_1 a0_2 a1_0 a1_1 a1_2 a1_3 a1_4 a1_5 a1_6 a1_7 a2 t145 t146 _ A69.out).mono ?_); rintro e w88 ⟨rfl, hb⟩; have n0_ := Aside0.mk (Kd.R_below (by (with_reducible repeat (first | apply Kd.R_alloc | apply Kd.R_drewN | apply Kd.R_drew)); exact HO_7.out) hb); have n1_ := Aside0.mk (blk_below (g := gb126) (o := .cells #[.int .i64 a0_0, .int .i64 a0_1, .int .i64 a0_2] 23 (0, 0)) (by (with_reducible repeat (first | refine blk_drewN ?_ _ | refine blk_drew ?_ | refine blk_alloc ?_ _)); exact BK126.out) hb); have n2_ := Aside0.mk (blk_below (g := gb127) (o := .cells #[.int .i64 a1_0, .int .i64 a1_1, .int .i64 a1_2, .int .i64 a1_3, .int .i64 a1_4, .int .i64 a1_5, .int .i64 a1_6, .int .i64 a1_7] 25 (0, 0)) (by (with_reducible repeat (first | refine blk_drewN ?_ _ | refine blk_drew ?_ | refine blk_alloc ?_ _)); exact BK127.out) hb); have n3_ := Aside0.mk (below_step (by repeat (first | (with_reducible first | exact HB.out | apply below_alloc | apply pw_below_drewN | apply below_drew1 | refine below_set ?_ GE126.out | refine below_set ?_ GE127.out) | exact HB.out)) hb); clear HO_7; clear BK126; clear BK127; clear HB; have HO_7 := n0_; have BK126 := n1_; have BK127 := n2_; have HB := n3_; clear n0_ n1_ n2_ n3_; (try clear hb); (try clear hb2); (try clear hk); (try clear hi))))
                                      go_ret
                                      exact ⟨by first | rfl | (simp [errW_none, errW_some] <;> rfl) | (simp only [← hji18]; first | rfl | (simp [errW_none, errW_some] <;> rfl)) | (simp [*, errW_none, errW_some] <;> rfl) | (exfalso; simp only [decide_eq_true_eq, decide_eq_false_iff_not, gt_iff_lt, ge_iff_le] at *; omega), by repeat (first | (with_reducible first | exact HB.out | apply below_alloc | apply pw_below_drewN | apply below_drew1 | refine below_set ?_ GE126.out | refine below_set ?_ GE127.out) | exact HB.out)⟩
                                  · rw [if_neg c70] at H
                                    have c70b0 : ((t146 == 0) == (decide ((t128.length : Int) > 0))) = false := by simpa using c70
                                    (try (have c70b1 : decide ((t146 == 0) = (decide ((t128.length : Int) > 0))) = false := by simpa using c70))
                                    (try (have c70b2 : ((t146 == 0) == (decide ((t128.length : Int) > 0))) = false := by simpa using c70))
                                    (try (have c70b3 : ¬ ((t146 == 0) = (decide ((t128.length : Int) > 0))) := by simpa using c70))
                                    clear c70
                                    exact absurd ((Option.some.inj H).trans HRT.out) Bool.false_ne_true
                              · rw [if_neg c46] at H
                                have c46b0 : decide (40 < x10_2) = false := decide_eq_false c46
                                clear c46
                                have H' := Aside0.mk H
                                clear H
                                go_wp2
                                repeat (go_quiet (fail); try go_wp2)
                                go_roundg k4
                                case measure => have := HJ4.out; have := HK2.out; have := HJ21.out; have := HK4.out; omega
                                case rel => exact ⟨((wrap64 (x9_2 + 1))), (wrap64 (x10_2 + 2)), (by first | rfl | (simp; done) | (simp [*]; done)), (by first | rfl | (simp; done) | (simp [*]; done)), H', ⟨by have := HJ4.out; have := HK2.out; have := HJ21.out; have := HK4.out; omega⟩, ⟨by (with_reducible repeat (first | apply Kd.R_alloc | apply Kd.R_drewN | apply Kd.R_drew)); exact HO_7.out⟩, ⟨by (with_reducible repeat (first | refine blk_drewN ?_ _ | refine blk_drew ?_ | refine blk_alloc ?_ _)); exact BK126.out⟩, ⟨by (with_reducible repeat (first | refine blk_drewN ?_ _ | refine blk_drew ?_ | refine blk_alloc ?_ _)); exact BK127.out⟩, ⟨by repeat (first | (with_reducible first | exact HB.out | apply below_alloc | apply pw_below_drewN | apply below_drew1 | refine below_set ?_ GE126.out | refine below_set ?_ GE127.out) | exact HB.out)⟩⟩
              · rw [if_neg c19] at H
                exact absurd H (by simp)
            · rw [if_neg c17] at H
              have c17b0 : decide ((wrap64 (x10_2 + 1)) < (t128.length : Int)) = false := decide_eq_false c17
              clear c17
              by_cases c89 : (t128.length : Int) > 0
              · rw [if_pos c89] at H
                have c89b0 : decide (0 < (t128.length : Int)) = true := decide_eq_true c89
                have c89b1 : decide (0 < t128.length) = true := decide_eq_true (by omega)
                clear c89
                by_cases c90 : (t128.length : Int) = (wrap64 ((wrap64 (2 * a1_0)) * a1_1))
                · rw [if_pos c90] at H
                  have c90b0 : ((t128.length : Int) == (wrap64 ((wrap64 (2 * a1_0)) * a1_1))) = true := beq_iff_eq.mpr c90
                  have c90b1 : ((t128.length : Int) != (wrap64 ((wrap64 (2 * a1_0)) * a1_1))) = false := bne_eq_false_iff_eq.mpr c90
                  clear c90
                  replace H := Option.bind_eq_some_iff.mp H
                  obtain ⟨⟨t133, t134⟩, A910, H⟩ := H
                  replace H : (if ((t134 == 0) == (decide ((t128.length : Int) > 0))) = true then (if t134 = 0 then (if t133 ≥ 0 then (if t133 < (wrap64 (a1_0 * a1_1)) then (if x9_2 > 0 then (some true) else (some (decide ((t128.length : Int) > 40)))) else (some false)) else (some false)) else (some true)) else (some false)) = some r := H
                  have A91 := Aside0.mk A910
                  clear A910
                  by_cases c92 : ((t134 == 0) == (decide ((t128.length : Int) > 0))) = true
                  · rw [if_pos c92] at H
                    have c92b0 : ((t134 == 0) == (decide ((t128.length : Int) > 0))) = true := c92
                    (try (have c92b1 : decide ((t134 == 0) = (decide ((t128.length : Int) > 0))) = true := by simpa using c92))
                    (try (have c92b2 : ((t134 == 0) == (decide ((t128.length : Int) > 0))) = true := by simpa using c92))
                    clear c92
                    by_cases c93 : t134 = 0
                    · rw [if_pos c93] at H
                      have c93b0 : (t134 == 0) = true := beq_iff_eq.mpr c93
                      have c92x5 : (decide ((t128.length : Int) > 0)) = true := by have h_ := c92b0; rw [c93b0] at h_; simpa using h_
                      have c93b1 : (t134 != 0) = false := bne_eq_false_iff_eq.mpr c93
                      clear c93
                      by_cases c94 : t133 ≥ 0
                      · rw [if_pos c94] at H
                        have c94b0 : decide (0 ≤ t133) = true := decide_eq_true c94
                        clear c94
                        by_cases c95 : t133 < (wrap64 (a1_0 * a1_1))
                        · rw [if_pos c95] at H
                          have c95b0 : decide (t133 < (wrap64 (a1_0 * a1_1))) = true := decide_eq_true c95
                          clear c95
                          by_cases c96 : x9_2 > 0
                          · rw [if_pos c96] at H
                            have c96b0 : decide (0 < x9_2) = true := decide_eq_true c96
                            clear c96
                            obtain rfl := Option.some.inj H
                            obtain ⟨Ao97, co97, eo97⟩ := Kd.R_slice HO_7.out
                            subst eo97
                            have hnb98 := NB127_126.out
                            have hnc98 := NB126_127.out
                            have hcz99_0 : wr.cell? ⟨gb127, 0, none⟩ = some (.int .i64 a1_0) := (blk_cell BK127.out 0).trans rfl
                            have hcz99_1 : wr.cell? ⟨gb127, 1, none⟩ = some (.int .i64 a1_1) := (blk_cell BK127.out 1).trans rfl
                            have hcz99_2 : wr.cell? ⟨gb127, 2, none⟩ = some (.int .i64 a1_2) := (blk_cell BK127.out 2).trans rfl
                            have hcz99_3 : wr.cell? ⟨gb127, 3, none⟩ = some (.int .i64 a1_3) := (blk_cell BK127.out 3).trans rfl
                            have hcz99_4 : wr.cell? ⟨gb127, 4, none⟩ = some (.int .i64 a1_4) := (blk_cell BK127.out 4).trans rfl
                            have hcz99_5 : wr.cell? ⟨gb127, 5, none⟩ = some (.int .i64 a1_5) := (blk_cell BK127.out 5).trans rfl
                            have hcz99_6 : wr.cell? ⟨gb127, 6, none⟩ = some (.int .i64 a1_6) := (blk_cell BK127.out 6).trans rfl
                            have hcz99_7 : wr.cell? ⟨gb127, 7, none⟩ = some (.int .i64 a1_7) := (blk_cell BK127.out 7).trans rfl
                            have hfz99_0 := blk_frozen BK127.out 0
                            have hfz99_1 := blk_frozen BK127.out 1
                            have hfz99_2 := blk_frozen BK127.out 2
                            have hfz99_3 := blk_frozen BK127.out 3
                            have hfz99_4 := blk_frozen BK127.out 4
                            have hfz99_5 := blk_frozen BK127.out 5
                            have hfz99_6 := blk_frozen BK127.out 6
                            have hfz99_7 := blk_frozen BK127.out 7
                            have hcz100_0 : wr.cell? ⟨gb126, 0, none⟩ = some (.int .i64 a0_0) := (blk_cell BK126.out 0).trans rfl
                            have hcz100_1 : wr.cell? ⟨gb126, 1, none⟩ = some (.int .i64 a0_1) := (blk_cell BK126.out 1).trans rfl
                            have hcz100_2 : wr.cell? ⟨gb126, 2, none⟩ = some (.int .i64 a0_2) := (blk_cell BK126.out 2).trans rfl
                            have hfz100_0 := blk_frozen BK126.out 0
                            have hfz100_1 := blk_frozen BK126.out 1
                            have hfz100_2 := blk_frozen BK126.out 2
                            go_wp2_with (first | (go_at_call 24; (with_reducible refine (window_Padded.calls a0_0 a0_1 a0_2 a1_0 a1_1 a1_2 a1_3 a1_4 a1_5 a1_6 a1_7 a2 t133 t134 _ A91.out).mono ?_); rintro e w101 ⟨rfl, hb⟩; have n0_ := Aside0.mk (Kd.R_below (by (with_reducible repeat (first | apply Kd.R_alloc | apply Kd.R_drewN | apply Kd.R_drew)); exact HO_7.out) hb); have n1_ := Aside0.mk (blk_below (g := gb126) (o := .cells #[.int .i64 a0_0, .int .i64 a0_1, .int .i64 a0_2] 23 (0, 0)) (by (with_reducible repeat (first | refine blk_drewN ?_ _ | refine blk_drew ?_ | refine blk_alloc ?_ _)); exact BK126.out) hb); have n2_ := Aside0.mk (blk_below (g := gb127) (o := .cells #[.int .i64 a1_0, .int .i64 a1_1, .int .i64 a1_2, .int .i64 a1_3, .int .i64 a1_4, .int .i64 a1_5, .int .i64 a1_6, .int .i64 a1_7] 25 (0, 0)) (by (with_reducible repeat (first | refine blk_drewN ?_ _ | refine blk_drew ?_ | refine blk_alloc ?_ _)); exact BK127.out) hb); have n3_ := Aside0.mk (below_step (by repeat (first | (with_reducible first | exact HB.out | apply below_alloc | apply pw_below_drewN | apply below_drew1 | refine below_set ?_ GE126.out | refine below_set ?_ GE127.out) | exact HB.out)) hb); clear HO_7; clear BK126; clear BK127; clear HB; have HO_7 := n0_; have BK126 := n1_; have BK127 := n2_; have HB := n3_; clear n0_ n1_ n2_ n3_; (try clear hb); (try clear hb2); (try clear hk); (try clear hi); have hcz102_0 : w101.cell? ⟨gb127, 0, none⟩ = some (.int .i64 a1_0) := (blk_cell BK127.out 0).trans rfl; have hcz102_1 : w101.cell? ⟨gb127, 1, none⟩ = some (.int .i64 a1_1) := (blk_cell BK127.out 1).trans rfl; have hcz102_2 : w101.cell? ⟨gb127, 2, none⟩ = some (.int .i64 a1_2) := (blk_cell BK127.out 2).trans rfl; have hcz102_3 : w101.cell? ⟨gb127, 3, none⟩ = some (.int .i64 a1_3) := (blk_cell BK127.out 3).trans rfl; have hcz102_4 : w101.cell? ⟨gb127, 4, none⟩ = some (.int .i64 a1_4) := (blk_cell BK127.out 4).trans rfl; have hcz102_5 : w101.cell? ⟨gb127, 5, none⟩ = some (.int .i64 a1_5) := (blk_cell BK127.out 5).trans rfl; have hcz102_6 : w101.cell? ⟨gb127, 6, none⟩ = some (.int .i64 a1_6) := (blk_cell BK127.out 6).trans rfl; have hcz102_7 : w101.cell? ⟨gb127, 7, none⟩ = some (.int .i64 a1_7) := (blk_cell BK127.out 7).trans rfl; have hfz102_0 := blk_frozen BK127.out 0; have hfz102_1 := blk_frozen BK127.out 1; have hfz102_2 := blk_frozen BK127.out 2; have hfz102_3 := blk_frozen BK127.out 3; have hfz102_4 := blk_frozen BK127.out 4; have hfz102_5 := blk_frozen BK127.out 5; have hfz102_6 := blk_frozen BK127.out 6; have hfz102_7 := blk_frozen BK127.out 7))
                            repeat (go_quiet (first | (go_at_call 24; (with_reducible refine (window_Padded.calls a0_0 a0_1 a0_2 a1_0 a1_1 a1_2 a1_3 a1_4 a1_5 a1_6 a1_7 a2 t133 t134 _ A91.out).mono ?_); rintro e w101 ⟨rfl, hb⟩; have n0_ := Aside0.mk (Kd.R_below (by (with_reducible repeat (first | apply Kd.R_alloc | apply Kd.R_drewN | apply Kd.R_drew)); exact HO_7.out) hb); have n1_ := Aside0.mk (blk_below (g := gb126) (o := .cells #[.int .i64 a0_0, .int .i64 a0_1, .int .i64 a0_2] 23 (0, 0)) (by (with_reducible repeat (first | refine blk_drewN ?_ _ | refine blk_drew ?_ | refine blk_alloc ?_ _)); exact BK126.out) hb); have n2_ := Aside0.mk (blk_below (g := gb127) (o := .cells #[.int .i64 a1_0, .int .i64 a1_1, .int .i64 a1_2, .int .i64 a1_3, .int .i64 a1_4, .int .i64 a1_5, .int .i64 a1_6, .int .i64 a1_7] 25 (0, 0)) (by (with_reducible repeat (first | refine blk_drewN ?_ _ | refine blk_drew ?_ | refine blk_alloc ?_ _)); exact BK127.out) hb); have n3_ := Aside0.mk (below_step (by repeat (first | (with_reducible first | exact HB.out | apply below_alloc | apply pw_below_drewN | apply below_drew1 | refine below_set ?_ GE126.out | refine below_set ?_ GE127.out) | exact HB.out)) hb); clear HO_7; clear BK126; clear BK127; clear HB; have HO_7 := n0_; have BK126 := n1_; have BK127 := n2_; have HB := n3_; clear n0_ n1_ n2_ n3_; (try clear hb); (try clear hb2); (try clear hk); (try clear hi); have hcz102_0 : w101.cell? ⟨gb127, 0, none⟩ = some (.int .i64 a1_0) := (blk_cell BK127.out 0).trans rfl; have hcz102_1 : w101.cell? ⟨gb127, 1, none⟩ = some (.int .i64 a1_1) := (blk_cell BK127.out 1).trans rfl; have hcz102_2 : w101.cell? ⟨gb127, 2, none⟩ = some (.int .i64 a1_2) := (blk_cell BK127.out 2).trans rfl; have hcz102_3 : w101.cell? ⟨gb127, 3, none⟩ = some (.int .i64 a1_3) := (blk_cell BK127.out 3).trans rfl; have hcz102_4 : w101.cell? ⟨gb127, 4, none⟩ = some (.int .i64 a1_4) := (blk_cell BK127.out 4).trans rfl; have hcz102_5 : w101.cell? ⟨gb127, 5, none⟩ = some (.int .i64 a1_5) := (blk_cell BK127.out 5).trans rfl; have hcz102_6 : w101.cell? ⟨gb127, 6, none⟩ = some (.int .i64 a1_6) := (blk_cell BK127.out 6).trans rfl; have hcz102_7 : w101.cell? ⟨gb127, 7, none⟩ = some (.int .i64 a1_7) := (blk_cell BK127.out 7).trans rfl; have hfz102_0 := blk_frozen BK127.out 0; have hfz102_1 := blk_frozen BK127.out 1; have hfz102_2 := blk_frozen BK127.out 2; have hfz102_3 := blk_frozen BK127.out 3; have hfz102_4 := blk_frozen BK127.out 4; have hfz102_5 := blk_frozen BK127.out 5; have hfz102_6 := blk_frozen BK127.out 6; have hfz102_7 := blk_frozen BK127.out 7)); try go_wp2_with (first | (go_at_call 24; (with_reducible refine (window_Padded.calls a0_0 a0_1 a0_2 a1_0 a1_1 a1_2 a1_3 a1_4 a1_5 a1_6 a1_7 a2 t133 t134 _ A91.out).mono ?_); rintro e w101 ⟨rfl, hb⟩; have n0_ := Aside0.mk (Kd.R_below (by (with_reducible repeat (first | apply Kd.R_alloc | apply Kd.R_drewN | apply Kd.R_drew)); exact HO_7.out) hb); have n1_ := Aside0.mk (blk_below (g := gb126) (o := .cells #[.int .i64 a0_0, .int .i64 a0_1, .int .i64 a0_2] 23 (0, 0)) (by (with_reducible repeat (first | refine blk_drewN ?_ _ | refine blk_drew ?_ | refine blk_alloc ?_ _)); exact BK126.out) hb); have n2_ := Aside0.mk (blk_below (g := gb127) (o := .cells #[.int .i64 a1_0, .int .i64 a1_1, .int .i64 a1_2, .int .i64 a1_3, .int .i64 a1_4, .int .i64 a1_5, .int .i64 a1_6, .int .i64 a1_7] 25 (0, 0)) (by (with_reducible repeat (first | refine blk_drewN ?_ _ | refine blk_drew ?_ | refine blk_alloc ?_ _)); exact BK127.out) hb); have n3_ := Aside0.mk (below_step (by repeat (first | (with_reducible first | exact HB.out | apply below_alloc | apply pw_below_drewN | apply below_drew1 | refine below_set ?_ GE126.out | refine below_set ?_ GE127.out) | exact HB.out)) hb); clear HO_7; clear BK126; clear BK127; clear HB; have HO_7 := n0_; have BK126 := n1_; have BK127 := n2_; have HB := n3_; clear n0_ n1_ n2_ n3_; (try clear hb); (try clear hb2); (try clear hk); (try clear hi); have hcz102_0 : w101.cell? ⟨gb127, 0, none⟩ = some (.int .i64 a1_0) := (blk_cell BK127.out 0).trans rfl; have hcz102_1 : w101.cell? ⟨gb127, 1, none⟩ = some (.int .i64 a1_1) := (blk_cell BK127.out 1).trans rfl; have hcz102_2 : w101.cell? ⟨gb127, 2, none⟩ = some (.int .i64 a1_2) := (blk_cell BK127.out 2).trans rfl; have hcz102_3 : w101.cell? ⟨gb127, 3, none⟩ = some (.int .i64 a1_3) := (blk_cell BK127.out 3).trans rfl; have hcz102_4 : w101.cell? ⟨gb127, 4, none⟩ = some (.int .i64 a1_4) := (blk_cell BK127.out 4).trans rfl; have hcz102_5 : w101.cell? ⟨gb127, 5, none⟩ = some (.int .i64 a1_5) := (blk_cell BK127.out 5).trans rfl; have hcz102_6 : w101.cell? ⟨gb127, 6, none⟩ = some (.int .i64 a1_6) := (blk_cell BK127.out 6).trans rfl; have hcz102_7 : w101.cell? ⟨gb127, 7, none⟩ = some (.int .i64 a1_7) := (blk_cell BK127.out 7).trans rfl; have hfz102_0 := blk_frozen BK127.out 0; have hfz102_1 := blk_frozen BK127.out 1; have hfz102_2 := blk_frozen BK127.out 2; have hfz102_3 := blk_frozen BK127.out 3; have hfz102_4 := blk_frozen BK127.out 4; have hfz102_5 := blk_frozen BK127.out 5; have hfz102_6 := blk_frozen BK127.out 6; have hfz102_7 := blk_frozen BK127.out 7)))
                            go_ret
                            exact ⟨by first | rfl | (simp [errW_none, errW_some] <;> rfl) | (simp [*, errW_none, errW_some] <;> rfl) | (exfalso; simp only [decide_eq_true_eq, decide_eq_false_iff_not, gt_iff_lt, ge_iff_le] at *; omega), by repeat (first | (with_reducible first | exact HB.out | apply below_alloc | apply pw_below_drewN | apply below_drew1 | refine below_set ?_ GE126.out | refine below_set ?_ GE127.out) | exact HB.out)⟩
                          · rw [if_neg c96] at H
                            have c96b0 : decide (0 < x9_2) = false := decide_eq_false c96
                            clear c96
                            obtain rfl := Option.some.inj H
                            obtain ⟨Ao103, co103, eo103⟩ := Kd.R_slice HO_7.out
                            subst eo103
                            have hnb104 := NB127_126.out
                            have hnc104 := NB126_127.out
                            have hcz105_0 : wr.cell? ⟨gb127, 0, none⟩ = some (.int .i64 a1_0) := (blk_cell BK127.out 0).trans rfl
                            have hcz105_1 : wr.cell? ⟨gb127, 1, none⟩ = some (.int .i64 a1_1) := (blk_cell BK127.out 1).trans rfl
                            have hcz105_2 : wr.cell? ⟨gb127, 2, none⟩ = some (.int .i64 a1_2) := (blk_cell BK127.out 2).trans rfl
                            have hcz105_3 : wr.cell? ⟨gb127, 3, none⟩ = some (.int .i64 a1_3) := (blk_cell BK127.out 3).trans rfl
                            have hcz105_4 : wr.cell? ⟨gb127, 4, none⟩ = some (.int .i64 a1_4) := (blk_cell BK127.out 4).trans rfl
                            have hcz105_5 : wr.cell? ⟨gb127, 5, none⟩ = some (.int .i64 a1_5) := (blk_cell BK127.out 5).trans rfl
                            have hcz105_6 : wr.cell? ⟨gb127, 6, none⟩ = some (.int .i64 a1_6) := (blk_cell BK127.out 6).trans rfl
                            have hcz105_7 : wr.cell? ⟨gb127, 7, none⟩ = some (.int .i64 a1_7) := (blk_cell BK127.out 7).trans rfl
                            have hfz105_0 := blk_frozen BK127.out 0
                            have hfz105_1 := blk_frozen BK127.out 1
                            have hfz105_2 := blk_frozen BK127.out 2
                            have hfz105_3 := blk_frozen BK127.out 3
                            have hfz105_4 := blk_frozen BK127.out 4
                            have hfz105_5 := blk_frozen BK127.out 5
                            have hfz105_6 := blk_frozen BK127.out 6
                            have hfz105_7 := blk_frozen BK127.out 7
                            have hcz106_0 : wr.cell? ⟨gb126, 0, none⟩ = some (.int .i64 a0_0) := (blk_cell BK126.out 0).trans rfl
                            have hcz106_1 : wr.cell? ⟨gb126, 1, none⟩ = some (.int .i64 a0_1) := (blk_cell BK126.out 1).trans rfl
                            have hcz106_2 : wr.cell? ⟨gb126, 2, none⟩ = some (.int .i64 a0_2) := (blk_cell BK126.out 2).trans rfl
                            have hfz106_0 := blk_frozen BK126.out 0
                            have hfz106_1 := blk_frozen BK126.out 1
                            have hfz106_2 := blk_frozen BK126.out 2
                            go_wp2_with (first | (go_at_call 24; (with_reducible refine (window_Padded.calls a0_0 a0_1 a0_2 a1_0 a1_1 a1_2 a1_3 a1_4 a1_5 a1_6 a1_7 a2 t133 t134 _ A91.out).mono ?_); rintro e w107 ⟨rfl, hb⟩; have n0_ := Aside0.mk (Kd.R_below (by (with_reducible repeat (first | apply Kd.R_alloc | apply Kd.R_drewN | apply Kd.R_drew)); exact HO_7.out) hb); have n1_ := Aside0.mk (blk_below (g := gb126) (o := .cells #[.int .i64 a0_0, .int .i64 a0_1, .int .i64 a0_2] 23 (0, 0)) (by (with_reducible repeat (first | refine blk_drewN ?_ _ | refine blk_drew ?_ | refine blk_alloc ?_ _)); exact BK126.out) hb); have n2_ := Aside0.mk (blk_below (g := gb127) (o := .cells #[.int .i64 a1_0, .int .i64 a1_1, .int .i64 a1_2, .int .i64 a1_3, .int .i64 a1_4, .int .i64 a1_5, .int .i64 a1_6, .int .i64 a1_7] 25 (0, 0)) (by (with_reducible repeat (first | refine blk_drewN ?_ _ | refine blk_drew ?_ | refine blk_alloc ?_ _)); exact BK127.out) hb); have n3_ := Aside0.mk (below_step (by repeat (first | (with_reducible first | exact HB.out | apply below_alloc | apply pw_below_drewN | apply below_drew1 | refine below_set ?_ GE126.out | refine below_set ?_ GE127.out) | exact HB.out)) hb); clear HO_7; clear BK126; clear BK127; clear HB; have HO_7 := n0_; have BK126 := n1_; have BK127 := n2_; have HB := n3_; clear n0_ n1_ n2_ n3_; (try clear hb); (try clear hb2); (try clear hk); (try clear hi); have hcz108_0 : w107.cell? ⟨gb127, 0, none⟩ = some (.int .i64 a1_0) := (blk_cell BK127.out 0).trans rfl; have hcz108_1 : w107.cell? ⟨gb127, 1, none⟩ = some (.int .i64 a1_1) := (blk_cell BK127.out 1).trans rfl; have hcz108_2 : w107.cell? ⟨gb127, 2, none⟩ = some (.int .i64 a1_2) := (blk_cell BK127.out 2).trans rfl; have hcz108_3 : w107.cell? ⟨gb127, 3, none⟩ = some (.int .i64 a1_3) := (blk_cell BK127.out 3).trans rfl; have hcz108_4 : w107.cell? ⟨gb127, 4, none⟩ = some (.int .i64 a1_4) := (blk_cell BK127.out 4).trans rfl; have hcz108_5 : w107.cell? ⟨gb127, 5, none⟩ = some (.int .i64 a1_5) := (blk_cell BK127.out 5).trans rfl; have hcz108_6 : w107.cell? ⟨gb127, 6, none⟩ = some (.int .i64 a1_6) := (blk_cell BK127.out 6).trans rfl; have hcz108_7 : w107.cell? ⟨gb127, 7, none⟩ = some (.int .i64 a1_7) := (blk_cell BK127.out 7).trans rfl; have hfz108_0 := blk_frozen BK127.out 0; have hfz108_1 := blk_frozen BK127.out 1; have hfz108_2 := blk_frozen BK127.out 2; have hfz108_3 := blk_frozen BK127.out 3; have hfz108_4 := blk_frozen BK127.out 4; have hfz108_5 := blk_frozen BK127.out 5; have hfz108_6 := blk_frozen BK127.out 6; have hfz108_7 := blk_frozen BK127.out 7))
                            repeat (go_quiet (first | (go_at_call 24; (with_reducible refine (window_Padded.calls a0_0 a0_1 a0_2 a1_0 a1_1 a1_2 a1_3 a1_4 a1_5 a1_6 a1_7 a2 t133 t134 _ A91.out).mono ?_); rintro e w107 ⟨rfl, hb⟩; have n0_ := Aside0.mk (Kd.R_below (by (with_reducible repeat (first | apply Kd.R_alloc | apply Kd.R_drewN | apply Kd.R_drew)); exact HO_7.out) hb); have n1_ := Aside0.mk (blk_below (g := gb126) (o := .cells #[.int .i64 a0_0, .int .i64 a0_1, .int .i64 a0_2] 23 (0, 0)) (by (with_reducible repeat (first | refine blk_drewN ?_ _ | refine blk_drew ?_ | refine blk_alloc ?_ _)); exact BK126.out) hb); have n2_ := Aside0.mk (blk_below (g := gb127) (o := .cells #[.int .i64 a1_0, .int .i64 a1_1, .int .i64 a1_2, .int .i64 a1_3, .int .i64 a1_4, .int .i64 a1_5, .int .i64 a1_6, .int .i64 a1_7] 25 (0, 0)) (by (with_reducible repeat (first | refine blk_drewN ?_ _ | refine blk_drew ?_ | refine blk_alloc ?_ _)); exact BK127.out) hb); have n3_ := Aside0.mk (below_step (by repeat (first | (with_reducible first | exact HB.out | apply below_alloc | apply pw_below_drewN | apply below_drew1 | refine below_set ?_ GE126.out | refine below_set ?_ GE127.out) | exact HB.out)) hb); clear HO_7; clear BK126; clear BK127; clear HB; have HO_7 := n0_; have BK126 := n1_; have BK127 := n2_; have HB := n3_; clear n0_ n1_ n2_ n3_; (try clear hb); (try clear hb2); (try clear hk); (try clear hi); have hcz108_0 : w107.cell? ⟨gb127, 0, none⟩ = some (.int .i64 a1_0) := (blk_cell BK127.out 0).trans rfl; have hcz108_1 : w107.cell? ⟨gb127, 1, none⟩ = some (.int .i64 a1_1) := (blk_cell BK127.out 1).trans rfl; have hcz108_2 : w107.cell? ⟨gb127, 2, none⟩ = some (.int .i64 a1_2) := (blk_cell BK127.out 2).trans rfl; have hcz108_3 : w107.cell? ⟨gb127, 3, none⟩ = some (.int .i64 a1_3) := (blk_cell BK127.out 3).trans rfl; have hcz108_4 : w107.cell? ⟨gb127, 4, none⟩ = some (.int .i64 a1_4) := (blk_cell BK127.out 4).trans rfl; have hcz108_5 : w107.cell? ⟨gb127, 5, none⟩ = some (.int .i64 a1_5) := (blk_cell BK127.out 5).trans rfl; have hcz108_6 : w107.cell? ⟨gb127, 6, none⟩ = some (.int .i64 a1_6) := (blk_cell BK127.out 6).trans rfl; have hcz108_7 : w107.cell? ⟨gb127, 7, none⟩ = some (.int .i64 a1_7) := (blk_cell BK127.out 7).trans rfl; have hfz108_0 := blk_frozen BK127.out 0; have hfz108_1 := blk_frozen BK127.out 1; have hfz108_2 := blk_frozen BK127.out 2; have hfz108_3 := blk_frozen BK127.out 3; have hfz108_4 := blk_frozen BK127.out 4; have hfz108_5 := blk_frozen BK127.out 5; have hfz108_6 := blk_frozen BK127.out 6; have hfz108_7 := blk_frozen BK127.out 7)); try go_wp2_with (first | (go_at_call 24; (with_reducible refine (window_Padded.calls a0_0 a0_1 a0_2 a1_0 a1_1 a1_2 a1_3 a1_4 a1_5 a1_6 a1_7 a2 t133 t134 _ A91.out).mono ?_); rintro e w107 ⟨rfl, hb⟩; have n0_ := Aside0.mk (Kd.R_below (by (with_reducible repeat (first | apply Kd.R_alloc | apply Kd.R_drewN | apply Kd.R_drew)); exact HO_7.out) hb); have n1_ := Aside0.mk (blk_below (g := gb126) (o := .cells #[.int .i64 a0_0, .int .i64 a0_1, .int .i64 a0_2] 23 (0, 0)) (by (with_reducible repeat (first | refine blk_drewN ?_ _ | refine blk_drew ?_ | refine blk_alloc ?_ _)); exact BK126.out) hb); have n2_ := Aside0.mk (blk_below (g := gb127) (o := .cells #[.int .i64 a1_0, .int .i64 a1_1, .int .i64 a1_2, .int .i64 a1_3, .int .i64 a1_4, .int .i64 a1_5, .int .i64 a1_6, .int .i64 a1_7] 25 (0, 0)) (by (with_reducible repeat (first | refine blk_drewN ?_ _ | refine blk_drew ?_ | refine blk_alloc ?_ _)); exact BK127.out) hb); have n3_ := Aside0.mk (below_step (by repeat (first | (with_reducible first | exact HB.out | apply below_alloc | apply pw_below_drewN | apply below_drew1 | refine below_set ?_ GE126.out | refine below_set ?_ GE127.out) | exact HB.out)) hb); clear HO_7; clear BK126; clear BK127; clear HB; have HO_7 := n0_; have BK126 := n1_; have BK127 := n2_; have HB := n3_; clear n0_ n1_ n2_ n3_; (try clear hb); (try clear hb2); (try clear hk); (try clear hi); have hcz108_0 : w107.cell? ⟨gb127, 0, none⟩ = some (.int .i64 a1_0) := (blk_cell BK127.out 0).trans rfl; have hcz108_1 : w107.cell? ⟨gb127, 1, none⟩ = some (.int .i64 a1_1) := (blk_cell BK127.out 1).trans rfl; have hcz108_2 : w107.cell? ⟨gb127, 2, none⟩ = some (.int .i64 a1_2) := (blk_cell BK127.out 2).trans rfl; have hcz108_3 : w107.cell? ⟨gb127, 3, none⟩ = some (.int .i64 a1_3) := (blk_cell BK127.out 3).trans rfl; have hcz108_4 : w107.cell? ⟨gb127, 4, none⟩ = some (.int .i64 a1_4) := (blk_cell BK127.out 4).trans rfl; have hcz108_5 : w107.cell? ⟨gb127, 5, none⟩ = some (.int .i64 a1_5) := (blk_cell BK127.out 5).trans rfl; have hcz108_6 : w107.cell? ⟨gb127, 6, none⟩ = some (.int .i64 a1_6) := (blk_cell BK127.out 6).trans rfl; have hcz108_7 : w107.cell? ⟨gb127, 7, none⟩ = some (.int .i64 a1_7) := (blk_cell BK127.out 7).trans rfl; have hfz108_0 := blk_frozen BK127.out 0; have hfz108_1 := blk_frozen BK127.out 1; have hfz108_2 := blk_frozen BK127.out 2; have hfz108_3 := blk_frozen BK127.out 3; have hfz108_4 := blk_frozen BK127.out 4; have hfz108_5 := blk_frozen BK127.out 5; have hfz108_6 := blk_frozen BK127.out 6; have hfz108_7 := blk_frozen BK127.out 7)))
                            go_ret
                            exact ⟨by first | rfl | (simp [errW_none, errW_some] <;> rfl) | (simp [*, errW_none, errW_some] <;> rfl) | (exfalso; simp only [decide_eq_true_eq, decide_eq_false_iff_not, gt_iff_lt, ge_iff_le] at *; omega), by repeat (first | (with_reducible first | exact HB.out | apply below_alloc | apply pw_below_drewN | apply below_drew1 | refine below_set ?_ GE126.out | refine below_set ?_ GE127.out) | exact HB.out)⟩
                        · rw [if_neg c95] at H
                          have c95b0 : decide (t133 < (wrap64 (a1_0 * a1_1))) = false := decide_eq_false c95
                          clear c95
                          exact absurd ((Option.some.inj H).trans HRT.out) Bool.false_ne_true
                      · rw [if_neg c94] at H
                        have c94b0 : decide (0 ≤ t133) = false := decide_eq_false c94
                        clear c94
                        exact absurd ((Option.some.inj H).trans HRT.out) Bool.false_ne_true
                    · rw [if_neg c93] at H
                      have c93b0 : (t134 == 0) = false := beq_eq_false_iff_ne.mpr c93
                      have c92x6 : (decide ((t128.length : Int) > 0)) = false := by have h_ := c92b0; rw [c93b0] at h_; simpa using h_
                      have c93b1 : (t134 != 0) = true := bne_iff_ne.mpr c93
                      obtain rfl := Option.some.inj H
                      obtain ⟨Ao109, co109, eo109⟩ := Kd.R_slice HO_7.out
                      subst eo109
                      have hnb110 := NB127_126.out
                      have hnc110 := NB126_127.out
                      have hcz111_0 : wr.cell? ⟨gb127, 0, none⟩ = some (.int .i64 a1_0) := (blk_cell BK127.out 0).trans rfl
                      have hcz111_1 : wr.cell? ⟨gb127, 1, none⟩ = some (.int .i64 a1_1) := (blk_cell BK127.out 1).trans rfl
                      have hcz111_2 : wr.cell? ⟨gb127, 2, none⟩ = some (.int .i64 a1_2) := (blk_cell BK127.out 2).trans rfl
                      have hcz111_3 : wr.cell? ⟨gb127, 3, none⟩ = some (.int .i64 a1_3) := (blk_cell BK127.out 3).trans rfl
                      have hcz111_4 : wr.cell? ⟨gb127, 4, none⟩ = some (.int .i64 a1_4) := (blk_cell BK127.out 4).trans rfl
                      have hcz111_5 : wr.cell? ⟨gb127, 5, none⟩ = some (.int .i64 a1_5) := (blk_cell BK127.out 5).trans rfl
                      have hcz111_6 : wr.cell? ⟨gb127, 6, none⟩ = some (.int .i64 a1_6) := (blk_cell BK127.out 6).trans rfl
                      have hcz111_7 : wr.cell? ⟨gb127, 7, none⟩ = some (.int .i64 a1_7) := (blk_cell BK127.out 7).trans rfl
                      have hfz111_0 := blk_frozen BK127.out 0
                      have hfz111_1 := blk_frozen BK127.out 1
                      have hfz111_2 := blk_frozen BK127.out 2
                      have hfz111_3 := blk_frozen BK127.out 3
                      have hfz111_4 := blk_frozen BK127.out 4
                      have hfz111_5 := blk_frozen BK127.out 5
                      have hfz111_6 := blk_frozen BK127.out 6
                      have hfz111_7 := blk_frozen BK127.out 7
                      have hcz112_0 : wr.cell? ⟨gb126, 0, none⟩ = some (.int .i64 a0_0) := (blk_cell BK126.out 0).trans rfl
                      have hcz112_1 : wr.cell? ⟨gb126, 1, none⟩ = some (.int .i64 a0_1) := (blk_cell BK126.out 1).trans rfl
                      have hcz112_2 : wr.cell? ⟨gb126, 2, none⟩ = some (.int .i64 a0_2) := (blk_cell BK126.out 2).trans rfl
                      have hfz112_0 := blk_frozen BK126.out 0
                      have hfz112_1 := blk_frozen BK126.out 1
                      have hfz112_2 := blk_frozen BK126.out 2
                      go_wp2_with (first | (go_at_call 24; (with_reducible refine (window_Padded.calls a0_0 a0_1 a0_2 a1_0 a1_1 a1_2 a1_3 a1_4 a1_5 a1_6 a1_7 a2 t133 t134 _ A91.out).mono ?_); rintro e w113 ⟨rfl, hb⟩; have n0_ := Aside0.mk (Kd.R_below (by (with_reducible repeat (first | apply Kd.R_alloc | apply Kd.R_drewN | apply Kd.R_drew)); exact HO_7.out) hb); have n1_ := Aside0.mk (blk_below (g := gb126) (o := .cells #[.int .i64 a0_0, .int .i64 a0_1, .int .i64 a0_2] 23 (0, 0)) (by (with_reducible repeat (first | refine blk_drewN ?_ _ | refine blk_drew ?_ | refine blk_alloc ?_ _)); exact BK126.out) hb); have n2_ := Aside0.mk (blk_below (g := gb127) (o := .cells #[.int .i64 a1_0, .int .i64 a1_1, .int .i64 a1_2, .int .i64 a1_3, .int .i64 a1_4, .int .i64 a1_5, .int .i64 a1_6, .int .i64 a1_7] 25 (0, 0)) (by (with_reducible repeat (first | refine blk_drewN ?_ _ | refine blk_drew ?_ | refine blk_alloc ?_ _)); exact BK127.out) hb); have n3_ := Aside0.mk (below_step (by repeat (first | (with_reducible first | exact HB.out | apply below_alloc | apply pw_below_drewN | apply below_drew1 | refine below_set ?_ GE126.out | refine below_set ?_ GE127.out) | exact HB.out)) hb); clear HO_7; clear BK126; clear BK127; clear HB; have HO_7 := n0_; have BK126 := n1_; have BK127 := n2_; have HB := n3_; clear n0_ n1_ n2_ n3_; (try clear hb); (try clear hb2); (try clear hk); (try clear hi)))
                      repeat (go_quiet (first | (go_at_call 24; (with_reducible refine (window_Padded.calls a0_0 a0_1 a0_2 a1_0 a1_1 a1_2 a1_3 a1_4 a1_5 a1_6 a1_7 a2 t133 t134 _ A91.out).mono ?_); rintro e w113 ⟨rfl, hb⟩; have n0_ := Aside0.mk (Kd.R_below (by (with_reducible repeat (first | apply Kd.R_alloc | apply Kd.R_drewN | apply Kd.R_drew)); exact HO_7.out) hb); have n1_ := Aside0.mk (blk_below (g := gb126) (o := .cells #[.int .i64 a0_0, .int .i64 a0_1, .int .i64 a0_2] 23 (0, 0)) (by (with_reducible repeat (first | refine blk_drewN ?_ _ | refine blk_drew ?_ | refine blk_alloc ?_ _)); exact BK126.out) hb); have n2_ := Aside0.mk (blk_below (g := gb127) (o := .cells #[.int .i64 a1_0, .int .i64 a1_1, .int .i64 a1_2, .int .i64 a1_3, .int .i64 a1_4, .int .i64 a1_5, .int .i64 a1_6, .int .i64 a1_7] 25 (0, 0)) (by (with_reducible repeat (first | refine blk_drewN ?_ _ | refine blk_drew ?_ | refine blk_alloc ?_ _)); exact BK127.out) hb); have n3_ := Aside0.mk (below_step (by repeat (first | (with_reducible first | exact HB.out | apply below_alloc | apply pw_below_drewN | apply below_drew1 | refine below_set ?_ GE126.out | refine below_set ?_ GE127.out) | exact HB.out)) hb); clear HO_7; clear BK126; clear BK127; clear HB; have HO_7 := n0_; have BK126 := n1_; have BK127 := n2_; have HB := n3_; clear n0_ n1_ n2_ n3_; (try clear hb); (try clear hb2); (try clear hk); (try clear hi))); try go_wp2_with (first | (go_at_call 24; (with_reducible refine (window_Padded.calls a0_0 a0_1 a0_2 a1_0 a1_1 a1_2 a1_3 a1_4 a1_5 a1_6 a1_7 a2 t133 t134 _ A91.out).mono ?_); rintro e w113 ⟨rfl, hb⟩; have n0_ := Aside0.mk (Kd.R_below (by (with_reducible repeat (first | apply Kd.R_alloc | apply Kd.R_drewN | apply Kd.R_drew)); exact HO_7.out) hb); have n1_ := Aside0.mk (blk_below (g := gb126) (o := .cells #[.int .i64 a0_0, .int .i64 a0_1, .int .i64 a0_2] 23 (0, 0)) (by (with_reducible repeat (first | refine blk_drewN ?_ _ | refine blk_drew ?_ | refine blk_alloc ?_ _)); exact BK126.out) hb); have n2_ := Aside0.mk (blk_below (g := gb127) (o := .cells #[.int .i64 a1_0, .int .i64 a1_1, .int .i64 a1_2, .int .i64 a1_3, .int .i64 a1_4, .int .i64 a1_5, .int .i64 a1_6, .int .i64 a1_7] 25 (0, 0)) (by (with_reducible repeat (first | refine blk_drewN ?_ _ | refine blk_drew ?_ | refine blk_alloc ?_ _)); exact BK127.out) hb); have n3_ := Aside0.mk (below_step (by repeat (first | (with_reducible first | exact HB.out | apply below_alloc | apply pw_below_drewN | apply below_drew1 | refine below_set ?_ GE126.out | refine below_set ?_ GE127.out) | exact HB.out)) hb); clear HO_7; clear BK126; clear BK127; clear HB; have HO_7 := n0_; have BK126 := n1_; have BK127 := n2_; have HB := n3_; clear n0_ n1_ n2_ n3_; (try clear hb); (try clear hb2); (try clear hk); (try clear hi))))
                      go_ret
                      exact ⟨by first | rfl | (simp [errW_none, errW_some] <;> rfl) | (simp [*, errW_none, errW_some] <;> rfl) | (exfalso; simp only [decide_eq_true_eq, decide_eq_false_iff_not, gt_iff_lt, ge_iff_le] at *; omega), by repeat (first | (with_reducible first | exact HB.out | apply below_alloc | apply pw_below_drewN | apply below_drew1 | refine below_set ?_ GE126.out | refine below_set ?_ GE127.out) | exact HB.out)⟩
                  · rw [if_neg c92] at H
                    have c92b0 : ((t134 == 0) == (decide ((t128.length : Int) > 0))) = false := by simpa using c92
                    (try (have c92b1 : decide ((t134 == 0) = (decide ((t128.length : Int) > 0))) = false := by simpa using c92))
                    (try (have c92b2 : ((t134 == 0) == (decide ((t128.length : Int) > 0))) = false := by simpa using c92))
                    (try (have c92b3 : ¬ ((t134 == 0) = (decide ((t128.length : Int) > 0))) := by simpa using c92))
                    clear c92
                    exact absurd ((Option.some.inj H).trans HRT.out) Bool.false_ne_true
                · rw [if_neg c90] at H
                  have c90b0 : ((t128.length : Int) == (wrap64 ((wrap64 (2 * a1_0)) * a1_1))) = false := beq_eq_false_iff_ne.mpr c90
                  have c90b1 : ((t128.length : Int) != (wrap64 ((wrap64 (2 * a1_0)) * a1_1))) = true := bne_iff_ne.mpr c90
                  exact absurd ((Option.some.inj H).trans HRT.out) Bool.false_ne_true
              · rw [if_neg c89] at H
                have c89b0 : decide (0 < (t128.length : Int)) = false := decide_eq_false c89
                have c89b1 : decide (0 < t128.length) = false := decide_eq_false (by omega)
                clear c89
                replace H := Option.bind_eq_some_iff.mp H
                obtain ⟨⟨t135, t136⟩, A1140, H⟩ := H
                replace H : (if ((t136 == 0) == (decide ((t128.length : Int) > 0))) = true then (if t136 = 0 then (if t135 ≥ 0 then (if t135 < (wrap64 (a1_0 * a1_1)) then (if x9_2 > 0 then (some true) else (some (decide ((t128.length : Int) > 40)))) else (some false)) else (some false)) else (some true)) else (some false)) = some r := H
                have A114 := Aside0.mk A1140
                clear A1140
                by_cases c115 : ((t136 == 0) == (decide ((t128.length : Int) > 0))) = true
                · rw [if_pos c115] at H
                  have c115b0 : ((t136 == 0) == (decide ((t128.length : Int) > 0))) = true := c115
                  (try (have c115b1 : decide ((t136 == 0) = (decide ((t128.length : Int) > 0))) = true := by simpa using c115))
                  (try (have c115b2 : ((t136 == 0) == (decide ((t128.length : Int) > 0))) = true := by simpa using c115))
                  clear c115
                  by_cases c116 : t136 = 0
                  · rw [if_pos c116] at H
                    have c116b0 : (t136 == 0) = true := beq_iff_eq.mpr c116
                    have c115x7 : (decide ((t128.length : Int) > 0)) = true := by have h_ := c115b0; rw [c116b0] at h_; simpa using h_
                    have c116b1 : (t136 != 0) = false := bne_eq_false_iff_eq.mpr c116
                    clear c116
                    by_cases c117 : t135 ≥ 0
                    · rw [if_pos c117] at H
                      have c117b0 : decide (0 ≤ t135) = true := decide_eq_true c117
                      clear c117
                      by_cases c118 : t135 < (wrap64 (a1_0 * a1_1))
                      · rw [if_pos c118] at H
                        have c118b0 : decide (t135 < (wrap64 (a1_0 * a1_1))) = true := decide_eq_true c118
                        clear c118
                        by_cases c119 : x9_2 > 0
                        · rw [if_pos c119] at H
                          have c119b0 : decide (0 < x9_2) = true := decide_eq_true c119
                          clear c119
                          obtain rfl := Option.some.inj H
                          obtain ⟨Ao120, co120, eo120⟩ := Kd.R_slice HO_7.out
                          subst eo120
                          have hnb121 := NB126_127.out
                          have hnc121 := NB127_126.out
                          have hcz122_0 : wr.cell? ⟨gb126, 0, none⟩ = some (.int .i64 a0_0) := (blk_cell BK126.out 0).trans rfl
                          have hcz122_1 : wr.cell? ⟨gb126, 1, none⟩ = some (.int .i64 a0_1) := (blk_cell BK126.out 1).trans rfl
                          have hcz122_2 : wr.cell? ⟨gb126, 2, none⟩ = some (.int .i64 a0_2) := (blk_cell BK126.out 2).trans rfl
                          have hfz122_0 := blk_frozen BK126.out 0
                          have hfz122_1 := blk_frozen BK126.out 1
                          have hfz122_2 := blk_frozen BK126.out 2
                          have hcz123_0 : wr.cell? ⟨gb127, 0, none⟩ = some (.int .i64 a1_0) := (blk_cell BK127.out 0).trans rfl
                          have hcz123_1 : wr.cell? ⟨gb127, 1, none⟩ = some (.int .i64 a1_1) := (blk_cell BK127.out 1).trans rfl
                          have hcz123_2 : wr.cell? ⟨gb127, 2, none⟩ = some (.int .i64 a1_2) := (blk_cell BK127.out 2).trans rfl
                          have hcz123_3 : wr.cell? ⟨gb127, 3, none⟩ = some (.int .i64 a1_3) := (blk_cell BK127.out 3).trans rfl
                          have hcz123_4 : wr.cell? ⟨gb127, 4, none⟩ = some (.int .i64 a1_4) := (blk_cell BK127.out 4).trans rfl
                          have hcz123_5 : wr.cell? ⟨gb127, 5, none⟩ = some (.int .i64 a1_5) := (blk_cell BK127.out 5).trans rfl
                          have hcz123_6 : wr.cell? ⟨gb127, 6, none⟩ = some (.int .i64 a1_6) := (blk_cell BK127.out 6).trans rfl
                          have hcz123_7 : wr.cell? ⟨gb127, 7, none⟩ = some (.int .i64 a1_7) := (blk_cell BK127.out 7).trans rfl
                          have hfz123_0 := blk_frozen BK127.out 0
                          have hfz123_1 := blk_frozen BK127.out 1
                          have hfz123_2 := blk_frozen BK127.out 2
                          have hfz123_3 := blk_frozen BK127.out 3
                          have hfz123_4 := blk_frozen BK127.out 4
                          have hfz123_5 := blk_frozen BK127.out 5
                          have hfz123_6 := blk_frozen BK127.out 6
                          have hfz123_7 := blk_frozen BK127.out 7
                          go_wp2_with (first | (go_at_call 24; (with_reducible refine (window_Padded.calls a0_0 a0_1 a0_2 a1_0 a1_1 a1_2 a1_3 a1_4 a1_5 a1_6 a1_7 a2 t135 t136 _ A114.out).mono ?_); rintro e w124 ⟨rfl, hb⟩; have n0_ := Aside0.mk (Kd.R_below (by (with_reducible repeat (first | apply Kd.R_alloc | apply Kd.R_drewN | apply Kd.R_drew)); exact HO_7.out) hb); have n1_ := Aside0.mk (blk_below (g := gb126) (o := .cells #[.int .i64 a0_0, .int .i64 a0_1, .int .i64 a0_2] 23 (0, 0)) (by (with_reducible repeat (first | refine blk_drewN ?_ _ | refine blk_drew ?_ | refine blk_alloc ?_ _)); exact BK126.out) hb); have n2_ := Aside0.mk (blk_below (g := gb127) (o := .cells #[.int .i64 a1_0, .int .i64 a1_1, .int .i64 a1_2, .int .i64 a1_3, .int .i64 a1_4, .int .i64 a1_5, .int .i64 a1_6, .int .i64 a1_7] 25 (0, 0)) (by (with_reducible repeat (first | refine blk_drewN ?_ _ | refine blk_drew ?_ | refine blk_alloc ?_ _)); exact BK127.out) hb); have n3_ := Aside0.mk (below_step (by repeat (first | (with_reducible first | exact HB.out | apply below_alloc | apply pw_below_drewN | apply below_drew1 | refine below_set ?_ GE126.out | refine below_set ?_ GE127.out) | exact HB.out)) hb); clear HO_7; clear BK126; clear BK127; clear HB; have HO_7 := n0_; have BK126 := n1_; have BK127 := n2_; have HB := n3_; clear n0_ n1_ n2_ n3_; (try clear hb); (try clear hb2); (try clear hk); (try clear hi); have hcz125_0 : w124.cell? ⟨gb127, 0, none⟩ = some (.int .i64 a1_0) := (blk_cell BK127.out 0).trans rfl; have hcz125_1 : w124.cell? ⟨gb127, 1, none⟩ = some (.int .i64 a1_1) := (blk_cell BK127.out 1).trans rfl; have hcz125_2 : w124.cell? ⟨gb127, 2, none⟩ = some (.int .i64 a1_2) := (blk_cell BK127.out 2).trans rfl; have hcz125_3 : w124.cell? ⟨gb127, 3, none⟩ = some (.int .i64 a1_3) := (blk_cell BK127.out 3).trans rfl; have hcz125_4 : w124.cell? ⟨gb127, 4, none⟩ = some (.int .i64 a1_4) := (blk_cell BK127.out 4).trans rfl; have hcz125_5 : w124.cell? ⟨gb127, 5, none⟩ = some (.int .i64 a1_5) := (blk_cell BK127.out 5).trans rfl; have hcz125_6 : w124.cell? ⟨gb127, 6, none⟩ = some (.int .i64 a1_6) := (blk_cell BK127.out 6).trans rfl; have hcz125_7 : w124.cell? ⟨gb127, 7, none⟩ = some (.int .i64 a1_7) := (blk_cell BK127.out 7).trans rfl; have hfz125_0 := blk_frozen BK127.out 0; have hfz125_1 := blk_frozen BK127.out 1; have hfz125_2 := blk_frozen BK127.out 2; have hfz125_3 := blk_frozen BK127.out 3; have hfz125_4 := blk_frozen BK127.out 4; have hfz125_5 := blk_frozen BK127.out 5; have hfz125_6 := blk_frozen BK127.out 6; have hfz125_7 := blk_frozen BK127.out 7))
                          repeat (go_quiet (first | (go_at_call 24; (with_reducible refine (window_Padded.calls a0_0 a0_1 a0_2 a1_0 a1_1 a1_2 a1_3 a1_4 a1_5 a1_6 a1_7 a2 t135 t136 _ A114.out).mono ?_); rintro e w124 ⟨rfl, hb⟩; have n0_ := Aside0.mk (Kd.R_below (by (with_reducible repeat (first | apply Kd.R_alloc | apply Kd.R_drewN | apply Kd.R_drew)); exact HO_7.out) hb); have n1_ := Aside0.mk (blk_below (g := gb126) (o := .cells #[.int .i64 a0_0, .int .i64 a0_1, .int .i64 a0_2] 23 (0, 0)) (by (with_reducible repeat (first | refine blk_drewN ?_ _ | refine blk_drew ?_ | refine blk_alloc ?_ _)); exact BK126.out) hb); have n2_ := Aside0.mk (blk_below (g := gb127) (o := .cells #[.int .i64 a1_0, .int .i64 a1_1, .int .i64 a1_2, .int .i64 a1_3, .int .i64 a1_4, .int .i64 a1_5, .int .i64 a1_6, .int .i64 a1_7] 25 (0, 0)) (by (with_reducible repeat (first | refine blk_drewN ?_ _ | refine blk_drew ?_ | refine blk_alloc ?_ _)); exact BK127.out) hb); have n3_ := Aside0.mk (below_step (by repeat (first | (with_reducible first | exact HB.out | apply below_alloc | apply pw_below_drewN | apply below_drew1 | refine below_set ?_ GE126.out | refine below_set ?_ GE127.out) | exact HB.out)) hb); clear HO_7; clear BK126; clear BK127; clear HB; have HO_7 := n0_; have BK126 := n1_; have BK127 := n2_; have HB := n3_; clear n0_ n1_ n2_ n3_; (try clear hb); (try clear hb2); (try clear hk); (try clear hi); have hcz125_0 : w124.cell? ⟨gb127, 0, none⟩ = some (.int .i64 a1_0) := (blk_cell BK127.out 0).trans rfl; have hcz125_1 : w124.cell? ⟨gb127, 1, none⟩ = some (.int .i64 a1_1) := (blk_cell BK127.out 1).trans rfl; have hcz125_2 : w124.cell? ⟨gb127, 2, none⟩ = some (.int .i64 a1_2) := (blk_cell BK127.out 2).trans rfl; have hcz125_3 : w124.cell? ⟨gb127, 3, none⟩ = some (.int .i64 a1_3) := (blk_cell BK127.out 3).trans rfl; have hcz125_4 : w124.cell? ⟨gb127, 4, none⟩ = some (.int .i64 a1_4) := (blk_cell BK127.out 4).trans rfl; have hcz125_5 : w124.cell? ⟨gb127, 5, none⟩ = some (.int .i64 a1_5) := (blk_cell BK127.out 5).trans rfl; have hcz125_6 : w124.cell? ⟨gb127, 6, none⟩ = some (.int .i64 a1_6) := (blk_cell BK127.out 6).trans rfl; have hcz125_7 : w124.cell? ⟨gb127, 7, none⟩ = some (.int .i64 a1_7) := (blk_cell BK127.out 7).trans rfl; have hfz125_0 := blk_frozen BK127.out 0; have hfz125_1 := blk_frozen BK127.out 1; have hfz125_2 := blk_frozen BK127.out 2; have hfz125_3 := blk_frozen BK127.out 3; have hfz125_4 := blk_frozen BK127.out 4; have hfz125_5 := blk_frozen BK127.out 5; have hfz125_6 := blk_frozen BK127.out 6; have hfz125_7 := blk_frozen BK127.out 7)); try go_wp2_with (first | (go_at_call 24; (with_reducible refine (window_Padded.calls a0_0 a0_1 a0_2 a1_0 a1_1 a1_2 a1_3 a1_4 a1_5 a1_6 a1_7 a2 t135 t136 _ A114.out).mono ?_); rintro e w124 ⟨rfl, hb⟩; have n0_ := Aside0.mk (Kd.R_below (by (with_reducible repeat (first | apply Kd.R_alloc | apply Kd.R_drewN | apply Kd.R_drew)); exact HO_7.out) hb); have n1_ := Aside0.mk (blk_below (g := gb126) (o := .cells #[.int .i64 a0_0, .int .i64 a0_1, .int .i64 a0_2] 23 (0, 0)) (by (with_reducible repeat (first | refine blk_drewN ?_ _ | refine blk_drew ?_ | refine blk_alloc ?_ _)); exact BK126.out) hb); have n2_ := Aside0.mk (blk_below (g := gb127) (o := .cells #[.int .i64 a1_0, .int .i64 a1_1, .int .i64 a1_2, .int .i64 a1_3, .int .i64 a1_4, .int .i64 a1_5, .int .i64 a1_6, .int .i64 a1_7] 25 (0, 0)) (by (with_reducible repeat (first | refine blk_drewN ?_ _ | refine blk_drew ?_ | refine blk_alloc ?_ _)); exact BK127.out) hb); have n3_ := Aside0.mk (below_step (by repeat (first | (with_reducible first | exact HB.out | apply below_alloc | apply pw_below_drewN | apply below_drew1 | refine below_set ?_ GE126.out | refine below_set ?_ GE127.out) | exact HB.out)) hb); clear HO_7; clear BK126; clear BK127; clear HB; have HO_7 := n0_; have BK126 := n1_; have BK127 := n2_; have HB := n3_; clear n0_ n1_ n2_ n3_; (try clear hb); (try clear hb2); (try clear hk); (try clear hi); have hcz125_0 : w124.cell? ⟨gb127, 0, none⟩ = some (.int .i64 a1_0) := (blk_cell BK127.out 0).trans rfl; have hcz125_1 : w124.cell? ⟨gb127, 1, none⟩ = some (.int .i64 a1_1) := (blk_cell BK127.out 1).trans rfl; have hcz125_2 : w124.cell? ⟨gb127, 2, none⟩ = some (.int .i64 a1_2) := (blk_cell BK127.out 2).trans rfl; have hcz125_3 : w124.cell? ⟨gb127, 3, none⟩ = some (.int .i64 a1_3) := (blk_cell BK127.out 3).trans rfl; have hcz125_4 : w124.cell? ⟨gb127, 4, none⟩ = some (.int .i64 a1_4) := (blk_cell BK127.out 4).trans rfl; have hcz125_5 : w124.cell? ⟨gb127, 5, none⟩ = some (.int .i64 a1_5) := (blk_cell BK127.out 5).trans rfl; have hcz125_6 : w124.cell? ⟨gb127, 6, none⟩ = some (.int .i64 a1_6) := (blk_cell BK127.out 6).trans rfl; have hcz125_7 : w124.cell? ⟨gb127, 7, none⟩ = some (.int .i64 a1_7) := (blk_cell BK127.out 7).trans rfl; have hfz125_0 := blk_frozen BK127.out 0; have hfz125_1 := blk_frozen BK127.out 1; have hfz125_2 := blk_frozen BK127.out 2; have hfz125_3 := blk_frozen BK127.out 3; have hfz125_4 := blk_frozen BK127.out 4; have hfz125_5 := blk_frozen BK127.out 5; have hfz125_6 := blk_frozen BK127.out 6; have hfz125_7 := blk_frozen BK127.out 7)))
                          go_ret
                          exact ⟨by first | rfl | (simp [errW_none, errW_some] <;> rfl) | (simp [*, errW_none, errW_some] <;> rfl) | (exfalso; simp only [decide_eq_true_eq, decide_eq_false_iff_not, gt_iff_lt, ge_iff_le] at *; omega), by repeat (first | (with_reducible first | exact HB.out | apply below_alloc | apply pw_below_drewN | apply below_drew1 | refine below_set ?_ GE126.out | refine below_set ?_ GE127.out) | exact HB.out)⟩
                        · rw [if_neg c119] at H
                          have c119b0 : decide (0 < x9_2) = false := decide_eq_false c119
                          clear c119
                          obtain rfl := Option.some.inj H
                          obtain ⟨Ao126, co126, eo126⟩ := Kd.R_slice HO_7.out
                          subst eo126
                          have hnb127 := NB126_127.out
                          have hnc127 := NB127_126.out
                          have hcz128_0 : wr.cell? ⟨gb126, 0, none⟩ = some (.int .i64 a0_0) := (blk_cell BK126.out 0).trans rfl
                          have hcz128_1 : wr.cell? ⟨gb126, 1, none⟩ = some (.int .i64 a0_1) := (blk_cell BK126.out 1).trans rfl
                          have hcz128_2 : wr.cell? ⟨gb126, 2, none⟩ = some (.int .i64 a0_2) := (blk_cell BK126.out 2).trans rfl
                          have hfz128_0 := blk_frozen BK126.out 0
                          have hfz128_1 := blk_frozen BK126.out 1
                          have hfz128_2 := blk_frozen BK126.out 2
                          have hcz129_0 : wr.cell? ⟨gb127, 0, none⟩ = some (.int .i64 a1_0) := (blk_cell BK127.out 0).trans rfl
                          have hcz129_1 : wr.cell? ⟨gb127, 1, none⟩ = some (.int .i64 a1_1) := (blk_cell BK127.out 1).trans rfl
                          have hcz129_2 : wr.cell? ⟨gb127, 2, none⟩ = some (.int .i64 a1_2) := (blk_cell BK127.out 2).trans rfl
                          have hcz129_3 : wr.cell? ⟨gb127, 3, none⟩ = some (.int .i64 a1_3) := (blk_cell BK127.out 3).trans rfl
                          have hcz129_4 : wr.cell? ⟨gb127, 4, none⟩ = some (.int .i64 a1_4) := (blk_cell BK127.out 4).trans rfl
                          have hcz129_5 : wr.cell? ⟨gb127, 5, none⟩ = some (.int .i64 a1_5) := (blk_cell BK127.out 5).trans rfl
                          have hcz129_6 : wr.cell? ⟨gb127, 6, none⟩ = some (.int .i64 a1_6) := (blk_cell BK127.out 6).trans rfl
                          have hcz129_7 : wr.cell? ⟨gb127, 7, none⟩ = some (.int .i64 a1_7) := (blk_cell BK127.out 7).trans rfl
                          have hfz129_0 := blk_frozen BK127.out 0
                          have hfz129_1 := blk_frozen BK127.out 1
                          have hfz129_2 := blk_frozen BK127.out 2
                          have hfz129_3 := blk_frozen BK127.out 3
                          have hfz129_4 := blk_frozen BK127.out 4
                          have hfz129_5 := blk_frozen BK127.out 5
                          have hfz129_6 := blk_frozen BK127.out 6
                          have hfz129_7 := blk_frozen BK127.out 7
                          go_wp2_with (first | (go_at_call 24; (with_reducible refine (window_Padded.calls a0_0 a0_1 a0_2 a1_0 a1_1 a1_2 a1_3 a1_4 a1_5 a1_6 a1_7 a2 t135 t136 _ A114.out).mono ?_); rintro e w130 ⟨rfl, hb⟩; have n0_ := Aside0.mk (Kd.R_below (by (with_reducible repeat (first | apply Kd.R_alloc | apply Kd.R_drewN | apply Kd.R_drew)); exact HO_7.out) hb); have n1_ := Aside0.mk (blk_below (g := gb126) (o := .cells #[.int .i64 a0_0, .int .i64 a0_1, .int .i64 a0_2] 23 (0, 0)) (by (with_reducible repeat (first | refine blk_drewN ?_ _ | refine blk_drew ?_ | refine blk_alloc ?_ _)); exact BK126.out) hb); have n2_ := Aside0.mk (blk_below (g := gb127) (o := .cells #[.int .i64 a1_0, .int .i64 a1_1, .int .i64 a1_2, .int .i64 a1_3, .int .i64 a1_4, .int .i64 a1_5, .int .i64 a1_6, .int .i64 a1_7] 25 (0, 0)) (by (with_reducible repeat (first | refine blk_drewN ?_ _ | refine blk_drew ?_ | refine blk_alloc ?_ _)); exact BK127.out) hb); have n3_ := Aside0.mk (below_step (by repeat (first | (with_reducible first | exact HB.out | apply below_alloc | apply pw_below_drewN | apply below_drew1 | refine below_set ?_ GE126.out | refine below_set ?_ GE127.out) | exact HB.out)) hb); clear HO_7; clear BK126; clear BK127; clear HB; have HO_7 := n0_; have BK126 := n1_; have BK127 := n2_; have HB := n3_; clear n0_ n1_ n2_ n3_; (try clear hb); (try clear hb2); (try clear hk); (try clear hi); have hcz131_0 : w130.cell? ⟨gb127, 0, none⟩ = some (.int .i64 a1_0) := (blk_cell BK127.out 0).trans rfl; have hcz131_1 : w130.cell? ⟨gb127, 1, none⟩ = some (.int .i64 a1_1) := (blk_cell BK127.out 1).trans rfl; have hcz131_2 : w130.cell? ⟨gb127, 2, none⟩ = some (.int .i64 a1_2) := (blk_cell BK127.out 2).trans rfl; have hcz131_3 : w130.cell? ⟨gb127, 3, none⟩ = some (.int .i64 a1_3) := (blk_cell BK127.out 3).trans rfl; have hcz131_4 : w130.cell? ⟨gb127, 4, none⟩ = some (.int .i64 a1_4) := (blk_cell BK127.out 4).trans rfl; have hcz131_5 : w130.cell? ⟨gb127, 5, none⟩ = some (.int .i64 a1_5) := (blk_cell BK127.out 5).trans rfl; have hcz131_6 : w130.cell? ⟨gb127, 6, none⟩ = some (.int .i64 a1_6) := (blk_cell BK127.out 6).trans rfl; have hcz131_7 : w130.cell? ⟨gb127, 7, none⟩ = some (.int .i64 a1_7) := (blk_cell BK127.out 7).trans rfl; have hfz131_0 := blk_frozen BK127.out 0; have hfz131_1 := blk_frozen BK127.out 1; have hfz131_2 := blk_frozen BK127.out 2; have hfz131_3 := blk_frozen BK127.out 3; have hfz131_4 := blk_frozen BK127.out 4; have hfz131_5 := blk_frozen BK127.out 5; have hfz131_6 := blk_frozen BK127.out 6; have hfz131_7 := blk_frozen BK127.out 7))
                          repeat (go_quiet (first | (go_at_call 24; (with_reducible refine (window_Padded.calls a0_0 a0_1 a0_2 a1_0 a1_1 a1_2 a1_3 a1_4 a1_5 a1_6 a1_7 a2 t135 t136 _ A114.out).mono ?_); rintro e w130 ⟨rfl, hb⟩; have n0_ := Aside0.mk (Kd.R_below (by (with_reducible repeat (first | apply Kd.R_alloc | apply Kd.R_drewN | apply Kd.R_drew)); exact HO_7.out) hb); have n1_ := Aside0.mk (blk_below (g := gb126) (o := .cells #[.int .i64 a0_0, .int .i64 a0_1, .int .i64 a0_2] 23 (0, 0)) (by (with_reducible repeat (first | refine blk_drewN ?_ _ | refine blk_drew ?_ | refine blk_alloc ?_ _)); exact BK126.out) hb); have n2_ := Aside0.mk (blk_below (g := gb127) (o := .cells #[.int .i64 a1_0, .int .i64 a1_1, .int .i64 a1_2, .int .i64 a1_3, .int .i64 a1_4, .int .i64 a1_5, .int .i64 a1_6, .int .i64 a1_7] 25 (0, 0)) (by (with_reducible repeat (first | refine blk_drewN ?_ _ | refine blk_drew ?_ | refine blk_alloc ?_ _)); exact BK127.out) hb); have n3_ := Aside0.mk (below_step (by repeat (first | (with_reducible first | exact HB.out | apply below_alloc | apply pw_below_drewN | apply below_drew1 | refine below_set ?_ GE126.out | refine below_set ?_ GE127.out) | exact HB.out)) hb); clear HO_7; clear BK126; clear BK127; clear HB; have HO_7 := n0_; have BK126 := n1_; have BK127 := n2_; have HB := n3_; clear n0_ n1_ n2_ n3_; (try clear hb); (try clear hb2); (try clear hk); (try clear hi); have hcz131_0 : w130.cell? ⟨gb127, 0, none⟩ = some (.int .i64 a1_0) := (blk_cell BK127.out 0).trans rfl; have hcz131_1 : w130.cell? ⟨gb127, 1, none⟩ = some (.int .i64 a1_1) := (blk_cell BK127.out 1).trans rfl; have hcz131_2 : w130.cell? ⟨gb127, 2, none⟩ = some (.int .i64 a1_2) := (blk_cell BK127.out 2).trans rfl; have hcz131_3 : w130.cell? ⟨gb127, 3, none⟩ = some (.int .i64 a1_3) := (blk_cell BK127.out 3).trans rfl; have hcz131_4 : w130.cell? ⟨gb127, 4, none⟩ = some (.int .i64 a1_4) := (blk_cell BK127.out 4).trans rfl; have hcz131_5 : w130.cell? ⟨gb127, 5, none⟩ = some (.int .i64 a1_5) := (blk_cell BK127.out 5).trans rfl; have hcz131_6 : w130.cell? ⟨gb127, 6, none⟩ = some (.int .i64 a1_6) := (blk_cell BK127.out 6).trans rfl; have hcz131_7 : w130.cell? ⟨gb127, 7, none⟩ = some (.int .i64 a1_7) := (blk_cell BK127.out 7).trans rfl; have hfz131_0 := blk_frozen BK127.out 0; have hfz131_1 := blk_frozen BK127.out 1; have hfz131_2 := blk_frozen BK127.out 2; have hfz131_3 := blk_frozen BK127.out 3; have hfz131_4 := blk_frozen BK127.out 4; have hfz131_5 := blk_frozen BK127.out 5; have hfz131_6 := blk_frozen BK127.out 6; have hfz131_7 := blk_frozen BK127.out 7)); try go_wp2_with (first | (go_at_call 24; (with_reducible refine (window_Padded.calls a0_0 a0_1 a0_2 a1_0 a1_1 a1_2 a1_3 a1_4 a1_5 a1_6 a1_7 a2 t135 t136 _ A114.out).mono ?_); rintro e w130 ⟨rfl, hb⟩; have n0_ := Aside0.mk (Kd.R_below (by (with_reducible repeat (first | apply Kd.R_alloc | apply Kd.R_drewN | apply Kd.R_drew)); exact HO_7.out) hb); have n1_ := Aside0.mk (blk_below (g := gb126) (o := .cells #[.int .i64 a0_0, .int .i64 a0_1, .int .i64 a0_2] 23 (0, 0)) (by (with_reducible repeat (first | refine blk_drewN ?_ _ | refine blk_drew ?_ | refine blk_alloc ?_ _)); exact BK126.out) hb); have n2_ := Aside0.mk (blk_below (g := gb127) (o := .cells #[.int .i64 a1_0, .int .i64 a1_1, .int .i64 a1_2, .int .i64 a1_3, .int .i64 a1_4, .int .i64 a1_5, .int .i64 a1_6, .int .i64 a1_7] 25 (0, 0)) (by (with_reducible repeat (first | refine blk_drewN ?_ _ | refine blk_drew ?_ | refine blk_alloc ?_ _)); exact BK127.out) hb); have n3_ := Aside0.mk (below_step (by repeat (first | (with_reducible first | exact HB.out | apply below_alloc | apply pw_below_drewN | apply below_drew1 | refine below_set ?_ GE126.out | refine below_set ?_ GE127.out) | exact HB.out)) hb); clear HO_7; clear BK126; clear BK127; clear HB; have HO_7 := n0_; have BK126 := n1_; have BK127 := n2_; have HB := n3_; clear n0_ n1_ n2_ n3_; (try clear hb); (try clear hb2); (try clear hk); (try clear hi); have hcz131_0 : w130.cell? ⟨gb127, 0, none⟩ = some (.int .i64 a1_0) := (blk_cell BK127.out 0).trans rfl; have hcz131_1 : w130.cell? ⟨gb127, 1, none⟩ = some (.int .i64 a1_1) := (blk_cell BK127.out 1).trans rfl; have hcz131_2 : w130.cell? ⟨gb127, 2, none⟩ = some (.int .i64 a1_2) := (blk_cell BK127.out 2).trans rfl; have hcz131_3 : w130.cell? ⟨gb127, 3, none⟩ = some (.int .i64 a1_3) := (blk_cell BK127.out 3).trans rfl; have hcz131_4 : w130.cell? ⟨gb127, 4, none⟩ = some (.int .i64 a1_4) := (blk_cell BK127.out 4).trans rfl; have hcz131_5 : w130.cell? ⟨gb127, 5, none⟩ = some (.int .i64 a1_5) := (blk_cell BK127.out 5).trans rfl; have hcz131_6 : w130.cell? ⟨gb127, 6, none⟩ = some (.int .i64 a1_6) := (blk_cell BK127.out 6).trans rfl; have hcz131_7 : w130.cell? ⟨gb127, 7, none⟩ = some (.int .i64 a1_7) := (blk_cell BK127.out 7).trans rfl; have hfz131_0 := blk_frozen BK127.out 0; have hfz131_1 := blk_frozen BK127.out 1; have hfz131_2 := blk_frozen BK127.out 2; have hfz131_3 := blk_frozen BK127.out 3; have hfz131_4 := blk_frozen BK127.out 4; have hfz131_5 := blk_frozen BK127.out 5; have hfz131_6 := blk_frozen BK127.out 6; have hfz131_7 := blk_frozen BK127.out 7)))
                          go_ret
                          exact ⟨by first | rfl | (simp [errW_none, errW_some] <;> rfl) | (simp [*, errW_none, errW_some] <;> rfl) | (exfalso; simp only [decide_eq_true_eq, decide_eq_false_iff_not, gt_iff_lt, ge_iff_le] at *; omega), by repeat (first | (with_reducible first | exact HB.out | apply below_alloc | apply pw_below_drewN | apply below_drew1 | refine below_set ?_ GE126.out | refine below_set ?_ GE127.out) | exact HB.out)⟩
                      · rw [if_neg c118] at H
                        have c118b0 : decide (t135 < (wrap64 (a1_0 * a1_1))) = false := decide_eq_false c118
                        clear c118
                        exact absurd ((Option.some.inj H).trans HRT.out) Bool.false_ne_true
                    · rw [if_neg c117] at H
                      have c117b0 : decide (0 ≤ t135) = false := decide_eq_false c117
                      clear c117
                      exact absurd ((Option.some.inj H).trans HRT.out) Bool.false_ne_true
                  · rw [if_neg c116] at H
                    have c116b0 : (t136 == 0) = false := beq_eq_false_iff_ne.mpr c116
                    have c115x8 : (decide ((t128.length : Int) > 0)) = false := by have h_ := c115b0; rw [c116b0] at h_; simpa using h_
                    have c116b1 : (t136 != 0) = true := bne_iff_ne.mpr c116
                    obtain rfl := Option.some.inj H
                    obtain ⟨Ao132, co132, eo132⟩ := Kd.R_slice HO_7.out
                    subst eo132
                    have hnb133 := NB126_127.out
                    have hnc133 := NB127_126.out
                    have hcz134_0 : wr.cell? ⟨gb126, 0, none⟩ = some (.int .i64 a0_0) := (blk_cell BK126.out 0).trans rfl
                    have hcz134_1 : wr.cell? ⟨gb126, 1, none⟩ = some (.int .i64 a0_1) := (blk_cell BK126.out 1).trans rfl
                    have hcz134_2 : wr.cell? ⟨gb126, 2, none⟩ = some (.int .i64 a0_2) := (blk_cell BK126.out 2).trans rfl
                    have hfz134_0 := blk_frozen BK126.out 0
                    have hfz134_1 := blk_frozen BK126.out 1
                    have hfz134_2 := blk_frozen BK126.out 2
                    have hcz135_0 : wr.cell? ⟨gb127, 0, none⟩ = some (.int .i64 a1_0) := (blk_cell BK127.out 0).trans rfl
                    have hcz135_1 : wr.cell? ⟨gb127, 1, none⟩ = some (.int .i64 a1_1) := (blk_cell BK127.out 1).trans rfl
                    have hcz135_2 : wr.cell? ⟨gb127, 2, none⟩ = some (.int .i64 a1_2) := (blk_cell BK127.out 2).trans rfl
                    have hcz135_3 : wr.cell? ⟨gb127, 3, none⟩ = some (.int .i64 a1_3) := (blk_cell BK127.out 3).trans rfl
                    have hcz135_4 : wr.cell? ⟨gb127, 4, none⟩ = some (.int .i64 a1_4) := (blk_cell BK127.out 4).trans rfl
                    have hcz135_5 : wr.cell? ⟨gb127, 5, none⟩ = some (.int .i64 a1_5) := (blk_cell BK127.out 5).trans rfl
                    have hcz135_6 : wr.cell? ⟨gb127, 6, none⟩ = some (.int .i64 a1_6) := (blk_cell BK127.out 6).trans rfl
                    have hcz135_7 : wr.cell? ⟨gb127, 7, none⟩ = some (.int .i64 a1_7) := (blk_cell BK127.out 7).trans rfl
                    have hfz135_0 := blk_frozen BK127.out 0
                    have hfz135_1 := blk_frozen BK127.out 1
                    have hfz135_2 := blk_frozen BK127.out 2
                    have hfz135_3 := blk_frozen BK127.out 3
                    have hfz135_4 := blk_frozen BK127.out 4
                    have hfz135_5 := blk_frozen BK127.out 5
                    have hfz135_6 := blk_frozen BK127.out 6
                    have hfz135_7 := blk_frozen BK127.out 7
                    go_wp2_with (first | (go_at_call 24; (with_reducible refine (window_Padded.calls a0_0 a0_1 a0_2 a1_0 a1_1 a1_2 a1_3 a1_4 a1_5 a1_6 a1_7 a2 t135 t136 _ A114.out).mono ?_); rintro e w136 ⟨rfl, hb⟩; have n0_ := Aside0.mk (Kd.R_below (by (with_reducible repeat (first | apply Kd.R_alloc | apply Kd.R_drewN | apply Kd.R_drew)); exact HO_7.out) hb); have n1_ := Aside0.mk (blk_below (g := gb126) (o := .cells #[.int .i64 a0_0, .int .i64 a0_1, .int .i64 a0_2] 23 (0, 0)) (by (with_reducible repeat (first | refine blk_drewN ?_ _ | refine blk_drew ?_ | refine blk_alloc ?_ _)); exact BK126.out) hb); have n2_ := Aside0.mk (blk_below (g := gb127) (o := .cells #[.int .i64 a1_0, .int .i64 a1_1, .int .i64 a1_2, .int .i64 a1_3, .int .i64 a1_4, .int .i64 a1_5, .int .i64 a1_6, .int .i64 a1_7] 25 (0, 0)) (by (with_reducible repeat (first | refine blk_drewN ?_ _ | refine blk_drew ?_ | refine blk_alloc ?_ _)); exact BK127.out) hb); have n3_ := Aside0.mk (below_step (by repeat (first | (with_reducible first | exact HB.out | apply below_alloc | apply pw_below_drewN | apply below_drew1 | refine below_set ?_ GE126.out | refine below_set ?_ GE127.out) | exact HB.out)) hb); clear HO_7; clear BK126; clear BK127; clear HB; have HO_7 := n0_; have BK126 := n1_; have BK127 := n2_; have HB := n3_; clear n0_ n1_ n2_ n3_; (try clear hb); (try clear hb2); (try clear hk); (try clear hi)))
                    repeat (go_quiet (first | (go_at_call 24; (with_reducible refine (window_Padded.calls a0_0 a0_1 a0_2 a1_0 a1_1 a1_2 a1_3 a1_4 a1_5 a1_6 a1_7 a2 t135 t136 _ A114.out).mono ?_); rintro e w136 ⟨rfl, hb⟩; have n0_ := Aside0.mk (Kd.R_below (by (with_reducible repeat (first | apply Kd.R_alloc | apply Kd.R_drewN | apply Kd.R_drew)); exact HO_7.out) hb); have n1_ := Aside0.mk (blk_below (g := gb126) (o := .cells #[.int .i64 a0_0, .int .i64 a0_1, .int .i64 a0_2] 23 (0, 0)) (by (with_reducible repeat (first | refine blk_drewN ?_ _ | refine blk_drew ?_ | refine blk_alloc ?_ _)); exact BK126.out) hb); have n2_ := Aside0.mk (blk_below (g := gb127) (o := .cells #[.int .i64 a1_0, .int .i64 a1_1, .int .i64 a1_2, .int .i64 a1_3, .int .i64 a1_4, .int .i64 a1_5, .int .i64 a1_6, .int .i64 a1_7] 25 (0, 0)) (by (with_reducible repeat (first | refine blk_drewN ?_ _ | refine blk_drew ?_ | refine blk_alloc ?_ _)); exact BK127.out) hb); have n3_ := Aside0.mk (below_step (by repeat (first | (with_reducible first | exact HB.out | apply below_alloc | apply pw_below_drewN | apply below_drew1 | refine below_set ?_ GE126.out | refine below_set ?_ GE127.out) | exact HB.out)) hb); clear HO_7; clear BK126; clear BK127; clear HB; have HO_7 := n0_; have BK126 := n1_; have BK127 := n2_; have HB := n3_; clear n0_ n1_ n2_ n3_; (try clear hb); (try clear hb2); (try clear hk); (try clear hi))); try go_wp2_with (first | (go_at_call 24; (with_reducible refine (window_Padded.calls a0_0 a0_1 a0_2 a1_0 a1_1 a1_2 a1_3 a1_4 a1_5 a1_6 a1_7 a2 t135 t136 _ A114.out).mono ?_); rintro e w136 ⟨rfl, hb⟩; have n0_ := Aside0.mk (Kd.R_below (by (with_reducible repeat (first | apply Kd.R_alloc | apply Kd.R_drewN | apply Kd.R_drew)); exact HO_7.out) hb); have n1_ := Aside0.mk (blk_below (g := gb126) (o := .cells #[.int .i64 a0_0, .int .i64 a0_1, .int .i64 a0_2] 23 (0, 0)) (by (with_reducible repeat (first | refine blk_drewN ?_ _ | refine blk_drew ?_ | refine blk_alloc ?_ _)); exact BK126.out) hb); have n2_ := Aside0.mk (blk_below (g := gb127) (o := .cells #[.int .i64 a1_0, .int .i64 a1_1, .int .i64 a1_2, .int .i64 a1_3, .int .i64 a1_4, .int .i64 a1_5, .int .i64 a1_6, .int .i64 a1_7] 25 (0, 0)) (by (with_reducible repeat (first | refine blk_drewN ?_ _ | refine blk_drew ?_ | refine blk_alloc ?_ _)); exact BK127.out) hb); have n3_ := Aside0.mk (below_step (by repeat (first | (with_reducible first | exact HB.out | apply below_alloc | apply pw_below_drewN | apply below_drew1 | refine below_set ?_ GE126.out | refine below_set ?_ GE127.out) | exact HB.out)) hb); clear HO_7; clear BK126; clear BK127; clear HB; have HO_7 := n0_; have BK126 := n1_; have BK127 := n2_; have HB := n3_; clear n0_ n1_ n2_ n3_; (try clear hb); (try clear hb2); (try clear hk); (try clear hi))))
                    go_ret
                    exact ⟨by first | rfl | (simp [errW_none, errW_some] <;> rfl) | (simp [*, errW_none, errW_some] <;> rfl) | (exfalso; simp only [decide_eq_true_eq, decide_eq_false_iff_not, gt_iff_lt, ge_iff_le] at *; omega), by repeat (first | (with_reducible first | exact HB.out | apply below_alloc | apply pw_below_drewN | apply below_drew1 | refine below_set ?_ GE126.out | refine below_set ?_ GE127.out) | exact HB.out)⟩
                · rw [if_neg c115] at H
                  have c115b0 : ((t136 == 0) == (decide ((t128.length : Int) > 0))) = false := by simpa using c115
                  (try (have c115b1 : decide ((t136 == 0) = (decide ((t128.length : Int) > 0))) = false := by simpa using c115))
                  (try (have c115b2 : ((t136 == 0) == (decide ((t128.length : Int) > 0))) = false := by simpa using c115))
                  (try (have c115b3 : ¬ ((t136 == 0) = (decide ((t128.length : Int) > 0))) := by simpa using c115))
                  clear c115
                  exact absurd ((Option.some.inj H).trans HRT.out) Bool.false_ne_true

end Go.Proofs.Ytnbhimgojnclbaa.CWwPlain
