-- PRINTED by print.py (a twelfth state) out of the translation. Not trusted: Lean checks it.
import Derived.Test.YtnbhimgojnclbaaCLneDotsx0
import Derived.Test.YtnbhimgojnclbaaCLneDotsx4
namespace Go.Proofs.Ytnbhimgojnclbaa.CLneDots
open Go.RowKit Go.Proofs.YtnbhimgojnclbaaW.PrintWords Go.Proofs.YtnbhimgojnclbaaW.PrintLast Go.Proofs.YtnbhimgojnclbaaW.PrintMore
attribute [local go_sem] max2_int min2_int max_two min_two max_three min_three max_four min_four   -- for this text's walks alone
set_option linter.unusedVariables false
set_option linter.unusedSimpArgs false

/-! ### spillwayref20_Dot: function 40 -/
section
open Go.Shelf
set_option linter.unusedSimpArgs false
abbrev D9 := Int × Int × Int × Int × Int × Int × Int × Int × Int
def rdTimes (d : D9) (b x y : Int) : Option (Int × D9) := spillwayref20_Dots_times.f d.1 d.2.1 d.2.2.1 d.2.2.2.1 d.2.2.2.2.1 d.2.2.2.2.2.1 d.2.2.2.2.2.2.1 d.2.2.2.2.2.2.2.1 d.2.2.2.2.2.2.2.2 b x y
def rdPlus (d : D9) (b x y : Int) : Option (Int × D9) := spillwayref20_Dots_plus.f d.1 d.2.1 d.2.2.1 d.2.2.2.1 d.2.2.2.2.1 d.2.2.2.2.2.1 d.2.2.2.2.2.2.1 d.2.2.2.2.2.2.2.1 d.2.2.2.2.2.2.2.2 b x y
/-- one round of the reference's Dot: the sum, the part, the Track -/
def rdStep (ws xs : List Int) (width depth : Int) (i : Nat) (s : Int × Int × D9) : Option (Int × Int × D9) :=
  if width = 32 then (rdTimes s.2.2 32 (rd ws i) (rd xs i)).bind fun t => (rdPlus t.2 32 s.1 t.1).bind fun p => some (p.1, s.2.1, p.2)
  else (rdTimes s.2.2 16 (rd ws i) (rd xs i)).bind fun t => (rdPlus t.2 16 s.2.1 t.1).bind fun p =>
    if (i : Int) % depth = depth - 1 ∨ (i : Int) = ws.length - 1 then (rdPlus p.2 32 s.1 p.1).bind fun q => some (q.1, 0, q.2) else some (s.1, p.1, p.2)
def rdAt (ws xs : List Int) (width depth bias : Int) : Nat → Option (Int × Int × D9)
  | 0 => some (bias, 0, (0, 0, 0, 0, 0, 0, 0, 0, 0))
  | i + 1 => (rdAt ws xs width depth bias i).bind (rdStep ws xs width depth i)
def rdOk (ws xs : List Int) (depth : Int) : Bool := decide (ws.length = xs.length) && decide (1 ≤ depth) && decide (depth ≤ ws.length) && decide ((ws.length : Int) ≤ 4611686018427387903)
def spillwayref20_Dot.f (l0 : List Int) (l1 : List Int) (a2 : Int) (a3 : Int) (a4 : Int) : Option (Int × Int × Int × Int × Int × Int × Int × Int × Int × Int) :=
  if rdOk l0 l1 a3 = true then (rdAt l0 l1 a2 a3 a4 l0.length).bind fun s => some (s.1, s.2.2) else none
theorem rdAt_some {ws xs : List Int} {width depth bias : Int} {n : Nat} (h : (rdAt ws xs width depth bias n).isSome) : ∀ i, i ≤ n → (rdAt ws xs width depth bias i).isSome := by
  induction n with
  | zero => intro i hi; obtain rfl : i = 0 := by omega
            exact h
  | succ n ih =>
    intro i hi
    by_cases e : i = n + 1
    · rw [e]; exact h
    · refine ih ?_ i (by omega)
      rw [rdAt] at h
      cases hq : rdAt ws xs width depth bias n with
      | none => rw [hq] at h; simp at h
      | some s => rfl
theorem rdStep_some {ws xs : List Int} {width depth bias : Int} {n : Nat} (h : (rdAt ws xs width depth bias n).isSome) {i : Nat} (hi : i < n) {s : Int × Int × D9} (hs : rdAt ws xs width depth bias i = some s) :
    ∃ s', rdStep ws xs width depth i s = some s' ∧ rdAt ws xs width depth bias (i + 1) = some s' := by
  have h1 := rdAt_some h (i + 1) (by omega)
  rw [rdAt, hs] at h1 ⊢
  obtain ⟨s', hs'⟩ := Option.isSome_iff_exists.mp h1
  exact ⟨s', hs', hs'⟩

theorem rd_times {d : D9} {b x y r : Int} {e : D9} (h : rdTimes d b x y = some (r, e)) : spillwayref20_Dots_times.f d.1 d.2.1 d.2.2.1 d.2.2.2.1 d.2.2.2.2.1 d.2.2.2.2.2.1 d.2.2.2.2.2.2.1 d.2.2.2.2.2.2.2.1 d.2.2.2.2.2.2.2.2 b x y = some (r, e.1, e.2.1, e.2.2.1, e.2.2.2.1, e.2.2.2.2.1, e.2.2.2.2.2.1, e.2.2.2.2.2.2.1, e.2.2.2.2.2.2.2.1, e.2.2.2.2.2.2.2.2) := h
theorem rd_plus {d : D9} {b x y r : Int} {e : D9} (h : rdPlus d b x y = some (r, e)) : spillwayref20_Dots_plus.f d.1 d.2.1 d.2.2.1 d.2.2.2.1 d.2.2.2.2.1 d.2.2.2.2.2.1 d.2.2.2.2.2.2.1 d.2.2.2.2.2.2.2.1 d.2.2.2.2.2.2.2.2 b x y = some (r, e.1, e.2.1, e.2.2.1, e.2.2.2.1, e.2.2.2.2.1, e.2.2.2.2.2.1, e.2.2.2.2.2.2.1, e.2.2.2.2.2.2.2.1, e.2.2.2.2.2.2.2.2) := h

theorem keepblk {w w' : World} {g i : Nat} {o : Obj} (hk : KeepBut w w' g none) (h : w.heap[i]? = some o) (hne : i ≠ g) : w'.heap[i]? = some o := (hk.2 i (blk_lt h) hne (by simp)).trans h
abbrev rdZero : Array Value := #[.int .i64 0, .int .i64 0, .int .i64 0, .int .i64 0, .int .i64 0, .int .i64 0, .int .i64 0, .int .i64 0, .int .i64 0]
set_option maxHeartbeats 8000000 in
set_option maxRecDepth 100000 in
theorem spillwayref20_Dot.good (A0 : Option Addr) (c0 : Nat) (l0 : List Int) (A1 : Option Addr) (c1 : Nat) (l1 : List Int) (a2 : Int) (a3 : Int) (a4 : Int) (o : Int × Int × D9) (w : World)
    (HR0 : Aside0 (Kd.C (Kd.int .i64) w A0 l0.length l0)) (_hc0 : l0.length ≤ c0) (HR1 : Aside0 (Kd.C (Kd.int .i64) w A1 l1.length l1)) (_hc1 : l1.length ≤ c1)
    (F : Aside0 (l0.length = l1.length ∧ 1 ≤ a3 ∧ a3 ≤ l0.length ∧ (l0.length : Int) ≤ 4611686018427387903)) (HO : Aside0 (rdAt l0 l1 a2 a3 a4 l0.length = some o)) :
    Calls Try.prog 40 #[.slice A0 l0.length c0, .slice A1 l1.length c1, .int .i64 a2, .int .i64 a3, .int .i64 a4] w fun e w' =>
      e = .returned (.tuple #[.int .i64 o.1, .agg #[.int .i64 o.2.2.1, .int .i64 o.2.2.2.1, .int .i64 o.2.2.2.2.1, .int .i64 o.2.2.2.2.2.1, .int .i64 o.2.2.2.2.2.2.1, .int .i64 o.2.2.2.2.2.2.2.1, .int .i64 o.2.2.2.2.2.2.2.2.1, .int .i64 o.2.2.2.2.2.2.2.2.2.1, .int .i64 o.2.2.2.2.2.2.2.2.2.2]]) ∧ Below w.heap.size w w' := by
  have hu3 := Try.underlying76
  have hu4 := Try.underlying103
  go_enter Try.func40, Try.ntmps40
  go_wp2
  go_loopw [13, 14, 19] (fun va vp p wr => ∃ (i : Nat) (s : Int × Int × D9), i ≤ l0.length ∧ p = .int .i64 i ∧ va = .int .i64 s.1 ∧ vp = .int .i64 s.2.1 ∧ Aside0 (rdAt l0 l1 a2 a3 a4 i = some s ∧
      IsS103 w wr (w.heap.size + 1) s.2.2.1 s.2.2.2.1 s.2.2.2.2.1 s.2.2.2.2.2.1 s.2.2.2.2.2.2.1 s.2.2.2.2.2.2.2.1 s.2.2.2.2.2.2.2.2.1 s.2.2.2.2.2.2.2.2.2.1 s.2.2.2.2.2.2.2.2.2.2 ∧ wr.heap[w.heap.size]? = some (.cells rdZero 76 (0, 0)) ∧ Below w.heap.size w wr))
    (fun _ _ p _ => l0.length - (intOf p).toNat)
  case atStart => exact ⟨0, (a4, 0, (0, 0, 0, 0, 0, 0, 0, 0, 0)), Nat.zero_le _, rfl, rfl, rfl, ⟨rfl, (by have h_ := IsS103.new w (w.alloc (.cells rdZero 76)) 0 0 0 0 0 0 0 0 0 ((Below.refl _ w).alloc (Nat.le_refl _) _); rw [World.size_alloc] at h_; exact h_), box2a w _ _, ((Below.refl _ w).alloc (Nat.le_refl _) _).alloc (by simp) _⟩⟩
  case round =>
    obtain ⟨i, s, hi, rfl, rfl, rfl, HA⟩ := hrel
    by_cases hlt : i < l0.length
    · have hlt1 : i < l1.length := by have := F.out.1; omega
      have hwi : i < 4611686018427387903 := by have := F.out.2.2.2; omega
      obtain ⟨ad0, e0, hx0⟩ := Kd.at_int HR0.out i (by omega) (by omega)
      obtain ⟨ad1, e1, hx1⟩ := Kd.at_int HR1.out i (by omega) (by omega)
      cases e0
      cases e1
      simp only [Int.toNat_natCast] at hx0 hx1
      have KS : Aside0 (∀ W, Below w.heap.size w W → W.cell? (ad0.add i) = some (.int .i64 (rd l0 i)) ∧ W.cell? (ad1.add i) = some (.int .i64 (rd l1 i))) :=
        ⟨fun W hb => ⟨(hb.cell (World.block_lt_of_cell? _ _ hx0)).trans hx0, (hb.cell (World.block_lt_of_cell? _ _ hx1)).trans hx1⟩⟩
      obtain ⟨hx0, hx1⟩ := KS.out wr HA.out.2.2.2
      obtain ⟨s', hst, hat⟩ := rdStep_some (by rw [HO.out]; rfl) hlt HA.out.1
      have HAT := Aside0.mk hat
      clear hat
      unfold rdStep at hst
      by_cases c32 : a2 = 32
      · rw [if_pos c32] at hst
        rw [Option.bind_eq_some_iff] at hst
        obtain ⟨⟨t, d1⟩, hT, hst⟩ := hst
        rw [Option.bind_eq_some_iff] at hst
        obtain ⟨⟨u, d2⟩, hP, hst⟩ := hst
        have HT := Aside0.mk hT
        have HP := Aside0.mk hP
        obtain rfl := Option.some.inj hst
        clear hst hT hP
        have c32b : (a2 == 32) = true := beq_iff_eq.mpr c32
        clear c32
        go_wp2
        go_region_held3 (fun W => W.cell? (ad0.add i) = some (.int .i64 (rd l0 i)) ∧ W.cell? (ad1.add i) = some (.int .i64 (rd l1 i))) (first | (refine KS.out _ ?_; repeat (first | exact HA.out.2.2.2 | exact HB2.out | exact HB3.out | apply below_drew1 | apply pw_below_drewN))) (first | (go_at_call 59; (with_reducible refine (spillwayref20_Dots_times.calls (w.heap.size + 1) s.2.2.1 s.2.2.2.1 s.2.2.2.2.1 s.2.2.2.2.2.1 s.2.2.2.2.2.2.1 s.2.2.2.2.2.2.2.1 s.2.2.2.2.2.2.2.2.1 s.2.2.2.2.2.2.2.2.2.1 s.2.2.2.2.2.2.2.2.2.2 32 (rd l0 i) (rd l1 i) t d1.1 d1.2.1 d1.2.2.1 d1.2.2.2.1 d1.2.2.2.2.1 d1.2.2.2.2.2.1 d1.2.2.2.2.2.2.1 d1.2.2.2.2.2.2.2.1 d1.2.2.2.2.2.2.2.2 w _ ?hI ?hB (rd_times HT.out)).mono ?_); (case hI => repeat (first | exact HA.out.2.1 | apply IsS103.drew | apply IsS103.drewN)); (case hB => repeat (first | exact HA.out.2.2.2 | apply below_drew1 | apply pw_below_drewN)); rintro e w2 ⟨rfl, hI2, hB2, hK2⟩; have HI2 := Aside0.mk hI2; have HB2 := Aside0.mk hB2; have HK2 := Aside0.mk hK2; clear hI2 hB2 hK2) | (go_at_call 58; (with_reducible refine (spillwayref20_Dots_plus.calls (w.heap.size + 1) d1.1 d1.2.1 d1.2.2.1 d1.2.2.2.1 d1.2.2.2.2.1 d1.2.2.2.2.2.1 d1.2.2.2.2.2.2.1 d1.2.2.2.2.2.2.2.1 d1.2.2.2.2.2.2.2.2 32 s.1 t u d2.1 d2.2.1 d2.2.2.1 d2.2.2.2.1 d2.2.2.2.2.1 d2.2.2.2.2.2.1 d2.2.2.2.2.2.2.1 d2.2.2.2.2.2.2.2.1 d2.2.2.2.2.2.2.2.2 w _ ?hI ?hB (rd_plus HP.out)).mono ?_); (case hI => repeat (first | exact HI2.out | apply IsS103.drew | apply IsS103.drewN)); (case hB => repeat (first | exact HB2.out | apply below_drew1 | apply pw_below_drewN)); rintro e w3 ⟨rfl, hI3, hB3, hK3⟩; have HI3 := Aside0.mk hI3; have HB3 := Aside0.mk hB3; have HK3 := Aside0.mk hK3; clear hI3 hB3 hK3))
        all_goals go_wp2
        go_roundw
        case measure => simp [intOf]; omega
        case rel => exact ⟨i + 1, (u, s.2.1, d2), by omega, by simp, rfl, rfl, ⟨HAT.out, HI3.out, keepblk HK3.out (keepblk HK2.out HA.out.2.2.1 (by omega)) (by omega), HB3.out⟩⟩
      · rw [if_neg c32] at hst
        rw [Option.bind_eq_some_iff] at hst
        obtain ⟨⟨t, d1⟩, hT, hst⟩ := hst
        rw [Option.bind_eq_some_iff] at hst
        obtain ⟨⟨u, d2⟩, hP, hst⟩ := hst
        have HT := Aside0.mk hT
        have HP := Aside0.mk hP
        clear hT hP
        have c32b : (a2 == 32) = false := by simpa using c32
        clear c32
        have hd1 := F.out.2.1
        have hd2 : a3 ≤ 4611686018427387903 := by have := F.out.2.2.1; have := F.out.2.2.2; omega
        have hd3 : (l0.length : Int) ≤ 4611686018427387903 := F.out.2.2.2
        have hn0 : (a3 == 0) = false := by simp; omega
        by_cases ct : (i : Int) % a3 = a3 - 1
        · rw [if_pos (.inl ct), Option.bind_eq_some_iff] at hst
          obtain ⟨⟨q, d3⟩, hQ, hst⟩ := hst
          have HQ := Aside0.mk hQ
          obtain rfl := Option.some.inj hst
          clear hst hQ
          have ctb : ((i : Int) % a3 == a3 - 1) = true := beq_iff_eq.mpr ct
          clear ct
          go_wp2
          go_region_held3 (fun W => W.cell? (ad0.add i) = some (.int .i64 (rd l0 i)) ∧ W.cell? (ad1.add i) = some (.int .i64 (rd l1 i))) (first | (refine KS.out _ ?_; repeat (first | exact HA.out.2.2.2 | exact HB2.out | exact HB3.out | apply below_drew1 | apply pw_below_drewN))) (first | (go_at_call 59; (with_reducible refine (spillwayref20_Dots_times.calls (w.heap.size + 1) s.2.2.1 s.2.2.2.1 s.2.2.2.2.1 s.2.2.2.2.2.1 s.2.2.2.2.2.2.1 s.2.2.2.2.2.2.2.1 s.2.2.2.2.2.2.2.2.1 s.2.2.2.2.2.2.2.2.2.1 s.2.2.2.2.2.2.2.2.2.2 16 (rd l0 i) (rd l1 i) t d1.1 d1.2.1 d1.2.2.1 d1.2.2.2.1 d1.2.2.2.2.1 d1.2.2.2.2.2.1 d1.2.2.2.2.2.2.1 d1.2.2.2.2.2.2.2.1 d1.2.2.2.2.2.2.2.2 w _ ?hI ?hB (rd_times HT.out)).mono ?_); (case hI => repeat (first | exact HA.out.2.1 | apply IsS103.drew | apply IsS103.drewN)); (case hB => repeat (first | exact HA.out.2.2.2 | apply below_drew1 | apply pw_below_drewN)); rintro e w2 ⟨rfl, hI2, hB2, hK2⟩; have HI2 := Aside0.mk hI2; have HB2 := Aside0.mk hB2; have HK2 := Aside0.mk hK2; clear hI2 hB2 hK2) | (go_at_call 58; (with_reducible refine (spillwayref20_Dots_plus.calls (w.heap.size + 1) d1.1 d1.2.1 d1.2.2.1 d1.2.2.2.1 d1.2.2.2.2.1 d1.2.2.2.2.2.1 d1.2.2.2.2.2.2.1 d1.2.2.2.2.2.2.2.1 d1.2.2.2.2.2.2.2.2 16 s.2.1 t u d2.1 d2.2.1 d2.2.2.1 d2.2.2.2.1 d2.2.2.2.2.1 d2.2.2.2.2.2.1 d2.2.2.2.2.2.2.1 d2.2.2.2.2.2.2.2.1 d2.2.2.2.2.2.2.2.2 w _ ?hI ?hB (rd_plus HP.out)).mono ?_); (case hI => repeat (first | exact HI2.out | apply IsS103.drew | apply IsS103.drewN)); (case hB => repeat (first | exact HB2.out | apply below_drew1 | apply pw_below_drewN)); rintro e w3 ⟨rfl, hI3, hB3, hK3⟩; have HI3 := Aside0.mk hI3; have HB3 := Aside0.mk hB3; have HK3 := Aside0.mk hK3; clear hI3 hB3 hK3))
          go_wp2_with (first | (go_at_call 58; (with_reducible refine (spillwayref20_Dots_plus.calls (w.heap.size + 1) d2.1 d2.2.1 d2.2.2.1 d2.2.2.2.1 d2.2.2.2.2.1 d2.2.2.2.2.2.1 d2.2.2.2.2.2.2.1 d2.2.2.2.2.2.2.2.1 d2.2.2.2.2.2.2.2.2 32 s.1 u q d3.1 d3.2.1 d3.2.2.1 d3.2.2.2.1 d3.2.2.2.2.1 d3.2.2.2.2.2.1 d3.2.2.2.2.2.2.1 d3.2.2.2.2.2.2.2.1 d3.2.2.2.2.2.2.2.2 w _ ?hI ?hB (rd_plus HQ.out)).mono ?_); (case hI => repeat (first | exact HI3.out | apply IsS103.drew | apply IsS103.drewN)); (case hB => repeat (first | exact HB3.out | apply below_drew1 | apply pw_below_drewN)); rintro e w4 ⟨rfl, hI4, hB4, hK4⟩; have HI4 := Aside0.mk hI4; have HB4 := Aside0.mk hB4; have HK4 := Aside0.mk hK4; clear hI4 hB4 hK4))
          go_roundw
          case measure => simp [intOf]; omega
          case rel => exact ⟨i + 1, (q, 0, d3), by omega, by simp, rfl, rfl, ⟨HAT.out, HI4.out, keepblk HK4.out (keepblk HK3.out (keepblk HK2.out HA.out.2.2.1 (by omega)) (by omega)) (by omega), HB4.out⟩⟩
        · by_cases cl : (i : Int) = l0.length - 1
          · rw [if_pos (.inr cl), Option.bind_eq_some_iff] at hst
            obtain ⟨⟨q, d3⟩, hQ, hst⟩ := hst
            have HQ := Aside0.mk hQ
            obtain rfl := Option.some.inj hst
            clear hst hQ
            have ctb : ((i : Int) % a3 == a3 - 1) = false := by simpa using ct
            have clb : ((i : Int) == (l0.length : Int) - 1) = true := beq_iff_eq.mpr cl
            clear ct cl
            go_wp2
            go_region_held3 (fun W => W.cell? (ad0.add i) = some (.int .i64 (rd l0 i)) ∧ W.cell? (ad1.add i) = some (.int .i64 (rd l1 i))) (first | (refine KS.out _ ?_; repeat (first | exact HA.out.2.2.2 | exact HB2.out | exact HB3.out | apply below_drew1 | apply pw_below_drewN))) (first | (go_at_call 59; (with_reducible refine (spillwayref20_Dots_times.calls (w.heap.size + 1) s.2.2.1 s.2.2.2.1 s.2.2.2.2.1 s.2.2.2.2.2.1 s.2.2.2.2.2.2.1 s.2.2.2.2.2.2.2.1 s.2.2.2.2.2.2.2.2.1 s.2.2.2.2.2.2.2.2.2.1 s.2.2.2.2.2.2.2.2.2.2 16 (rd l0 i) (rd l1 i) t d1.1 d1.2.1 d1.2.2.1 d1.2.2.2.1 d1.2.2.2.2.1 d1.2.2.2.2.2.1 d1.2.2.2.2.2.2.1 d1.2.2.2.2.2.2.2.1 d1.2.2.2.2.2.2.2.2 w _ ?hI ?hB (rd_times HT.out)).mono ?_); (case hI => repeat (first | exact HA.out.2.1 | apply IsS103.drew | apply IsS103.drewN)); (case hB => repeat (first | exact HA.out.2.2.2 | apply below_drew1 | apply pw_below_drewN)); rintro e w2 ⟨rfl, hI2, hB2, hK2⟩; have HI2 := Aside0.mk hI2; have HB2 := Aside0.mk hB2; have HK2 := Aside0.mk hK2; clear hI2 hB2 hK2) | (go_at_call 58; (with_reducible refine (spillwayref20_Dots_plus.calls (w.heap.size + 1) d1.1 d1.2.1 d1.2.2.1 d1.2.2.2.1 d1.2.2.2.2.1 d1.2.2.2.2.2.1 d1.2.2.2.2.2.2.1 d1.2.2.2.2.2.2.2.1 d1.2.2.2.2.2.2.2.2 16 s.2.1 t u d2.1 d2.2.1 d2.2.2.1 d2.2.2.2.1 d2.2.2.2.2.1 d2.2.2.2.2.2.1 d2.2.2.2.2.2.2.1 d2.2.2.2.2.2.2.2.1 d2.2.2.2.2.2.2.2.2 w _ ?hI ?hB (rd_plus HP.out)).mono ?_); (case hI => repeat (first | exact HI2.out | apply IsS103.drew | apply IsS103.drewN)); (case hB => repeat (first | exact HB2.out | apply below_drew1 | apply pw_below_drewN)); rintro e w3 ⟨rfl, hI3, hB3, hK3⟩; have HI3 := Aside0.mk hI3; have HB3 := Aside0.mk hB3; have HK3 := Aside0.mk hK3; clear hI3 hB3 hK3))
            go_wp2_with (first | (go_at_call 58; (with_reducible refine (spillwayref20_Dots_plus.calls (w.heap.size + 1) d2.1 d2.2.1 d2.2.2.1 d2.2.2.2.1 d2.2.2.2.2.1 d2.2.2.2.2.2.1 d2.2.2.2.2.2.2.1 d2.2.2.2.2.2.2.2.1 d2.2.2.2.2.2.2.2.2 32 s.1 u q d3.1 d3.2.1 d3.2.2.1 d3.2.2.2.1 d3.2.2.2.2.1 d3.2.2.2.2.2.1 d3.2.2.2.2.2.2.1 d3.2.2.2.2.2.2.2.1 d3.2.2.2.2.2.2.2.2 w _ ?hI ?hB (rd_plus HQ.out)).mono ?_); (case hI => repeat (first | exact HI3.out | apply IsS103.drew | apply IsS103.drewN)); (case hB => repeat (first | exact HB3.out | apply below_drew1 | apply pw_below_drewN)); rintro e w4 ⟨rfl, hI4, hB4, hK4⟩; have HI4 := Aside0.mk hI4; have HB4 := Aside0.mk hB4; have HK4 := Aside0.mk hK4; clear hI4 hB4 hK4))
            go_roundw
            case measure => simp [intOf]; omega
            case rel => exact ⟨i + 1, (q, 0, d3), by omega, by simp, rfl, rfl, ⟨HAT.out, HI4.out, keepblk HK4.out (keepblk HK3.out (keepblk HK2.out HA.out.2.2.1 (by omega)) (by omega)) (by omega), HB4.out⟩⟩
          · rw [if_neg (by omega)] at hst
            obtain rfl := Option.some.inj hst
            clear hst
            have ctb : ((i : Int) % a3 == a3 - 1) = false := by simpa using ct
            have clb : ((i : Int) == (l0.length : Int) - 1) = false := by simpa using cl
            clear ct cl
            go_wp2
            go_region_held3 (fun W => W.cell? (ad0.add i) = some (.int .i64 (rd l0 i)) ∧ W.cell? (ad1.add i) = some (.int .i64 (rd l1 i))) (first | (refine KS.out _ ?_; repeat (first | exact HA.out.2.2.2 | exact HB2.out | exact HB3.out | apply below_drew1 | apply pw_below_drewN))) (first | (go_at_call 59; (with_reducible refine (spillwayref20_Dots_times.calls (w.heap.size + 1) s.2.2.1 s.2.2.2.1 s.2.2.2.2.1 s.2.2.2.2.2.1 s.2.2.2.2.2.2.1 s.2.2.2.2.2.2.2.1 s.2.2.2.2.2.2.2.2.1 s.2.2.2.2.2.2.2.2.2.1 s.2.2.2.2.2.2.2.2.2.2 16 (rd l0 i) (rd l1 i) t d1.1 d1.2.1 d1.2.2.1 d1.2.2.2.1 d1.2.2.2.2.1 d1.2.2.2.2.2.1 d1.2.2.2.2.2.2.1 d1.2.2.2.2.2.2.2.1 d1.2.2.2.2.2.2.2.2 w _ ?hI ?hB (rd_times HT.out)).mono ?_); (case hI => repeat (first | exact HA.out.2.1 | apply IsS103.drew | apply IsS103.drewN)); (case hB => repeat (first | exact HA.out.2.2.2 | apply below_drew1 | apply pw_below_drewN)); rintro e w2 ⟨rfl, hI2, hB2, hK2⟩; have HI2 := Aside0.mk hI2; have HB2 := Aside0.mk hB2; have HK2 := Aside0.mk hK2; clear hI2 hB2 hK2) | (go_at_call 58; (with_reducible refine (spillwayref20_Dots_plus.calls (w.heap.size + 1) d1.1 d1.2.1 d1.2.2.1 d1.2.2.2.1 d1.2.2.2.2.1 d1.2.2.2.2.2.1 d1.2.2.2.2.2.2.1 d1.2.2.2.2.2.2.2.1 d1.2.2.2.2.2.2.2.2 16 s.2.1 t u d2.1 d2.2.1 d2.2.2.1 d2.2.2.2.1 d2.2.2.2.2.1 d2.2.2.2.2.2.1 d2.2.2.2.2.2.2.1 d2.2.2.2.2.2.2.2.1 d2.2.2.2.2.2.2.2.2 w _ ?hI ?hB (rd_plus HP.out)).mono ?_); (case hI => repeat (first | exact HI2.out | apply IsS103.drew | apply IsS103.drewN)); (case hB => repeat (first | exact HB2.out | apply below_drew1 | apply pw_below_drewN)); rintro e w3 ⟨rfl, hI3, hB3, hK3⟩; have HI3 := Aside0.mk hI3; have HB3 := Aside0.mk hB3; have HK3 := Aside0.mk hK3; clear hI3 hB3 hK3))
            go_wp2
            go_roundw
            case measure => simp [intOf]; omega
            case rel => exact ⟨i + 1, (s.1, u, d2), by omega, by simp, rfl, rfl, ⟨HAT.out, HI3.out, keepblk HK3.out (keepblk HK2.out HA.out.2.2.1 (by omega)) (by omega), HB3.out⟩⟩
    · obtain rfl : i = l0.length := by omega
      obtain rfl : s = o := Option.some.inj (HA.out.1.symm.trans HO.out)
      obtain ⟨hI, _⟩ := HA.out.2.1
      have hT := HA.out.2.2.1
      have q0 : wr.cell? ⟨w.heap.size + 1, 0, none⟩ = some (.int .i64 s.2.2.1) := (blk_cell hI 0).trans rfl
      have f0 := blk_frozen hT 0
      have t0 : wr.cell? ⟨w.heap.size, 0, none⟩ = some (.int .i64 0) := (blk_cell hT 0).trans rfl
      have q1 : wr.cell? ⟨w.heap.size + 1, 1, none⟩ = some (.int .i64 s.2.2.2.1) := (blk_cell hI 1).trans rfl
      have f1 := blk_frozen hT 1
      have t1 : wr.cell? ⟨w.heap.size, 1, none⟩ = some (.int .i64 0) := (blk_cell hT 1).trans rfl
      have q2 : wr.cell? ⟨w.heap.size + 1, 2, none⟩ = some (.int .i64 s.2.2.2.2.1) := (blk_cell hI 2).trans rfl
      have f2 := blk_frozen hT 2
      have t2 : wr.cell? ⟨w.heap.size, 2, none⟩ = some (.int .i64 0) := (blk_cell hT 2).trans rfl
      have q3 : wr.cell? ⟨w.heap.size + 1, 3, none⟩ = some (.int .i64 s.2.2.2.2.2.1) := (blk_cell hI 3).trans rfl
      have f3 := blk_frozen hT 3
      have t3 : wr.cell? ⟨w.heap.size, 3, none⟩ = some (.int .i64 0) := (blk_cell hT 3).trans rfl
      have q4 : wr.cell? ⟨w.heap.size + 1, 4, none⟩ = some (.int .i64 s.2.2.2.2.2.2.1) := (blk_cell hI 4).trans rfl
      have f4 := blk_frozen hT 4
      have t4 : wr.cell? ⟨w.heap.size, 4, none⟩ = some (.int .i64 0) := (blk_cell hT 4).trans rfl
      have q5 : wr.cell? ⟨w.heap.size + 1, 5, none⟩ = some (.int .i64 s.2.2.2.2.2.2.2.1) := (blk_cell hI 5).trans rfl
      have f5 := blk_frozen hT 5
      have t5 : wr.cell? ⟨w.heap.size, 5, none⟩ = some (.int .i64 0) := (blk_cell hT 5).trans rfl
      have q6 : wr.cell? ⟨w.heap.size + 1, 6, none⟩ = some (.int .i64 s.2.2.2.2.2.2.2.2.1) := (blk_cell hI 6).trans rfl
      have f6 := blk_frozen hT 6
      have t6 : wr.cell? ⟨w.heap.size, 6, none⟩ = some (.int .i64 0) := (blk_cell hT 6).trans rfl
      have q7 : wr.cell? ⟨w.heap.size + 1, 7, none⟩ = some (.int .i64 s.2.2.2.2.2.2.2.2.2.1) := (blk_cell hI 7).trans rfl
      have f7 := blk_frozen hT 7
      have t7 : wr.cell? ⟨w.heap.size, 7, none⟩ = some (.int .i64 0) := (blk_cell hT 7).trans rfl
      have q8 : wr.cell? ⟨w.heap.size + 1, 8, none⟩ = some (.int .i64 s.2.2.2.2.2.2.2.2.2.2) := (blk_cell hI 8).trans rfl
      have f8 := blk_frozen hT 8
      have t8 : wr.cell? ⟨w.heap.size, 8, none⟩ = some (.int .i64 0) := (blk_cell hT 8).trans rfl
      have HB := Aside0.mk HA.out.2.2.2
      have HTT := Aside0.mk hT
      clear hI hT
      go_wp2
      go_region
      all_goals go_wp2
      refine bodyPost_ret (results_list (rs := [.tmp 10, .cell 11 76]) rfl (by simp) (.tmp (.cell w.heap.size 76 #[.int .i64 s.2.2.1, .int .i64 s.2.2.2.1, .int .i64 s.2.2.2.2.1, .int .i64 s.2.2.2.2.2.1, .int .i64 s.2.2.2.2.2.2.1, .int .i64 s.2.2.2.2.2.2.2.1, .int .i64 s.2.2.2.2.2.2.2.2.1, .int .i64 s.2.2.2.2.2.2.2.2.2.1, .int .i64 s.2.2.2.2.2.2.2.2.2.2] (0, 0) _ rfl ?hg hu3 rfl (by kernel_rfl) .nil))) rfl ?_
      case hg =>
        (try with_reducible refine blk_drew ?_)
        refine blk_put (cs := #[.int .i64 s.2.2.1, .int .i64 s.2.2.2.1, .int .i64 s.2.2.2.2.1, .int .i64 s.2.2.2.2.2.1, .int .i64 s.2.2.2.2.2.2.1, .int .i64 s.2.2.2.2.2.2.2.1, .int .i64 s.2.2.2.2.2.2.2.2.1, .int .i64 s.2.2.2.2.2.2.2.2.2.1, .int .i64 0]) ?_ 8 _ rfl
        refine blk_put (cs := #[.int .i64 s.2.2.1, .int .i64 s.2.2.2.1, .int .i64 s.2.2.2.2.1, .int .i64 s.2.2.2.2.2.1, .int .i64 s.2.2.2.2.2.2.1, .int .i64 s.2.2.2.2.2.2.2.1, .int .i64 s.2.2.2.2.2.2.2.2.1, .int .i64 0, .int .i64 0]) ?_ 7 _ rfl
        refine blk_put (cs := #[.int .i64 s.2.2.1, .int .i64 s.2.2.2.1, .int .i64 s.2.2.2.2.1, .int .i64 s.2.2.2.2.2.1, .int .i64 s.2.2.2.2.2.2.1, .int .i64 s.2.2.2.2.2.2.2.1, .int .i64 0, .int .i64 0, .int .i64 0]) ?_ 6 _ rfl
        refine blk_put (cs := #[.int .i64 s.2.2.1, .int .i64 s.2.2.2.1, .int .i64 s.2.2.2.2.1, .int .i64 s.2.2.2.2.2.1, .int .i64 s.2.2.2.2.2.2.1, .int .i64 0, .int .i64 0, .int .i64 0, .int .i64 0]) ?_ 5 _ rfl
        refine blk_put (cs := #[.int .i64 s.2.2.1, .int .i64 s.2.2.2.1, .int .i64 s.2.2.2.2.1, .int .i64 s.2.2.2.2.2.1, .int .i64 0, .int .i64 0, .int .i64 0, .int .i64 0, .int .i64 0]) ?_ 4 _ rfl
        refine blk_put (cs := #[.int .i64 s.2.2.1, .int .i64 s.2.2.2.1, .int .i64 s.2.2.2.2.1, .int .i64 0, .int .i64 0, .int .i64 0, .int .i64 0, .int .i64 0, .int .i64 0]) ?_ 3 _ rfl
        refine blk_put (cs := #[.int .i64 s.2.2.1, .int .i64 s.2.2.2.1, .int .i64 0, .int .i64 0, .int .i64 0, .int .i64 0, .int .i64 0, .int .i64 0, .int .i64 0]) ?_ 2 _ rfl
        refine blk_put (cs := #[.int .i64 s.2.2.1, .int .i64 0, .int .i64 0, .int .i64 0, .int .i64 0, .int .i64 0, .int .i64 0, .int .i64 0, .int .i64 0]) ?_ 1 _ rfl
        refine blk_put (cs := #[.int .i64 0, .int .i64 0, .int .i64 0, .int .i64 0, .int .i64 0, .int .i64 0, .int .i64 0, .int .i64 0, .int .i64 0]) ?_ 0 _ rfl
        exact HTT.out
      refine And.intro rfl ?_
      repeat (first | with_reducible exact HB.out | (with_reducible refine pw_below_drewN ?_ _) | (with_reducible refine below_drew1 ?_) | refine below_set ?_ (Nat.le_refl _))
theorem rdOk_facts {ws xs : List Int} {depth : Int} (h : rdOk ws xs depth = true) : ws.length = xs.length ∧ 1 ≤ depth ∧ depth ≤ ws.length ∧ (ws.length : Int) ≤ 4611686018427387903 := by
  unfold rdOk at h
  simp only [Bool.and_eq_true, decide_eq_true_eq] at h
  exact ⟨h.1.1.1, h.1.1.2, h.1.2, h.2⟩
theorem spillwayref20_Dot.calls (A0 : Option Addr) (c0 : Nat) (l0 : List Int) (A1 : Option Addr) (c1 : Nat) (l1 : List Int) (a2 : Int) (a3 : Int) (a4 : Int) (r1 r2 r3 r4 r5 r6 r7 r8 r9 r10 : Int) (w : World)
    (hr0 : Kd.C (Kd.int .i64) w A0 l0.length l0) (hc0 : l0.length ≤ c0) (hr1 : Kd.C (Kd.int .i64) w A1 l1.length l1) (hc1 : l1.length ≤ c1) (h : spillwayref20_Dot.f l0 l1 a2 a3 a4 = some (r1, r2, r3, r4, r5, r6, r7, r8, r9, r10)) :
    Calls Try.prog 40 #[.slice A0 l0.length c0, .slice A1 l1.length c1, .int .i64 a2, .int .i64 a3, .int .i64 a4] w fun e w' =>
      e = .returned (.tuple #[.int .i64 r1, .agg #[.int .i64 r2, .int .i64 r3, .int .i64 r4, .int .i64 r5, .int .i64 r6, .int .i64 r7, .int .i64 r8, .int .i64 r9, .int .i64 r10]]) ∧ Below w.heap.size w w' := by
  unfold spillwayref20_Dot.f at h
  by_cases hk : rdOk l0 l1 a3 = true
  · rw [if_pos hk] at h
    obtain ⟨s, hs, h⟩ := Option.bind_eq_some_iff.mp h
    have h2 := Option.some.inj h
    have := spillwayref20_Dot.good A0 c0 l0 A1 c1 l1 a2 a3 a4 s w ⟨hr0⟩ hc0 ⟨hr1⟩ hc1 ⟨rdOk_facts hk⟩ ⟨hs⟩
    obtain ⟨s1, s2, s3⟩ := s
    simp only [Prod.mk.injEq] at h2
    obtain ⟨rfl, rfl⟩ := h2
    exact this
  · rw [if_neg hk] at h; exact absurd h (by simp)
end

end Go.Proofs.Ytnbhimgojnclbaa.CLneDots
