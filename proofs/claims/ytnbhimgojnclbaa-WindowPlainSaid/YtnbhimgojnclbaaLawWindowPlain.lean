-- The row of the law spillwaylaw06_WindowPlain, out of its pure statement and the printed walk.
import Derived.Test.YtnbhimgojnclbaaRows
import Derived.Test.YtnbhimgojnclbaaCWwPlainSayWindowPlain
import Derived.Test.YtnbhimgojnclbaaPureWindowPlain
import Derived.WalkKit
import Derived.ProofKit
import Derived.OpenShut
import Derived.ShutString
import Derived.ChangeOld
import Derived.Below
import Derived.SizedLaws
import Derived.Carry
namespace Go.Proofs.Ytnbhimgojnclbaa.windowPlain
open Go.ChangeShapes Go.WideShapes Go.ChangeAt Go.RowKit Go.Proofs.Ytnbhimgojnclbaa.Opn Go.Proofs.YtnbhimgojnclbaaW.PrintWords Go.Proofs.Ytnbhimgojnclbaa.CWwPlain
open Go.ChangeMaps (open_string shut_string)
set_option linter.unusedVariables false
theorem own : ownKnob Try.prog.godebug = none := by kernel_rfl
theorem laidOut : laidOutB Try.prog = true := by kernel_rfl
set_option maxRecDepth 100000 in
theorem lifted (os : Os) (started : os.Started) (H : Type) (enc : TypeId × Value → H) :
    ReturnsInHanded {} Try.checked os 7 .any (Rows.windowPlainSpec.pre6 enc Try.prog Try.f7 Rows.windowPlainRow.domain false) (Rows.windowPlainSpec.post enc Try.prog Try.f7 false true false false) := by
  refine returnsInHanded_of_change_sized (C := Try.checked) own started (by kernel_rfl) Try.func7
    (ChangeSpec.witness6 (enc := enc) (C := Try.checked) false ⟨#[], #[.agg #[.int .i64 0, .int .i64 0, .int .i64 0], .agg #[.int .i64 0, .int .i64 0, .int .i64 0, .int .i64 0, .int .i64 0, .int .i64 0, .int .i64 0, .int .i64 0], .int .i64 0], []⟩ 8 (by kernel_rfl) (by kernel_rfl) (by kernel_rfl) (by kernel_rfl)) ?_
  intro W base args ds gs before hval0 hW hcnd hsz0 _
  have hsz : (DataW.weightsEach Try.prog (Try.f7.params.toList ++ Rows.windowPlainSpec.plain.varTypes Try.prog) (ds ++ gs)).all (· ≤ reachBytes) = true := hsz0
  have hval : ∀ (j : Nat) t v, Try.f7.params[j]? = some t → args[j]? = some v → Value.okWide Try.prog W .any base t v := hval0
  have hW' := hW
  obtain ⟨p, q, hA0, hV, rfl, hfz, hnd⟩ := hW
  have hA : DataW.TrodAll enc Try.prog W 0 (fun _ => true) true Try.f7.params.toList args.toList ds p := hA0
  rw [Try.params7] at hA hval hsz
  obtain ⟨v0, vs0, d0, ds0, p0, q0, hargs, rfl, rfl, h0, r0⟩ := trodAll_cons hA
  obtain ⟨v1, vs1, d1, ds1, p1, q1, rfl, rfl, rfl, h1, r1⟩ := trodAll_cons r0
  obtain ⟨v2, vs2, d2, ds2, p2, q2, rfl, rfl, rfl, h2, r2⟩ := trodAll_cons r1
  obtain ⟨rfl, rfl, rfl⟩ := trodAll_nil r2
  obtain rfl : args = #[v0, v1, v2] := by cases args; simp_all
  obtain ⟨rfl, rfl⟩ := trodVars_none hV
  have k0 := h0
  have lt0 : ∀ x ∈ p0, x.block < W.heap.size := by obtain ⟨m, hm⟩ := k0; exact DataW.trod_lt m _ _ _ hm
  obtain ⟨y0, K0, w0⟩ := Opn.arg (Opn.struct Try.underlying23 (by kernel_rfl) (Flds.cons rfl (Opn.int Try.underlying3 (by kernel_rfl)) (Flds.cons rfl (Opn.int Try.underlying3 (by kernel_rfl)) (Flds.one rfl (Opn.int Try.underlying3 (by kernel_rfl)))))) h0 (j := 0) (t := 23) hsz rfl rfl
  obtain ⟨cs0, rfl⟩ := okWide_agg Try.underlying23 (hval 0 23 v0 rfl rfl)
  obtain ⟨_, _, hcs, rfl, ⟨_, _, rfl, rfl, rfl⟩⟩ := K0
  obtain rfl : cs0 = #[.int .i64 y0.1, .int .i64 y0.2.1, .int .i64 y0.2.2] := by rw [← Array.toList_inj]; exact hcs
  have k1 := h1
  have lt1 : ∀ x ∈ p1, x.block < W.heap.size := by obtain ⟨m, hm⟩ := k1; exact DataW.trod_lt m _ _ _ hm
  obtain ⟨y1, K1, w1⟩ := Opn.arg (Opn.struct Try.underlying25 (by kernel_rfl) (Flds.cons rfl (Opn.int Try.underlying3 (by kernel_rfl)) (Flds.cons rfl (Opn.int Try.underlying3 (by kernel_rfl)) (Flds.cons rfl (Opn.int Try.underlying3 (by kernel_rfl)) (Flds.cons rfl (Opn.int Try.underlying3 (by kernel_rfl)) (Flds.cons rfl (Opn.int Try.underlying3 (by kernel_rfl)) (Flds.cons rfl (Opn.int Try.underlying3 (by kernel_rfl)) (Flds.cons rfl (Opn.int Try.underlying3 (by kernel_rfl)) (Flds.one rfl (Opn.int Try.underlying3 (by kernel_rfl))))))))))) h1 (j := 1) (t := 25) hsz rfl rfl
  obtain ⟨cs1, rfl⟩ := okWide_agg Try.underlying25 (hval 1 25 v1 rfl rfl)
  obtain ⟨_, _, hcs, rfl, ⟨_, _, rfl, rfl, ⟨_, _, rfl, rfl, ⟨_, _, rfl, rfl, ⟨_, _, rfl, rfl, ⟨_, _, rfl, rfl, ⟨_, _, rfl, rfl, rfl⟩⟩⟩⟩⟩⟩⟩ := K1
  obtain rfl : cs1 = #[.int .i64 y1.1, .int .i64 y1.2.1, .int .i64 y1.2.2.1, .int .i64 y1.2.2.2.1, .int .i64 y1.2.2.2.2.1, .int .i64 y1.2.2.2.2.2.1, .int .i64 y1.2.2.2.2.2.2.1, .int .i64 y1.2.2.2.2.2.2.2] := by rw [← Array.toList_inj]; exact hcs
  obtain ⟨a2, rfl, rfl, rfl, w2⟩ := open_int Try.underlying3 (hval 2 3 v2 rfl rfl) h2
  clear hA0 hval0 hsz0 hsz
  refine (spillwaylaw06_WindowPlain.walk Pure.WindowPlain (y0.1) (y0.2.1) (y0.2.2) (y1.1) (y1.2.1) (y1.2.2.1) (y1.2.2.2.1) (y1.2.2.2.2.1) (y1.2.2.2.2.2.1) (y1.2.2.2.2.2.2.1) (y1.2.2.2.2.2.2.2) a2 W (w0.1) (w0.2.1) (w0.2.2) (w1.1) (w1.2.1) (w1.2.2.1) (w1.2.2.2.1) (w1.2.2.2.2.1) (w1.2.2.2.2.2.1) (w1.2.2.2.2.2.2.1) (w1.2.2.2.2.2.2.2) w2 ).mono fun e W' ⟨he, bel⟩ => ?_
  subst he
  exact ⟨_, rfl, _, _, _, [], _, [], hW', trodAll_mk1 (shut_bool Try.underlying4 _), (trodAll_cons_mk (Below.trod laidOut (by kernel_rfl) (of_decide_eq_true (by kernel_rfl)) k0 bel lt0) (trodAll_cons_mk (Below.trod laidOut (by kernel_rfl) (of_decide_eq_true (by kernel_rfl)) k1 bel lt1) (trodAll_cons_mk (shut_int Try.underlying3 w2) trodAll_mk0))), rfl, bel.frame _, fun h => by cases h⟩
theorem over : Rows.windowPlainRow.holds Try.pinned (OpenSpec.ofChange Rows.windowPlainSpec) :=
  OpenClaim.holds_of_wide 7 Try.f7 rfl rfl rfl rfl rfl rfl rfl ⟨rfl, rfl, rfl, rfl, rfl⟩ rfl rfl rfl rfl rfl (by kernel_rfl) Try.func7 (by kernel_rfl)
    (of_decide_eq_true (by kernel_rfl)) (by unfold Func.isWrapper; first | (rw [if_pos (by decide +kernel)]; kernel_rfl) | (rw [if_neg (by decide +kernel)]; exact ⟨rfl, rfl⟩))
    (fun os started H enc _ => lifted os started H enc)
theorem proved : Rows.WindowPlainSaid := over
#print axioms proved
end Go.Proofs.Ytnbhimgojnclbaa.windowPlain
namespace Go.Proofs.Ytnbhimgojnclbaa
/-- The row, under a short name, for the claim. -/
theorem windowPlain_holds : Rows.WindowPlainSaid := windowPlain.proved
end Go.Proofs.Ytnbhimgojnclbaa
