-- The row of the law spillwaylaw02_FixqFinishes, out of its pure statement and the printed walk.
import Derived.Test.YthjfmgdldjbkgaaRows
import Derived.Test.YthjfmgdldjbkgaaCFnishesSayFixqFinishes
import Derived.Test.YthjfmgdldjbkgaaPureFixqFinishes
import Derived.WalkKit
import Derived.ProofKit
import Derived.OpenShut
import Derived.ShutString
import Derived.ChangeOld
import Derived.Below
import Derived.SizedLaws
import Derived.Carry
namespace Go.Proofs.Ythjfmgdldjbkgaa.fixqFinishes
open Go.ChangeShapes Go.WideShapes Go.ChangeAt Go.RowKit Go.Proofs.Ythjfmgdldjbkgaa.Opn Go.Proofs.YthjfmgdldjbkgaaW.PrintWords Go.Proofs.Ythjfmgdldjbkgaa.CFnishes
open Go.ChangeMaps (open_string shut_string)
set_option linter.unusedVariables false
theorem own : ownKnob Try.prog.godebug = none := by kernel_rfl
theorem laidOut : laidOutB Try.prog = true := by kernel_rfl
set_option maxRecDepth 100000 in
theorem lifted (os : Os) (started : os.Started) (H : Type) (enc : TypeId × Value → H) :
    ReturnsInHanded {} Try.checked os 12 .any (Rows.fixqFinishesSpec.pre6 enc Try.prog Try.f12 Rows.fixqFinishesRow.domain false) (Rows.fixqFinishesSpec.post enc Try.prog Try.f12 false true false false) := by
  refine returnsInHanded_of_change_sized (C := Try.checked) own started (by kernel_rfl) Try.func12
    (ChangeSpec.witness6 (enc := enc) (C := Try.checked) false ⟨#[], #[.agg #[.int .i64 0, .int .i64 0, .int .i64 0, .int .i64 0]], []⟩ 8 (by kernel_rfl) (by kernel_rfl) (by kernel_rfl) (by kernel_rfl)) ?_
  intro W base args ds gs before hval0 hW hcnd hsz0 _
  have hsz : (DataW.weightsEach Try.prog (Try.f12.params.toList ++ Rows.fixqFinishesSpec.plain.varTypes Try.prog) (ds ++ gs)).all (· ≤ reachBytes) = true := hsz0
  have hval : ∀ (j : Nat) t v, Try.f12.params[j]? = some t → args[j]? = some v → Value.okWide Try.prog W .any base t v := hval0
  have hW' := hW
  obtain ⟨p, q, hA0, hV, rfl, hfz, hnd⟩ := hW
  have hA : DataW.TrodAll enc Try.prog W 0 (fun _ => true) true Try.f12.params.toList args.toList ds p := hA0
  rw [Try.params12] at hA hval hsz
  obtain ⟨v0, vs0, d0, ds0, p0, q0, hargs, rfl, rfl, h0, r0⟩ := trodAll_cons hA
  obtain ⟨rfl, rfl, rfl⟩ := trodAll_nil r0
  obtain rfl : args = #[v0] := by cases args; simp_all
  obtain ⟨rfl, rfl⟩ := trodVars_none hV
  have k0 := h0
  have lt0 : ∀ x ∈ p0, x.block < W.heap.size := by obtain ⟨m, hm⟩ := k0; exact DataW.trod_lt m _ _ _ hm
  obtain ⟨y0, K0, w0⟩ := Opn.arg (Opn.struct Try.underlying64 (by kernel_rfl) (Flds.cons rfl (Opn.int Try.underlying2 (by kernel_rfl)) (Flds.cons rfl (Opn.int Try.underlying3 (by kernel_rfl)) (Flds.cons rfl (Opn.int Try.underlying3 (by kernel_rfl)) (Flds.one rfl (Opn.int Try.underlying3 (by kernel_rfl))))))) h0 (j := 0) (t := 64) hsz rfl rfl
  obtain ⟨cs0, rfl⟩ := okWide_agg Try.underlying64 (hval 0 64 v0 rfl rfl)
  obtain ⟨_, _, hcs, rfl, ⟨_, _, rfl, rfl, ⟨_, _, rfl, rfl, rfl⟩⟩⟩ := K0
  obtain rfl : cs0 = #[.int .i64 y0.1, .int .i64 y0.2.1, .int .i64 y0.2.2.1, .int .i64 y0.2.2.2] := by rw [← Array.toList_inj]; exact hcs
  clear hA0 hval0 hsz0 hsz
  refine (spillwaylaw02_FixqFinishes.walk Pure.FixqFinishes (y0.1) (y0.2.1) (y0.2.2.1) (y0.2.2.2) W (w0.1) (w0.2.1) (w0.2.2.1) (w0.2.2.2) ).mono fun e W' ⟨he, bel⟩ => ?_
  subst he
  exact ⟨_, rfl, _, _, _, [], _, [], hW', trodAll_mk1 (shut_bool Try.underlying4 _), (trodAll_cons_mk (Below.trod laidOut (by kernel_rfl) (of_decide_eq_true (by kernel_rfl)) k0 bel lt0) trodAll_mk0), rfl, bel.frame _, fun h => by cases h⟩
theorem over : Rows.fixqFinishesRow.holds Try.pinned (OpenSpec.ofChange Rows.fixqFinishesSpec) :=
  OpenClaim.holds_of_wide 12 Try.f12 rfl rfl rfl rfl rfl rfl rfl ⟨rfl, rfl, rfl, rfl, rfl⟩ rfl rfl rfl rfl rfl (by kernel_rfl) Try.func12 (by kernel_rfl)
    (of_decide_eq_true (by kernel_rfl)) (by unfold Func.isWrapper; first | (rw [if_pos (by decide +kernel)]; kernel_rfl) | (rw [if_neg (by decide +kernel)]; exact ⟨rfl, rfl⟩))
    (fun os started H enc _ => lifted os started H enc)
theorem proved : Rows.FixqFinishesSaid := over
#print axioms proved
end Go.Proofs.Ythjfmgdldjbkgaa.fixqFinishes
namespace Go.Proofs.Ythjfmgdldjbkgaa
/-- The row, under a short name, for the claim. -/
theorem fixqFinishes_holds : Rows.FixqFinishesSaid := fixqFinishes.proved
end Go.Proofs.Ythjfmgdldjbkgaa
