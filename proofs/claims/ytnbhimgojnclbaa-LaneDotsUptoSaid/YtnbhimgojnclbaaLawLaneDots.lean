-- The row of the law spillwaylaw20_LaneDots, out of its pure statement and the printed walk.
import Derived.Test.YtnbhimgojnclbaaRows
import Derived.Test.YtnbhimgojnclbaaCLneDotsSayLaneDots
import Derived.Test.YtnbhimgojnclbaaPureLaneDots
import Derived.WalkKit
import Derived.ProofKit
import Derived.OpenShut
import Derived.ShutString
import Derived.ChangeOld
import Derived.Below
import Derived.SizedLaws
import Derived.Carry
import Derived.JoinedCond
namespace Go.Proofs.Ytnbhimgojnclbaa.laneDots
open Go.ChangeShapes Go.WideShapes Go.ChangeAt Go.RowKit Go.Proofs.Ytnbhimgojnclbaa.OpnU Go.Proofs.YtnbhimgojnclbaaW.PrintWords Go.Proofs.Ytnbhimgojnclbaa.CLneDots
open Go.ChangeMaps (open_string shut_string)
set_option linter.unusedVariables false
theorem own : ownKnob Try.prog.godebug = none := by kernel_rfl
theorem laidOut : laidOutB Try.prog = true := by kernel_rfl
set_option maxRecDepth 100000 in
theorem lifted (os : Os) (started : os.Started) (H : Type) (enc : TypeId × Value → H) (F : Stop.Interp) :
    ReturnsInHanded {} Try.checked os 10 .any ((Rows.OpenSpec.upto Rows.laneDotsSpec).pre6 enc Try.prog Try.f10 Rows.laneDotsUptoRow.domain false) (((Rows.OpenSpec.upto Rows.laneDotsSpec).at F).post enc Try.prog Try.f10 false true false false) := by
  refine returnsInHanded_of_cond (C := Try.checked) (s := Rows.OpenSpec.upto Rows.laneDotsSpec) (k := Rows.uptoSmall) rfl own started (by kernel_rfl) Try.func10
    (OpenSpec.witness (enc := enc) (C := Try.checked) (s := Rows.OpenSpec.upto Rows.laneDotsSpec) (k := Rows.uptoSmall) rfl false ⟨#[], #[.agg #[.slice none 0 0, .slice none 0 0, .int .i64 0, .int .i64 0, .int .i32 0]], []⟩ 8 (by kernel_rfl) (by kernel_rfl) (by kernel_rfl)
      (x := ([.agg [.nil, .nil, .lit (.int .i64 0), .lit (.int .i64 0), .lit (.int .i32 0)]], [], [])) (by kernel_rfl) rfl (by kernel_rfl)) ?_
  intro W base args ds gs before hval0 hW hcnd hk0 _
  have hk : Rows.uptoSmall H (ds ++ gs) = true := hk0
  have hval : ∀ (j : Nat) t v, Try.f10.params[j]? = some t → args[j]? = some v → Value.okWide Try.prog W .any base t v := hval0
  have hW' := hW
  obtain ⟨p, q, hA0, hV, rfl, hfz, hnd⟩ := hW
  have hA : DataW.TrodAll enc Try.prog W 0 (fun _ => true) true Try.f10.params.toList args.toList ds p := hA0
  rw [Try.params10] at hA hval
  obtain ⟨v0, vs0, d0, ds0, p0, q0, hargs, rfl, rfl, h0, r0⟩ := trodAll_cons hA
  obtain ⟨rfl, rfl, rfl⟩ := trodAll_nil r0
  obtain rfl : args = #[v0] := by cases args; simp_all
  obtain ⟨rfl, rfl⟩ := trodVars_none hV
  have k0 := h0
  have lt0 : ∀ x ∈ p0, x.block < W.heap.size := by obtain ⟨m, hm⟩ := k0; exact DataW.trod_lt m _ _ _ hm
  obtain ⟨y0, K0, w0⟩ := Opn.arg (Opn.struct Try.underlying70 (by kernel_rfl) (Flds.cons rfl (Opn.slice Try.underlying61 (by kernel_rfl) (Opn.int Try.underlying51 (by kernel_rfl))) (Flds.cons rfl (Opn.slice Try.underlying68 (by kernel_rfl) (Opn.int Try.underlying74 (by kernel_rfl))) (Flds.cons rfl (Opn.int Try.underlying3 (by kernel_rfl)) (Flds.cons rfl (Opn.int Try.underlying3 (by kernel_rfl)) (Flds.one rfl (Opn.int Try.underlying21 (by kernel_rfl)))))))) h0 (j := 0) hk rfl
  obtain ⟨cs0, rfl⟩ := okWide_agg Try.underlying70 (hval 0 70 v0 rfl rfl)
  obtain ⟨_, _, hcs, ⟨A0_0, c0_0, rfl, hc0_0, hr0_0⟩, ⟨_, _, rfl, ⟨A0_1, c0_1, rfl, hc0_1, hr0_1⟩, ⟨_, _, rfl, rfl, ⟨_, _, rfl, rfl, rfl⟩⟩⟩⟩ := K0
  obtain rfl : cs0 = #[.slice A0_0 (y0.1).length c0_0, .slice A0_1 (y0.2.1).length c0_1, .int .i64 y0.2.2.1, .int .i64 y0.2.2.2.1, .int .i32 y0.2.2.2.2] := by rw [← Array.toList_inj]; exact hcs
  clear hA0 hval0 hk0 hk
  refine (spillwaylaw20_LaneDots.walk Pure.LaneDots A0_0 c0_0 (y0.1) A0_1 c0_1 (y0.2.1) (y0.2.2.1) (y0.2.2.2.1) (y0.2.2.2.2) W (w0.1) (w0.2.1) (w0.2.2.1) (w0.2.2.2.1) (w0.2.2.2.2) hr0_0 hc0_0 hr0_1 hc0_1).mono fun e W' ⟨he, bel⟩ => ?_
  subst he
  exact ⟨_, rfl, _, _, _, [], _, [], hW', trodAll_mk1 (shut_bool Try.underlying4 _), (trodAll_cons_mk (Below.trod laidOut (by kernel_rfl) (of_decide_eq_true (by kernel_rfl)) k0 bel lt0) trodAll_mk0), rfl, bel.frame _, fun h => by cases h⟩
theorem over : Rows.laneDotsUptoRow.holds Try.pinned (Rows.OpenSpec.upto Rows.laneDotsSpec) :=
  OpenClaim.holds_of_cond 10 Try.f10 rfl rfl rfl rfl rfl rfl rfl ⟨rfl, rfl, rfl, rfl, rfl⟩ rfl rfl rfl rfl rfl (by kernel_rfl) Try.func10 (by kernel_rfl)
    (of_decide_eq_true (by kernel_rfl)) (by unfold Func.isWrapper; first | (rw [if_pos (by decide +kernel)]; kernel_rfl) | (rw [if_neg (by decide +kernel)]; exact ⟨rfl, rfl⟩))
    (fun os started H enc _ F => lifted os started H enc F)
theorem proved : Rows.LaneDotsUptoSaid := over
#print axioms proved
end Go.Proofs.Ytnbhimgojnclbaa.laneDots
namespace Go.Proofs.Ytnbhimgojnclbaa
/-- The row, under a short name, for the claim. -/
theorem laneDots_holds : Rows.LaneDotsUptoSaid := laneDots.proved
end Go.Proofs.Ytnbhimgojnclbaa
