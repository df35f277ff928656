-- The row of the law spillwaylaw20_LaneSums, out of its pure statement and the printed walk.
import Derived.Test.YtnbhimgojnclbaaRows
import Derived.Test.YtnbhimgojnclbaaCLneSumsSayLaneSums
import Derived.Test.YtnbhimgojnclbaaPureLaneSums
import Derived.WalkKit
import Derived.ProofKit
import Derived.OpenShut
import Derived.ShutString
import Derived.ChangeOld
import Derived.Below
import Derived.SizedLaws
import Derived.Carry
namespace Go.Proofs.Ytnbhimgojnclbaa.laneSums
open Go.ChangeShapes Go.WideShapes Go.ChangeAt Go.RowKit Go.Proofs.Ytnbhimgojnclbaa.Opn Go.Proofs.YtnbhimgojnclbaaW.PrintWords Go.Proofs.Ytnbhimgojnclbaa.CLneSums
open Go.ChangeMaps (open_string shut_string)
set_option linter.unusedVariables false
theorem own : ownKnob Try.prog.godebug = none := by kernel_rfl
theorem laidOut : laidOutB Try.prog = true := by kernel_rfl
set_option maxRecDepth 100000 in
theorem lifted (os : Os) (started : os.Started) (H : Type) (enc : TypeId × Value → H) :
    ReturnsInHanded {} Try.checked os 9 .any (Rows.laneSumsSpec.pre6 enc Try.prog Try.f9 Rows.laneSumsRow.domain false) (Rows.laneSumsSpec.post enc Try.prog Try.f9 false true false false) := by
  refine returnsInHanded_of_change_sized (C := Try.checked) own started (by kernel_rfl) Try.func9
    (ChangeSpec.witness6 (enc := enc) (C := Try.checked) false ⟨#[], #[.slice none 0 0, .slice none 0 0], []⟩ 8 (by kernel_rfl) (by kernel_rfl) (by kernel_rfl) (by kernel_rfl)) ?_
  intro W base args ds gs before hval0 hW hcnd hsz0 _
  have hsz : (DataW.weightsEach Try.prog (Try.f9.params.toList ++ Rows.laneSumsSpec.plain.varTypes Try.prog) (ds ++ gs)).all (· ≤ reachBytes) = true := hsz0
  have hval : ∀ (j : Nat) t v, Try.f9.params[j]? = some t → args[j]? = some v → Value.okWide Try.prog W .any base t v := hval0
  have hW' := hW
  obtain ⟨p, q, hA0, hV, rfl, hfz, hnd⟩ := hW
  have hA : DataW.TrodAll enc Try.prog W 0 (fun _ => true) true Try.f9.params.toList args.toList ds p := hA0
  rw [Try.params9] at hA hval hsz
  obtain ⟨v0, vs0, d0, ds0, p0, q0, hargs, rfl, rfl, h0, r0⟩ := trodAll_cons hA
  obtain ⟨v1, vs1, d1, ds1, p1, q1, rfl, rfl, rfl, h1, r1⟩ := trodAll_cons r0
  obtain ⟨rfl, rfl, rfl⟩ := trodAll_nil r1
  obtain rfl : args = #[v0, v1] := by cases args; simp_all
  obtain ⟨rfl, rfl⟩ := trodVars_none hV
  have k0 := h0
  have lt0 : ∀ x ∈ p0, x.block < W.heap.size := by obtain ⟨m, hm⟩ := k0; exact DataW.trod_lt m _ _ _ hm
  obtain ⟨y0, K0, w0⟩ := Opn.arg (Opn.slice (B := 2) Try.underlying61 (by kernel_rfl) (by kernel_rfl) (Opn.int Try.underlying51 (by kernel_rfl))) h0 (j := 0) (t := 61) hsz rfl rfl
  obtain ⟨A0, len0, c0, rfl⟩ := okWide_slice Try.underlying61 (hval 0 61 v0 rfl rfl)
  obtain ⟨A0_, c0_, hcs, hc0, hr0⟩ := K0
  have hcs' : [Value.slice A0 len0 c0] = [.slice A0_ y0.length c0_] := hcs
  injection hcs' with hcs' _
  injection hcs' with e1 e2 e3
  subst e1; subst e2; subst e3
  have k1 := h1
  have lt1 : ∀ x ∈ p1, x.block < W.heap.size := by obtain ⟨m, hm⟩ := k1; exact DataW.trod_lt m _ _ _ hm
  obtain ⟨y1, K1, w1⟩ := Opn.arg (Opn.slice (B := 4) Try.underlying62 (by kernel_rfl) (by kernel_rfl) (Opn.int Try.underlying21 (by kernel_rfl))) h1 (j := 1) (t := 62) hsz rfl rfl
  obtain ⟨A1, len1, c1, rfl⟩ := okWide_slice Try.underlying62 (hval 1 62 v1 rfl rfl)
  obtain ⟨A1_, c1_, hcs, hc1, hr1⟩ := K1
  have hcs' : [Value.slice A1 len1 c1] = [.slice A1_ y1.length c1_] := hcs
  injection hcs' with hcs' _
  injection hcs' with e1 e2 e3
  subst e1; subst e2; subst e3
  clear hA0 hval0 hsz0 hsz
  refine (spillwaylaw20_LaneSums.walk Pure.LaneSums A0 c0 y0 A1 c1 y1 W w0 w1 hr0 hc0 hr1 hc1).mono fun e W' ⟨he, bel⟩ => ?_
  subst he
  exact ⟨_, rfl, _, _, _, [], _, [], hW', trodAll_mk1 (shut_bool Try.underlying4 _), (trodAll_cons_mk (Below.trod laidOut (by kernel_rfl) (of_decide_eq_true (by kernel_rfl)) k0 bel lt0) (trodAll_cons_mk (Below.trod laidOut (by kernel_rfl) (of_decide_eq_true (by kernel_rfl)) k1 bel lt1) trodAll_mk0)), rfl, bel.frame _, fun h => by cases h⟩
theorem over : Rows.laneSumsRow.holds Try.pinned (OpenSpec.ofChange Rows.laneSumsSpec) :=
  OpenClaim.holds_of_wide 9 Try.f9 rfl rfl rfl rfl rfl rfl rfl ⟨rfl, rfl, rfl, rfl, rfl⟩ rfl rfl rfl rfl rfl (by kernel_rfl) Try.func9 (by kernel_rfl)
    (of_decide_eq_true (by kernel_rfl)) (by unfold Func.isWrapper; first | (rw [if_pos (by decide +kernel)]; kernel_rfl) | (rw [if_neg (by decide +kernel)]; exact ⟨rfl, rfl⟩))
    (fun os started H enc _ => lifted os started H enc)
theorem proved : Rows.LaneSumsSaid := over
#print axioms proved
end Go.Proofs.Ytnbhimgojnclbaa.laneSums
namespace Go.Proofs.Ytnbhimgojnclbaa
/-- The row, under a short name, for the claim. -/
theorem laneSums_holds : Rows.LaneSumsSaid := laneSums.proved
end Go.Proofs.Ytnbhimgojnclbaa
